/- Contracts of package entry: the fields of a profile, written. -/
import Derived.Test.YtihbihkmchacnaaGreatDoorFoE
import Derived.Test.YtihbihkmchacnaaGreatDoorEc
namespace Go.Proofs.YtihbihkmchacnaaGreatDoor
open Go.RowKit
set_option maxHeartbeats 1600000
set_option maxRecDepth 8000
/-- a row of grants in block ab -/
def GB (w : World) (ab ao : Nat) (g : List Gr) : Prop := ∀ k (h : k < g.length), w.cell? ⟨ab, ao + k * 3, none⟩ = some (.string g[k].1) ∧ w.cell? ⟨ab, ao + k * 3 + 1, none⟩ = some (.bool g[k].2.1) ∧ w.cell? ⟨ab, ao + k * 3 + 2, none⟩ = some (.int .i64 g[k].2.2)
theorem grs_le (g : List Gr) (h : ∀ x ∈ g, GrOk x) : ∀ k, (grs (g.take k)).length ≤ 220 * k
  | 0 => by simp [grs]
  | k + 1 => by
    have ih := grs_le g h k
    by_cases hk : k < g.length
    · have hx := h g[k] (List.getElem_mem hk)
      have h1 := hx.w
      have h2 := hx.l
      have e1 := enc_le10 g[k].1.size (by omega)
      have e2 := enc_le10 g[k].2.2.toNat (by omega)
      rw [List.take_succ_eq_append_getElem hk, grs_append, List.length_append]
      simp only [grs, List.length_append, List.length_cons, List.length_nil, Ds.bl_length]
      omega
    · rw [List.take_of_length_le (by omega)]
      rw [List.take_of_length_le (by omega)] at ih
      omega
theorem fw_prof (c g : Nat) (l : List UInt8) (e : En) (al gr : Value) (g2 : List Gr) (wB w : World) (hI : GS wB gr g2) (hB : Below wB.heap.size wB w) (hcB : wB.heap.size ≤ c) (h : WS w c g l (e.vals al gr)) (hP : ProfOk e g2) (hs : l.length ≤ 1000) :
    Calls Tryz.prog 145 #[.pointer (some ⟨c, 0, none⟩), .pointer (some ⟨g, 0, none⟩)] w fun r w' => r = .returned (.tuple #[]) ∧ WS w' c g (l ++ bodyP e g2) (e.vals al gr) ∧ w.grownBy w' (some c) := by
  obtain ⟨hlev, hown, hgr, hg8⟩ := hP
  have v31 := vals_31 e al gr
  rw [show e.lev = ((e.lev.toNat : Nat) : Int) by omega] at v31
  have z1 := enc_le10 e.lev.toNat (by omega)
  have z2 := enc_le10 e.owner.size (by omega)
  have z3 := enc_le10 g2.length (by omega)
  have z4 := grs_le g2 hgr
  obtain ⟨S1, e1⟩ : ∃ S, S = l ++ Wi.enc e.lev.toNat := ⟨_, rfl⟩
  obtain ⟨S2, e2⟩ : ∃ S, S = S1 ++ (Wi.enc e.owner.size ++ Ds.bl e.owner) := ⟨_, rfl⟩
  obtain ⟨S3, e3⟩ : ∃ S, S = S2 ++ Wi.enc g2.length := ⟨_, rfl⟩
  have b1 : S1.length ≤ 1010 := by rw [e1, List.length_append]; omega
  have b2 : S2.length ≤ 1300 := by rw [e2, List.length_append, List.length_append, Ds.bl_length]; omega
  have b3 : S3.length ≤ 1400 := by rw [e3, List.length_append]; omega
  have efin : l ++ bodyP e g2 = S3 ++ grs g2 := by
    rw [e3, e2, e1]; unfold bodyP; simp only [List.append_assoc]
  have c1 := fun W (hW : WS W c g l (e.vals al gr)) => ws_number c g 31 e.lev.toNat l _ W hW (by omega) (by omega) v31
  rw [← e1] at c1
  have c2 := fun W (hW : WS W c g S1 (e.vals al gr)) => ws_text c g 28 e.owner S1 _ W hW (by omega) (by omega) (vals_28 e al gr)
  rw [← e2] at c2
  have c3 := fun W (hW : WS W c g S2 (e.vals al gr)) => ws_count c g g2.length 8 S2 _ W hW (by omega) (by omega) (by omega)
  rw [← e3] at c3
  obtain ⟨aa, ac, rfl, hlz, hcells⟩ := id hI
  have v32 := vals_32 e al (.slice aa g2.length ac)
  have C1 := Lib.hid c1
  have C2 := Lib.hid c2
  have C3 := Lib.hid c3
  have HCl := Lib.hid hcells
  have hBs := hB.size
  have HB := Lib.hid hB
  have HF := Lib.hid efin
  have V32 := Lib.hid v32
  have HGR := Lib.hid hgr
  have HZ4 := Lib.hid z4
  have HH := Lib.hid h
  clear c1 c2 c3 e1 e2 e3 efin hI hB z1 z2 z3 z4 v31 v32 hcells b1 b2 hlev hown hgr h
  go_enter Tryz.func145, Tryz.ntmps145
  go_wp2_with (first
    | (go_at_call 143; (with_reducible refine (C1.out _ HH.out).mono ?_); rintro _ w1 ⟨rfl, hW1, hG1⟩; have HG1 := Lib.hid hG1; clear hG1)
    | (go_at_call 132; (with_reducible refine (C2.out _ hW1).mono ?_); rintro _ w2 ⟨rfl, hW2, hG2⟩; have v32 := hW2.2.1.cell 32 _ V32.out; have HG2 := Lib.hid (HG1.out.trans hG2); clear hG2)
    | (go_at_call 188; (with_reducible refine (C3.out _ hW2).mono ?_); rintro _ w3 ⟨rfl, hW3, hG3⟩; have v32 := hW3.2.1.cell 32 _ V32.out; obtain ⟨_, _, hcw⟩ := id hW3.1; have k1 := hcw.2.1; have HG3 := Lib.hid (HG2.out.trans hG3); clear hG3 hcw))
  go_loopw [43] (fun i wr => ∃ k : Nat, k ≤ g2.length ∧ i = .int .i64 k ∧ WS wr c g (S3 ++ grs (g2.take k)) (e.vals al (.slice aa g2.length ac)) ∧ w.grownBy wr (some c)) (fun i _ => g2.length - (intOf i).toNat)
  case atStart => exact ⟨0, Nat.zero_le _, rfl, by simpa [grs] using hW3, HG3.out⟩
  case round =>
    obtain ⟨k, hk, rfl, hWr, hGr⟩ := hrel
    have HGr := Lib.hid hGr
    have v32 := hWr.2.1.cell 32 _ V32.out
    have hBr : Below wB.heap.size wB wr := HB.out.grown hGr hBs (fun x hx => by cases hx; exact hcB)
    clear hGr
    by_cases hlt : k < g2.length
    · obtain ⟨ab, ao, rfl, hab, hcl⟩ := HCl.out (by omega)
      have hok := HGR.out g2[k] (List.getElem_mem hlt)
      obtain ⟨q0, q1, q2⟩ := hcl k hlt
      have hz := HZ4.out k
      have hLn : (S3 ++ grs (g2.take k)).length ≤ 3500 := by rw [List.length_append]; omega
      obtain ⟨L, hL⟩ : ∃ L, L = S3 ++ grs (g2.take k) := ⟨_, rfl⟩
      have hnx : S3 ++ grs (g2.take (k + 1)) = ((L ++ (Wi.enc g2[k].1.size ++ Ds.bl g2[k].1)) ++ [tb g2[k].2.1]) ++ Wi.enc g2[k].2.2.toNat := by
        rw [hL, List.take_succ_eq_append_getElem hlt, grs_append]; simp only [grs, List.append_assoc, List.append_nil]
      rw [← hL] at hWr hLn
      have ow := hok.w
      have ol := hok.l
      obtain ⟨Gk, hG⟩ : ∃ G, G = g2[k] := ⟨_, rfl⟩
      rw [← hG] at ow ol hnx q0 q1 q2
      clear hok hL hG hz hcl
      obtain ⟨gw, gg, gl⟩ := Gk
      simp only at ow ol hnx q0 q1 q2
      have y1 := enc_le10 gw.size (by omega)
      obtain ⟨n, rfl⟩ : ∃ n : Nat, gl = n := ⟨gl.toNat, by omega⟩
      simp only [Int.toNat_natCast] at hnx
      have step : ∀ W W' L', WS W c g L' (e.vals al (.slice (some ⟨ab, ao, none⟩) g2.length ac)) → Below wB.heap.size wB W → W.grownBy W' (some c) → Below wB.heap.size wB W' := fun W W' _ _ hb hg => hb.grown hg hb.size (fun x hx => by cases hx; exact hcB)
      have t1 := fun (W : World) (hW : WS W c g L (e.vals al (.slice (some ⟨ab, ao, none⟩) g2.length ac))) (hb : Below wB.heap.size wB W) => co_text c ⟨ab, ao + k * 3, none⟩ gw L W (by omega) (by omega) hW.1 ((hb.cell (p := ⟨ab, ao + k * 3, none⟩) hab).trans q0) hW.2.2.2
      obtain ⟨L1, hL1⟩ : ∃ L1, L1 = L ++ (Wi.enc gw.size ++ Ds.bl gw) := ⟨_, rfl⟩
      rw [← hL1] at t1 hnx
      have m1 : L1.length ≤ 4000 := by rw [hL1, List.length_append, List.length_append, Ds.bl_length]; omega
      have t2 := fun (W : World) (hW : WS W c g L1 (e.vals al (.slice (some ⟨ab, ao, none⟩) g2.length ac))) (hb : Below wB.heap.size wB W) => co_truth c ⟨ab, ao + k * 3 + 1, none⟩ gg L1 W (by omega) hW.1 ((hb.cell (p := ⟨ab, ao + k * 3 + 1, none⟩) hab).trans q1) hW.2.2.2
      obtain ⟨L2, hL2⟩ : ∃ L2, L2 = L1 ++ [tb gg] := ⟨_, rfl⟩
      rw [← hL2] at t2 hnx
      have m2 : L2.length ≤ 4001 := by rw [hL2, List.length_append, List.length_singleton]; omega
      have t3 := fun (W : World) (hW : WS W c g L2 (e.vals al (.slice (some ⟨ab, ao, none⟩) g2.length ac))) (hb : Below wB.heap.size wB W) => co_number c ⟨ab, ao + k * 3 + 2, none⟩ n L2 W (by omega) (by omega) hW.1 ((hb.cell (p := ⟨ab, ao + k * 3 + 2, none⟩) hab).trans q2) hW.2.2.2
      rw [← hnx] at t3
      have T1 := Lib.hid t1
      have T2 := Lib.hid t2
      have T3 := Lib.hid t3
      have HS := Lib.hid step
      have HW := Lib.hid hWr
      have HBr := Lib.hid hBr
      clear t1 t2 t3 step hWr hnx hL1 hL2 m1 m2 y1 ow ol q0 q1 q2 hLn hBr
      go_wp2_with (first
        | (go_at_call 132; (with_reducible refine (T1.out _ HW.out HBr.out).mono ?_); rintro _ w4 ⟨rfl, hL4, hG4⟩; have HW4 := Lib.hid (HW.out.grown hG4 hL4); have HB4 := Lib.hid (HS.out _ _ _ HW.out HBr.out hG4); have HG4 := Lib.hid (HGr.out.trans hG4); clear hG4 hL4)
        | (go_at_call 131; (with_reducible refine (T2.out _ HW4.out HB4.out).mono ?_); rintro _ w5 ⟨rfl, hL5, hG5⟩; have HW5 := Lib.hid (HW4.out.grown hG5 hL5); have HB5 := Lib.hid (HS.out _ _ _ HW4.out HB4.out hG5); have HG5 := Lib.hid (HG4.out.trans hG5); clear hG5 hL5)
        | (go_at_call 143; (with_reducible refine (T3.out _ HW5.out HB5.out).mono ?_); rintro _ w6 ⟨rfl, hL6, hG6⟩; have HW6 := Lib.hid (HW5.out.grown hG6 hL6); have HG6 := Lib.hid (HG5.out.trans hG6); clear hG6 hL6))
      go_roundw
      case rel => exact ⟨k + 1, by omega, by go_num, HW6.out, HG6.out⟩
      case measure => simp [intOf]; omega
    · have hW9 : WS wr c g (S3 ++ grs g2) (e.vals al (.slice aa g2.length ac)) := by
        rw [List.take_of_length_le (by omega)] at hWr
        exact hWr
      have HW9 := Lib.hid hW9
      clear hWr hW9
      go_wp2_with fail
      go_end0
      exact ⟨rfl, by rw [HF.out]; exact HW9.out, HGr.out⟩
end Go.Proofs.YtihbihkmchacnaaGreatDoor
