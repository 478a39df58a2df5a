/- The walk of AccessErrors: an error of the reader is what Profiles and Check return. -/
import Derived.Test.YtlmgolkgodfmpaaGreatDoorAwQ
import Derived.Test.YtlmgolkgodfmpaaGreatDoorFewA
import Derived.Test.YtlmgolkgodfmpaaGreatDoorEr
namespace Go.Proofs.YtlmgolkgodfmpaaGreatDoor
open Go.RowKit
set_option maxHeartbeats 16000000
set_option maxRecDepth 8000
set_option linter.unusedSimpArgs false
theorem srt_up (id : Int) (c : UInt8) (l : List Rw) (k : Nat) (h : k < l.length) (h1 : l[k].1 = id) (h0 : 0 < l[k].2.1.size) :
    (l[k].2.1[0] = c → (srt id c (l.take (k + 1))).length = (srt id c (l.take k)).length + 1) ∧ (l[k].2.1[0] ≠ c → (srt id c (l.take (k + 1))).length = (srt id c (l.take k)).length) := by
  have hh := byte_at l[k].2.1 h0
  rw [List.take_succ_eq_append_getElem h, srt_snoc]
  unfold srtS
  refine ⟨fun e => ?_, fun e => ?_⟩
  · rw [if_pos (by unfold inL; rw [show (kyR l[k]).head? = some l[k].2.1[0] from hh, decide_eq_true h1, Bool.true_and, e]; exact decide_eq_true rfl), insR_len]
  · rw [if_neg (by unfold inL; rw [show (kyR l[k]).head? = some l[k].2.1[0] from hh, decide_eq_true h1, Bool.true_and, decide_eq_false (fun h => e (Option.some.inj h))]; simp)]
/-- what the statement says of Profiles' answer -/
def ErP (m : Nat) (K cd : Int) (P : List Fu × Int × Int) : Prop := (K ≤ (m : Int) + 1 → P = ([], cd, K)) ∧ ((m : Int) + 1 < K → ∃ ys : List Fu, ys.length = m ∧ P = (ys, 0, (m : Int) + 1))
theorem chk_err (D : List Rw) (K cd : Int) (name : ByteArray) (hn : Ds.name (Ds.bl name) = true) (m : Nat) (h : ErP m K cd (proF D 1 K cd (D.length + 1) 0 [79, 255] [])) (hcd : cd ≠ 0) :
    (K ≤ (m : Int) + 1 → chkF D 1 K cd 0 ⟨#[]⟩ [] name 1 = (cd, K)) ∧ ((m : Int) + 1 < K → ∃ f : Int, (f = 0 ∨ f = 17) ∧ chkF D 1 K cd 0 ⟨#[]⟩ [] name 1 = (f, (m : Int) + 1)) := by
  unfold chkF
  rw [if_neg (by rw [hn]; simp), if_neg (by decide)]
  refine ⟨fun q => ?_, fun q => ?_⟩
  · rw [h.1 q]
    simp only
    rw [if_pos hcd]
  · obtain ⟨ys, -, e⟩ := h.2 q
    rw [e]
    simp only
    rw [if_neg (by simp)]
    split
    · exact ⟨17, Or.inr rfl, rfl⟩
    · exact ⟨0, Or.inl rfl, rfl⟩
/-- rows that the statement reads -/
def AeD (D : List Rw) : Prop := D.length ≤ 12 ∧ ∀ x ∈ D, x.1 = 1 ∧ ∃ y, decX (Ds.bl x.2.2) = some y ∧ keyX y = kyR x
theorem AeD.pos {D : List Rw} (h : AeD D) (k : Nat) (hk : k < D.length) : D[k].1 = 1 ∧ 0 < D[k].2.1.size := by
  obtain ⟨h1, y, h2, h3⟩ := h.2 _ (List.getElem_mem hk)
  refine ⟨h1, ?_⟩
  have := keyX_len y (decX_sound _ _ h2).1
  rw [h3] at this
  rw [← Ds.bl_length]
  show 0 < (kyR D[k]).length
  omega
theorem ae_rows (a : Option Addr) (n c : Nat) (F : Nat → Ef) (w : World) (h : ESL w a n F) (hf : fewAP F n 0) :
    ∃ L, AeD L ∧ Calls Tryz.prog 43 #[.int .i64 1, .slice a n c] w fun r w' => ∃ v, r = .returned v ∧ RwS w' v L ∧ Below w.heap.size w w' := by
  obtain ⟨E, hE, hC⟩ := rrows_esl a n c F w h (by have := hf.1; omega) (fun k hk => ⟨(hf.2.2 k hk).1, by have := (hf.2.2 k hk).2.1; omega⟩)
  refine ⟨rowsE 1 E n, ⟨by have := rowsE_len 1 E n; have := hf.1; omega, rowsE_good 1 E n hE⟩, (hC 1).mono ?_⟩
  rintro r w' ⟨v, rfl, h1, -, h2⟩
  exact ⟨v, rfl, h1, h2⟩
theorem ae_dist (v : Value) (L : List Rw) (w : World) (hL : AeD L) (hS : RwS w v L) :
    Calls Tryz.prog 22 #[v] w fun r w' => ∃ (a : Option Addr) (c : Nat) (D : List Rw), r = .returned (.slice a D.length c) ∧ RwS w' (.slice a D.length c) D ∧ AeD D ∧ DstL D ∧ (∀ q, (Value.slice a D.length c).ownBlock = some q → q < w'.heap.size) ∧ Below w.heap.size w w' := by
  refine (rdist v L w (by have := hL.1; omega) hS).mono ?_
  rintro r w' ⟨v', rfl, h1, h2, h3⟩
  obtain ⟨a, c, rfl, -⟩ := _root_.id h1
  exact ⟨a, c, _, rfl, h1, ⟨by have := dst_len L L.length; have := hL.1; omega, fun x hx => hL.2 x (List.mem_of_mem_take (dst_mem L _ x hx))⟩, dst_dst L _, fun q hq => (h2 q hq).2, h3⟩
theorem shelf_newF (sv : Value) (l : List Rw) (fl cd : Int) (w : World) (hr : RwS w sv l) (ho : ∀ b, sv.ownBlock = some b → b < w.heap.size) : SHs w (w.alloc (.cells #[sv, .int .i64 fl, .int .i64 cd, .int .i64 0] 61)) w.heap.size sv l fl cd 0 := by
  refine ⟨⟨row_new _ _ _ _, fun o => by simp⟩, hr.below ((Below.refl _ _).alloc (Nat.le_refl _) _), fun b hb e => ?_, Nat.le_refl _, by simp, (Below.refl _ _).alloc (Nat.le_refl _) _⟩
  have := ho b hb
  omega
theorem SHs.sink {w0 w1 wr : World} {p : Nat} {sv : Value} {l : List Rw} {fl cd ca : Int} (h : SHs w1 wr p sv l fl cd ca) (hb : Below w0.heap.size w0 w1) (hz : w0.heap.size ≤ w1.heap.size) : SHs w0 wr p sv l fl cd ca :=
  ⟨h.f, h.r, h.ne, Nat.le_trans hz h.p0, h.pl, bt hb h.b⟩
theorem SHs.grown {w0 w w' : World} {p q : Nat} {sv : Value} {l : List Rw} {fl cd ca : Int} (h : SHs w0 w q sv l fl cd ca) (hg : w.grownBy w' (some p)) (hpq : q ≠ p) (hp : w0.heap.size ≤ p) (hne : ∀ b, sv.ownBlock = some b → b ≠ p) : SHs w0 w' q sv l fl cd ca := by
  have hk : ∀ k, k < w.heap.size → k ≠ p → w'.heap[k]? = w.heap[k]? := fun k h1 h2 => hg.block k h1 (fun e => h2 (Option.some.inj e))
  refine ⟨⟨?_, fun o => ?_⟩, h.r.keep hg.size (fun b hb hl => hk b hl (hne b hb)), h.ne, h.p0, Nat.lt_of_lt_of_le h.pl hg.size, ?_⟩
  · have := h.f.1
    unfold row at this ⊢
    rw [hk q h.pl hpq]
    exact this
  · rw [World.frozen?_of_block (a := ⟨q, o, none⟩) (hk q h.pl hpq)]
    exact h.f.2 o
  · exact h.b.grown hg h.b.size (fun x hx => by cases hx; exact hp)
/-- two shelves of the same rows -/
theorem two_shelf (sv : Value) (l : List Rw) (fl cd : Int) (w : World) (hr : RwS w sv l) (ho : ∀ b, sv.ownBlock = some b → b < w.heap.size) :
    SHs w ((w.alloc (.cells #[sv, .int .i64 fl, .int .i64 cd, .int .i64 0] 61)).alloc (.cells #[sv, .int .i64 fl, .int .i64 cd, .int .i64 0] 61)) w.heap.size sv l fl cd 0 ∧ SHs w ((w.alloc (.cells #[sv, .int .i64 fl, .int .i64 cd, .int .i64 0] 61)).alloc (.cells #[sv, .int .i64 fl, .int .i64 cd, .int .i64 0] 61)) (w.heap.size + 1) sv l fl cd 0 := by
  have h1 := shelf_newF sv l fl cd w hr ho
  have h2 := shelf_newF sv l fl cd (w.alloc (.cells #[sv, .int .i64 fl, .int .i64 cd, .int .i64 0] 61)) h1.r (fun b hb => by have := ho b hb; simp; omega)
  have h3 := h2.sink h1.b (by simp)
  rw [show (w.alloc (.cells #[sv, .int .i64 fl, .int .i64 cd, .int .i64 0] 61)).heap.size = w.heap.size + 1 by simp] at h3
  exact ⟨h1.below (below_al' _ _), h3⟩
theorem ae_pro (D : List Rw) (hD : DstL D) (hA : AeD D) (K cd : Int) (h1 : 1 ≤ K) (hcd : cd ≠ 0) (hcd6 : cd ≠ 6) (m : Nat) (hm' : m = (srt 1 80 D).length) (q : Nat) (sv : Value) (w0 w : World) (hm : MaxL w0) (hT : Tab w0) (hS : SHs w0 w q sv D K cd 0) :
    (K ≤ (m : Int) + 1 → Calls Tryz.prog 36 #[.iface 45 (.pointer (some ⟨q, 0, none⟩)), .int .i64 1] w fun r w' => ∃ a c, r = .returned (.tuple #[.slice a 0 c, .int .i64 cd]) ∧ SHs w0 w' q sv D K cd K ∧ w.grownBy w' (some q)) ∧
    ((m : Int) + 1 < K → Calls Tryz.prog 36 #[.iface 45 (.pointer (some ⟨q, 0, none⟩)), .int .i64 1] w fun r w' => ∃ a c, r = .returned (.tuple #[.slice a m c, .int .i64 0]) ∧ SHs w0 w' q sv D K cd ((m : Int) + 1) ∧ w.grownBy w' (some q)) := by
  have he := err_pro D hD hA.2 K cd h1
  rw [← hm'] at he
  have hC := pr_loop q sv D K cd 0 1 w0 w hm hT hS (by decide) (by decide) (by have := hA.1; omega) (Or.inl ⟨hcd, hcd6⟩)
  refine ⟨fun h => hC.mono ?_, fun h => hC.mono ?_⟩
  · rintro r w' ⟨hv, rows, rfl, hJ, hS', hg⟩
    rw [he.1 h] at hJ hS' ⊢
    obtain ⟨a, c, rfl⟩ := owns_sl hJ.own
    exact ⟨a, c, rfl, hS', hg⟩
  · obtain ⟨ys, hl, e⟩ := he.2 h
    rintro r w' ⟨hv, rows, rfl, hJ, hS', hg⟩
    rw [e] at hJ hS' ⊢
    obtain ⟨a, c, rfl⟩ := owns_sl hJ.own
    rw [List.length_map, hl] at *
    exact ⟨a, c, rfl, hS', hg⟩
theorem ae_chk (D : List Rw) (hD : DstL D) (hA : AeD D) (K cd : Int) (h1 : 1 ≤ K) (hcd : cd ≠ 0) (hcd6 : cd ≠ 6) (m : Nat) (hm' : m = (srt 1 80 D).length) (name : ByteArray) (hn : Ds.name (Ds.bl name) = true) (q : Nat) (sv : Value) (w0 w : World) (hm : MaxL w0) (hT : Tab w0) (hS : SHs w0 w q sv D K cd 0) :
    (K ≤ (m : Int) + 1 → Calls Tryz.prog 39 #[.iface 45 (.pointer (some ⟨q, 0, none⟩)), .int .i64 1, .string ⟨#[]⟩, .slice none 0 0, .string name, .int .i64 1] w fun r w' => r = .returned (.int .i64 cd) ∧ SHs w0 w' q sv D K cd K ∧ w.grownBy w' (some q)) ∧
    ((m : Int) + 1 < K → Calls Tryz.prog 39 #[.iface 45 (.pointer (some ⟨q, 0, none⟩)), .int .i64 1, .string ⟨#[]⟩, .slice none 0 0, .string name, .int .i64 1] w fun r w' => (r = .returned (.int .i64 0) ∨ r = .returned (.int .i64 17)) ∧ SHs w0 w' q sv D K cd ((m : Int) + 1) ∧ w.grownBy w' (some q)) := by
  have he := err_pro D hD hA.2 K cd h1
  rw [← hm'] at he
  have hc := chk_err D K cd name hn m ⟨he.1, he.2⟩ hcd
  have hC := ac_check q sv D K cd 0 1 ⟨#[]⟩ (.slice none 0 0) [] name 1 w0 w hm hT hS (by decide) (by decide) (by have := hA.1; omega) (Or.inl ⟨hcd, hcd6⟩) (SS.nil _) (fun h => absurd rfl h)
  refine ⟨fun h => hC.mono ?_, fun h => hC.mono ?_⟩
  · rintro r w' ⟨rfl, hS', hg⟩
    rw [hc.1 h] at hS' ⊢
    exact ⟨rfl, hS', hg⟩
  · obtain ⟨f, hf, e⟩ := hc.2 h
    rintro r w' ⟨rfl, hS', hg⟩
    rw [e] at hS' ⊢
    refine ⟨?_, hS', hg⟩
    rcases hf with rfl | rfl
    · exact Or.inl rfl
    · exact Or.inr rfl
theorem own_sl_lt {w : World} {v : Value} {l : List Rw} (h : RwS w v l) (h0 : l ≠ []) : ∀ b, v.ownBlock = some b → b < w.heap.size := fun b hb => rws_own_lt h h0 b hb
theorem law_err_yes (a : Option Addr) (n c : Nat) (F : Nat → Ef) (name : ByteArray) (p : UInt8) (code : Int) (w : World) (hm : MaxL w) (hT : Tab w) (hES : ESL w a n F) (hf : fewAP F n 0) (h0 : code ≠ 0) (h6 : code ≠ 6) (hnm : Ds.name (Ds.bl name) = true) :
    Calls Tryz.prog 7 #[.slice a n c, .string name, .int .u8 (p.toNat : Nat), .int .i64 code] w fun r w' => r = .returned (.bool true) ∧ Below w.heap.size w w' := by
  have HAW := Lib.hid (fun W (b : Below w.heap.size w W) => aw34 W (hm.below b) (hT.below b))
  have HF := Lib.hid (fun W (b : Below w.heap.size w W) => few34 a n c F none 0 0 W (hES.es.below b))
  have hv := fun W (b : Below w.heap.size w W) => ds_valid name W (hm.below b)
  rw [hnm] at hv
  have HV := Lib.hid hv
  have HR := Lib.hid (fun W (b : Below w.heap.size w W) => ae_rows a n c F W (hES.below b) hf)
  have HPR := Lib.hid (fun (D : List Rw) hD hA K h1 m hm' q sv w0 W hm hT hS => ae_pro D hD hA K code h1 h0 h6 m hm' q sv w0 W hm hT hS)
  have HCK := Lib.hid (fun (D : List Rw) hD hA K h1 m hm' q sv w0 W hm hT hS => ae_chk D hD hA K code h1 h0 h6 m hm' name hnm q sv w0 W hm hT hS)
  have HM := Lib.hid hm
  have HTB := Lib.hid hT
  have t0 : (code == 0) = false := by rw [beq_eq_false_iff_ne]; exact h0
  have t6 : (code == 6) = false := by rw [beq_eq_false_iff_ne]; exact h6
  have t1 : (code != 0) = true := by rw [bne_iff_ne]; exact h0
  have hp := p.toNat_lt
  clear hv hES hf h0 h6 hnm hm hT
  go_enter Tryz.func7, Tryz.ntmps7
  go_wp2_with (first
    | (go_at_call 35; (with_reducible refine (HAW.out _ (Below.refl _ _)).mono ?_); rintro _ w1 ⟨rfl, b1⟩)
    | (go_at_call 41; (with_reducible refine (HF.out _ b1).mono ?_); rintro _ w2 ⟨bb, rfl, -, hb⟩; have b2 := bt b1 hb; clear hb; cases bb)
    | (go_at_call 42; (with_reducible refine (HV.out _ b2).mono ?_); rintro _ w3 ⟨rfl, hb⟩; have b3 := bt b2 hb; clear hb)
    | (go_at_call 43; (obtain ⟨L, hL, hC⟩ := HR.out _ b3); (refine hC.mono ?_); rintro _ w4 ⟨v4, rfl, hr, hb⟩; have b4 := bt b3 hb; have R4 := Lib.hid hr; have L4 := Lib.hid hL; clear hb hr hL hC)
    | (go_at_call 22; (refine (ae_dist v4 L _ L4.out R4.out).mono ?_); rintro _ w5 ⟨da, dc, D, rfl, hr, hA, hD, hq, hb⟩; have B5 := Lib.hid (bt b4 hb); have R5 := Lib.hid hr; have A5 := Lib.hid hA; have D5 := Lib.hid hD; have Q5 := Lib.hid hq; have l5 := hA.1; clear hb hr hA hD hq))
  · go_ret
    exact ⟨rfl, b2⟩
  clear HAW HF HV HR b1 b2 b3 b4 R4 L4
  go_loopw [10, 42] (fun v i wr => ∃ k : Nat, k ≤ D.length ∧ i = .int .i64 k ∧ v = .int .i64 ((srt 1 80 (D.take k)).length : Nat) ∧ Below w5.heap.size w5 wr) (fun _ i _ => D.length - (intOf i).toNat)
  case atStart => exact ⟨0, Nat.zero_le _, rfl, rfl, Below.refl _ _⟩
  case round =>
    obtain ⟨k, hk, rfl, rfl, hB⟩ := hrel
    have z0 := hB.size
    have HB := Lib.hid hB
    have hsl := srt_len 1 80 D k
    clear hB
    by_cases hlt : k < D.length
    · obtain ⟨va, vc, e, -, hc⟩ := R5.out
      cases e
      obtain ⟨b, o, rfl, hb, hcell⟩ := hc (by omega)
      obtain ⟨q0, q1, q2⟩ := hcell k hlt
      have p0 := (HB.out.cell hb).trans q0
      have p1 := (HB.out.cell hb).trans q1
      have p2 := (HB.out.cell hb).trans q2
      clear hcell q0 q1 q2 hc
      have j1 : (0 : Int) ≤ (k : Int) := by omega
      have j2 : (k : Int) < (D.length : Int) := by omega
      have hpos := (A5.out.pos k hlt).2
      have hup := srt_up 1 80 D k hlt (A5.out.pos k hlt).1 hpos
      have hposI : (0 : Int) < (D[k].2.1.size : Int) := by omega
      have N1 : (wr.alloc (.cells #[.int .i64 D[k].1, .string D[k].2.1, .string D[k].2.2] 69)).cell? ⟨wr.heap.size, 1, none⟩ = some (.string D[k].2.1) := cell_row (row_new wr _ 69 (0, 0)) 1 _ rfl
      by_cases e3 : D[k].2.1[0] = 80
      · have t3 : (((D[k].2.1[0]).toNat : Int) == 80) = true := by rw [e3]; rfl
        have HQ := Lib.hid (hup.1 e3)
        clear hup e3
        go_wp2_with fail
        go_roundw
        case rel => exact ⟨k + 1, by omega, by go_num, by rw [HQ.out]; try go_num, by exact belA⟩
        case measure => simp [intOf]; omega
      · have t3 : (((D[k].2.1[0]).toNat : Int) == 80) = false := by rw [beq_eq_false_iff_ne]; intro h; exact e3 (UInt8.toNat_inj.1 (by have : (80 : UInt8).toNat = 80 := rfl; omega))
        have HQ := Lib.hid (hup.2 e3)
        clear hup e3
        go_wp2_with fail
        go_roundw
        case rel => exact ⟨k + 1, by omega, by go_num, by rw [HQ.out]; try go_num, by exact belA⟩
        case measure => simp [intOf]; omega
    · obtain rfl : k = D.length := by omega
      rw [List.take_length] at hsl ⊢
      obtain ⟨m, hm'⟩ : ∃ m, m = (srt 1 80 D).length := ⟨_, rfl⟩
      rw [← hm'] at hsl ⊢
      have HM' := Lib.hid hm'
      obtain ⟨q, hq⟩ : ∃ q : Int, (p.toNat : Int) % ((m : Int) + 2) = q := ⟨_, rfl⟩
      have q0 : 0 ≤ q := by rw [← hq]; exact Int.emod_nonneg _ (by omega)
      have q1 : q < (m : Int) + 2 := by rw [← hq]; exact Int.emod_lt_of_pos _ (by omega)
      have hown : ∀ b, (Value.slice da D.length dc).ownBlock = some b → b < wr.heap.size := fun b hb => Nat.lt_of_lt_of_le (Q5.out b hb) z0
      obtain ⟨s1, s2⟩ := two_shelf (.slice da D.length dc) D (1 + q) code wr (R5.out.below HB.out) hown
      have S1 := Lib.hid s1
      have S2 := Lib.hid s2
      have hne : ∀ b, (Value.slice da D.length dc).ownBlock = some b → b ≠ wr.heap.size ∧ b ≠ wr.heap.size + 1 := fun b hb => by
        have := hown b hb
        exact ⟨by omega, by omega⟩
      have HNE := Lib.hid hne
      have BW := Lib.hid (bt B5.out HB.out)
      have HW := Lib.hid (And.intro (HM.out.below BW.out) (HTB.out.below BW.out))
      clear hm' s1 s2 hne hown
      by_cases hc : 1 + q ≤ (m : Int) + 1
      · have HP := Lib.hid (fun b sv W hS => (HPR.out D D5.out A5.out (1 + q) (by omega) m HM'.out b sv wr W HW.out.1 HW.out.2 hS).1 hc)
        have HC := Lib.hid (fun b sv W hS => (HCK.out D D5.out A5.out (1 + q) (by omega) m HM'.out b sv wr W HW.out.1 HW.out.2 hS).1 hc)
        clear HPR HCK
        go_wp2_with (first
          | (go_at_call 36; (refine (HP.out _ _ _ S1.out).mono ?_); rintro _ w6 ⟨pa, pc, rfl, hS, hg⟩; have S3 := Lib.hid hS; have S4 := Lib.hid (S2.out.grown hg (by omega) (Nat.le_refl _) (fun b hb => (HNE.out b hb).1)); have z6 := hg.size; clear hS hg)
          | (go_at_call 39; (refine (HC.out _ _ _ S4.out).mono ?_); rintro _ w7 ⟨rfl, hS, hg⟩; have S5 := Lib.hid (S3.out.grown hg (by omega) (by omega) (fun b hb => (HNE.out b hb).2)); have k1 := cell_row S5.out.f.1 3 _ rfl; have k2 := cell_row hS.f.1 3 _ rfl; have B7 := Lib.hid (bt BW.out hS.b); clear hS hg))
        go_ret
        exact ⟨rfl, B7.out⟩
      · have HP := Lib.hid (fun b sv W hS => (HPR.out D D5.out A5.out (1 + q) (by omega) m HM'.out b sv wr W HW.out.1 HW.out.2 hS).2 (by omega))
        have HC := Lib.hid (fun b sv W hS => (HCK.out D D5.out A5.out (1 + q) (by omega) m HM'.out b sv wr W HW.out.1 HW.out.2 hS).2 (by omega))
        clear HPR HCK
        go_wp2_with (first
          | (go_at_call 36; (refine (HP.out _ _ _ S1.out).mono ?_); rintro _ w6 ⟨pa, pc, rfl, hS, hg⟩; have S3 := Lib.hid hS; have S4 := Lib.hid (S2.out.grown hg (by omega) (Nat.le_refl _) (fun b hb => (HNE.out b hb).1)); have z6 := hg.size; clear hS hg)
          | (go_at_call 39; (refine (HC.out _ _ _ S4.out).mono ?_); rintro _ w7 ⟨hv, hS, hg⟩; have S5 := Lib.hid (S3.out.grown hg (by omega) (by omega) (fun b hb => (HNE.out b hb).2)); have k1 := cell_row S5.out.f.1 3 _ rfl; have k2 := cell_row hS.f.1 3 _ rfl; have B7 := Lib.hid (bt BW.out hS.b); clear hS hg; rcases hv with rfl | rfl))
        all_goals
          go_ret
          exact ⟨rfl, B7.out⟩
theorem law_err_few (a : Option Addr) (n c : Nat) (F : Nat → Ef) (name : ByteArray) (p : UInt8) (code : Int) (w : World) (hm : MaxL w) (hT : Tab w) (hES : ESL w a n F) (hf : ¬ fewAP F n 0) :
    Calls Tryz.prog 7 #[.slice a n c, .string name, .int .u8 (p.toNat : Nat), .int .i64 code] w fun r w' => r = .returned (.bool true) ∧ Below w.heap.size w w' := by
  have HAW := Lib.hid (fun W (b : Below w.heap.size w W) => aw34 W (hm.below b) (hT.below b))
  have HF := Lib.hid (fun W (b : Below w.heap.size w W) => few34 a n c F none 0 0 W (hES.es.below b))
  have HN := Lib.hid hf
  clear hf
  go_enter Tryz.func7, Tryz.ntmps7
  go_wp2_with (first
    | (go_at_call 35; (with_reducible refine (HAW.out _ (Below.refl _ _)).mono ?_); rintro _ w1 ⟨rfl, b1⟩)
    | (go_at_call 41; (with_reducible refine (HF.out _ b1).mono ?_); rintro _ w2 ⟨bb, rfl, hq, hb⟩; have b2 := bt b1 hb; have HQ := Lib.hid hq; clear hb hq; cases bb; rotate_left 1; exact absurd (HQ.out rfl) HN.out))
  go_ret
  exact ⟨rfl, b2⟩
theorem law_err_no (a : Option Addr) (n c : Nat) (F : Nat → Ef) (name : ByteArray) (p : UInt8) (code : Int) (w : World) (hm : MaxL w) (hT : Tab w) (hES : ESL w a n F) (h : code = 0 ∨ code = 6 ∨ Ds.name (Ds.bl name) = false) :
    Calls Tryz.prog 7 #[.slice a n c, .string name, .int .u8 (p.toNat : Nat), .int .i64 code] w fun r w' => r = .returned (.bool true) ∧ Below w.heap.size w w' := by
  have HAW := Lib.hid (fun W (b : Below w.heap.size w W) => aw34 W (hm.below b) (hT.below b))
  have HF := Lib.hid (fun W (b : Below w.heap.size w W) => few34 a n c F none 0 0 W (hES.es.below b))
  have HV := Lib.hid (fun W (b : Below w.heap.size w W) => ds_valid name W (hm.below b))
  have h3 : (code == 0) = true ∨ (code == 0) = false ∧ (code == 6) = true ∨ (code == 0) = false ∧ (code == 6) = false ∧ Ds.name (Ds.bl name) = false := by
    rcases h with rfl | rfl | h
    · exact Or.inl rfl
    · exact Or.inr (Or.inl ⟨rfl, rfl⟩)
    · cases (code == 0)
      · cases (code == 6)
        · exact Or.inr (Or.inr ⟨rfl, rfl, h⟩)
        · exact Or.inr (Or.inl ⟨rfl, rfl⟩)
      · exact Or.inl rfl
  clear h
  rcases h3 with t0 | ⟨t0, t6⟩ | ⟨t0, t6, t7⟩
  · go_enter Tryz.func7, Tryz.ntmps7
    go_wp2_with (first
      | (go_at_call 35; (with_reducible refine (HAW.out _ (Below.refl _ _)).mono ?_); rintro _ w1 ⟨rfl, b1⟩)
      | (go_at_call 41; (with_reducible refine (HF.out _ b1).mono ?_); rintro _ w2 ⟨bb, rfl, -, hb⟩; have b2 := bt b1 hb; clear hb; cases bb))
    all_goals
      go_ret
      exact ⟨rfl, b2⟩
  · go_enter Tryz.func7, Tryz.ntmps7
    go_wp2_with (first
      | (go_at_call 35; (with_reducible refine (HAW.out _ (Below.refl _ _)).mono ?_); rintro _ w1 ⟨rfl, b1⟩)
      | (go_at_call 41; (with_reducible refine (HF.out _ b1).mono ?_); rintro _ w2 ⟨bb, rfl, -, hb⟩; have b2 := bt b1 hb; clear hb; cases bb))
    all_goals
      go_ret
      exact ⟨rfl, b2⟩
  · have hv := HV.out
    rw [t7] at hv
    have HV2 := Lib.hid hv
    clear HV hv t7
    go_enter Tryz.func7, Tryz.ntmps7
    go_wp2_with (first
      | (go_at_call 35; (with_reducible refine (HAW.out _ (Below.refl _ _)).mono ?_); rintro _ w1 ⟨rfl, b1⟩)
      | (go_at_call 41; (with_reducible refine (HF.out _ b1).mono ?_); rintro _ w2 ⟨bb, rfl, -, hb⟩; have b2 := bt b1 hb; clear hb; cases bb)
      | (go_at_call 42; (with_reducible refine (HV2.out _ b2).mono ?_); rintro _ w3 ⟨rfl, hb⟩; have b3 := bt b2 hb; clear hb))
    all_goals
      go_ret
      exact ⟨rfl, by first | exact b3 | exact b2⟩
theorem law_err (a : Option Addr) (n c : Nat) (F : Nat → Ef) (name : ByteArray) (fail code : Int) (w : World) (hm : MaxL w) (hT : Tab w) (hES : ESL w a n F) (bn : IntKind.u8.min ≤ fail ∧ fail ≤ IntKind.u8.max) :
    Calls Tryz.prog 7 #[.slice a n c, .string name, .int .u8 fail, .int .i64 code] w fun r w' => r = .returned (.bool true) ∧ Below w.heap.size w w' := by
  have e1 : IntKind.u8.min = 0 := rfl
  have e2 : IntKind.u8.max = 255 := rfl
  rw [e1, e2] at bn
  have hn : ((UInt8.ofNat fail.toNat).toNat : Int) = fail := by rw [UInt8.toNat_ofNat']; omega
  rw [← hn]
  by_cases hf : fewAP F n 0
  · by_cases h : code = 0 ∨ code = 6 ∨ Ds.name (Ds.bl name) = false
    · exact law_err_no a n c F name _ code w hm hT hES h
    · simp only [not_or, Bool.not_eq_false] at h
      exact law_err_yes a n c F name _ code w hm hT hES hf h.1 h.2.1 h.2.2
  · exact law_err_few a n c F name _ code w hm hT hES hf
end Go.Proofs.YtlmgolkgodfmpaaGreatDoor
