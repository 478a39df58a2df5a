/- Contracts of package entry: the fields of a profile, read. -/
import Derived.Test.YtihbihkmchacnaaGreatDoorFoP
namespace Go.Proofs.YtihbihkmchacnaaGreatDoor
open Go.RowKit
set_option maxHeartbeats 1600000
set_option maxRecDepth 8000
/-- a block of values -/
def VB (w : World) (g n : Nat) (F : Nat → Value) : Prop := (∀ k, k < n → w.cell? ⟨g, k, none⟩ = some (F k)) ∧ (∀ o, w.frozen? ⟨g, o, none⟩ = false) ∧ g < w.heap.size
theorem VB.grown {w w' : World} {g n : Nat} {F : Nat → Value} {row : Option Nat} (h : VB w g n F) (hg : w.grownBy w' row) (hr : some g ≠ row) : VB w' g n F := by
  have hb := hg.block g h.2.2 hr
  refine ⟨fun k hk => ?_, fun o => ?_, Nat.lt_of_lt_of_le h.2.2 hg.size⟩
  · rw [World.cell?_of_block (a := ⟨g, k, none⟩) hb]; exact h.1 k hk
  · rw [World.frozen?_of_block (a := ⟨g, o, none⟩) hb]; exact h.2.1 o
theorem VB.g2 {w w' : World} {gb n a b : Nat} {F : Nat → Value} (h : VB w gb n F) (hg : G2 w w' a b) (ha : gb ≠ a) (hb : gb ≠ b) : VB w' gb n F := by
  have hb := hg.block gb h.2.2 ha hb
  refine ⟨fun k hk => ?_, fun o => ?_, Nat.lt_of_lt_of_le h.2.2 hg.size⟩
  · rw [World.cell?_of_block (a := ⟨gb, k, none⟩) hb]; exact h.1 k hk
  · rw [World.frozen?_of_block (a := ⟨gb, o, none⟩) hb]; exact h.2.1 o
theorem VB.set {w : World} {g n : Nat} {F : Nat → Value} (h : VB w g n F) (c : Nat) (hc : c < n) (v : Value) : VB (w.setCell ⟨g, c, none⟩ v) g n (fun k => if k = c then v else F k) := by
  refine ⟨fun k hk => ?_, fun o => by have := h.2.1 o; simpa using this, by simpa using h.2.2⟩
  have h1 := h.1 k hk
  have h0 := h.1 c hc
  by_cases e : k = c
  · subst e; simp [go_sem, h0]
  · show _ = some (if k = c then v else F k)
    rw [if_neg e, ← h1]
    have e' : c ≠ k := fun h => e h.symm
    have e'' : (c == k) = false := by simpa using e'
    simp [go_sem]
theorem VB.other {w : World} {g n : Nat} {F : Nat → Value} (h : VB w g n F) (g2 c : Nat) (hne : g ≠ g2) (v : Value) : VB (w.setCell ⟨g2, c, none⟩ v) g n F := by
  refine ⟨fun k hk => ?_, fun o => by have := h.2.1 o; simpa using this, by simpa using h.2.2⟩
  rw [← h.1 k hk]
  have e' : (g2 == g) = false := by simpa using fun h => hne h.symm
  simp [go_sem]
/-- grants as cells; behind them zeros -/
def gcell (x : Gr) (j : Nat) : Value := if j = 0 then .string x.1 else if j = 1 then .bool x.2.1 else .int .i64 x.2.2
def gzero : Gr := (⟨#[]⟩, false, 0)
def flatG (L : List Gr) (i : Nat) : Value := gcell (L.getD (i / 3) gzero) (i % 3)
theorem flat_nil (i : Nat) : flatG [] i = gcell gzero (i % 3) := by unfold flatG; simp
theorem flat_step (L : List Gr) (x : Gr) (k : Nat) (h : L.length = k) : (fun i => if i = k * 3 + 2 then Value.int .i64 x.2.2 else (fun i => if i = k * 3 + 1 then Value.bool x.2.1 else (fun i => if i = k * 3 then Value.string x.1 else flatG L i) i) i) = flatG (L ++ [x]) := by
  funext i
  simp only
  subst h
  unfold flatG
  rcases Nat.lt_or_ge i (L.length * 3) with h1 | h1
  · rw [if_neg (by omega), if_neg (by omega), if_neg (by omega), List.getD_eq_getElem?_getD, List.getD_eq_getElem?_getD, List.getElem?_append_left (by omega)]
  · rcases (by omega : i = L.length * 3 ∨ i = L.length * 3 + 1 ∨ i = L.length * 3 + 2 ∨ L.length * 3 + 3 ≤ i) with h2 | h2 | h2 | h2
    · rw [if_neg (by omega), if_neg (by omega), if_pos h2, List.getD_eq_getElem?_getD, List.getElem?_append_right (by omega), show i / 3 - L.length = 0 by omega, show i % 3 = 0 by omega]; rfl
    · rw [if_neg (by omega), if_pos h2, List.getD_eq_getElem?_getD, List.getElem?_append_right (by omega), show i / 3 - L.length = 0 by omega, show i % 3 = 1 by omega]; rfl
    · rw [if_pos h2, List.getD_eq_getElem?_getD, List.getElem?_append_right (by omega), show i / 3 - L.length = 0 by omega, show i % 3 = 2 by omega]; rfl
    · rw [if_neg (by omega), if_neg (by omega), if_neg (by omega), List.getD_eq_getElem?_getD, List.getD_eq_getElem?_getD, List.getElem?_eq_none (by omega), List.getElem?_eq_none (by rw [List.length_append, List.length_singleton]; omega)]
theorem flat_at (L : List Gr) (k : Nat) (h : k < L.length) (j : Nat) (hj : j < 3) : flatG L (k * 3 + j) = gcell L[k] j := by
  unfold flatG
  rw [show (k * 3 + j) / 3 = k by omega, show (k * 3 + j) % 3 = j by omega, List.getD_eq_getElem?_getD, List.getElem?_eq_getElem h]; rfl
theorem VB.gs {w : World} {g n : Nat} {L : List Gr} (h : VB w g (n * 3) (flatG L)) (hl : L.length = n) (hn : n ≤ 1000000) : GS w (.slice (some ⟨g, 0, none⟩) n n) L :=
  ⟨_, n, by rw [hl], by omega, fun _ => ⟨g, 0, rfl, h.2.2, fun k hk => by
    have h0 := h.1 (k * 3 + 0) (by omega)
    have h1 := h.1 (k * 3 + 1) (by omega)
    have h2 := h.1 (k * 3 + 2) (by omega)
    rw [flat_at L k hk _ (by decide)] at h0 h1 h2
    refine ⟨?_, ?_, ?_⟩
    · rw [Nat.zero_add]; exact h0
    · rw [Nat.zero_add]; exact h1
    · rw [Nat.zero_add]; exact h2⟩⟩
theorem grInfo : (Tryz.prog.info? 51).map (fun i => (i.zero, i.size, i.bytes)) = some (some (.agg #[.string ⟨#[]⟩, .bool false, .int .i64 0]), 3, 32) := by kernel_rfl
theorem VB.made {w : World} {B e g n : Nat} (h : w.ownsRow B e 3 (.slice (some ⟨g, 0, none⟩) n n) n (madeCells (Value.agg #[.string ⟨#[]⟩, .bool false, .int .i64 0]).cells (n * 3)).toList) (hn : 0 < n) : VB w g (n * 3) (flatG []) := by
  have hc : ∀ k, k < n * 3 → w.cell? ⟨g, k, none⟩ = some (flatG [] k) := fun k hk => by
    rw [h.cellAt k hk, flat_nil]
    unfold madeCells
    rw [Array.getElem?_toList, Array.getElem?_map, Array.getElem?_range, if_pos hk]
    show some ((#[Value.string ⟨#[]⟩, .bool false, .int .i64 0] : Array Value)[k % 3]!) = _
    rcases (by omega : k % 3 = 0 ∨ k % 3 = 1 ∨ k % 3 = 2) with e | e | e <;> rw [e] <;> rfl
  exact ⟨hc, fun o => h.frozenAt o, block_lt_of_cell (hc 0 (by omega))⟩
theorem v_step {w wr w1 : World} {c rb g gb n j : Nat} {st st' : List UInt8 × Nat} {cs : Array Value} {F : Nat → Value} (h : RS wr c rb g st cs) (hc : c < w.heap.size) (hr : rb < w.heap.size) (hg : g < w.heap.size) (hB : w.heap.size ≤ gb) (hN : VB wr gb n F) (hG : G2 w wr rb g) (hR : RL w1 rb st') (G : wr.grownBy w1 (some rb)) (hj : j < n) (v : Value) :
    RS (w1.setCell ⟨gb, j, none⟩ v) c rb g st' cs ∧ VB (w1.setCell ⟨gb, j, none⟩ v) gb n (fun i => if i = j then v else F i) ∧ G2 w (w1.setCell ⟨gb, j, none⟩ v) rb g :=
  ⟨h.far hR G ⟨gb, j, none⟩ (by show gb ≠ c; omega) (by show gb ≠ rb; omega) (by show gb ≠ g; omega) _, (hN.grown G (by intro e; have := Option.some.inj e; omega)).set j hj v, hG.far G hB _⟩
theorem g_made {w w8 w9 : World} {c rb g m : Nat} {S : List UInt8 × Nat} {E : En} {al : Value} (h : RS w8 c rb g S (E.vals al (.slice none 0 0))) (hG : G2 w w8 rb g) (hown : w9.ownsRow w8.heap.size 51 3 (.slice (some ⟨w8.heap.size, 0, none⟩) m m) m (madeCells (Value.agg #[.string ⟨#[]⟩, .bool false, .int .i64 0]).cells (m * 3)).toList) (hgrow : w8.grownBy w9 none) (hm : 0 < m) :
    w9.frozen? ⟨g, 32, none⟩ = false ∧ w9.cell? ⟨g, 32, none⟩ = some (.slice none 0 0) ∧ RS (w9.setCell ⟨g, 32, none⟩ (.slice (some ⟨w8.heap.size, 0, none⟩) m m)) c rb g S (E.vals al (.slice (some ⟨w8.heap.size, 0, none⟩) m m)) ∧ w.heap.size ≤ w8.heap.size ∧ VB (w9.setCell ⟨g, 32, none⟩ (.slice (some ⟨w8.heap.size, 0, none⟩) m m)) w8.heap.size (m * 3) (flatG []) ∧ G2 w (w9.setCell ⟨g, 32, none⟩ (.slice (some ⟨w8.heap.size, 0, none⟩) m m)) rb g := by
  have hg8 := h.2.2.1.2.2
  have G : w8.grownBy w9 (some rb) := ⟨hgrow.os, hgrow.tape, hgrow.output, hgrow.size, fun k hk _ => hgrow.block k hk (by simp)⟩
  have hb := hgrow.block g hg8 (by simp)
  have ha := h.after (h.2.1.grown hgrow h.2.2.2.2.2.2.2) G 32 (by rw [vals_size]; decide) (.slice (some ⟨w8.heap.size, 0, none⟩) m m)
  rw [set_32] at ha
  exact ⟨(World.frozen?_of_block (a := ⟨g, 32, none⟩) hb).trans (h.2.2.1.2.1 32), (World.cell?_of_block (a := ⟨g, 32, none⟩) hb).trans (h.2.2.1.cell 32 _ (vals_32 E al _)), ha.1, hG.size, (VB.made hown hm).other g 32 (by omega) _, hG.trans ha.2⟩
theorem fr_prof (c rb g : Nat) (s : List UInt8 × Nat) (e : En) (al : Value) (w : World) (h : RS w c rb g s (e.vals al (.slice none 0 0))) (hs : s.1.length ≤ 1000) :
    Calls Tryz.prog 145 #[.pointer (some ⟨c, 0, none⟩), .pointer (some ⟨g, 0, none⟩)] w fun r w' => r = .returned (.tuple #[]) ∧ ∃ gr', RS w' c rb g (rdProf e s).2.2 ((rdProf e s).1.vals al gr') ∧ (GS w' gr' (rdProf e s).2.1 ∧ ∀ x, gr'.ownBlock = some x → w.heap.size ≤ x) ∧ G2 w w' rb g := by
  obtain ⟨S1, q1⟩ : ∃ S, S = (Rd.num s).2 := ⟨_, rfl⟩
  obtain ⟨E1, r1⟩ : ∃ E : En, E = e.sLev (clip (Rd.num s).1) := ⟨_, rfl⟩
  obtain ⟨S2, q2⟩ : ∃ S, S = (Rd.txt 200 S1).2 := ⟨_, rfl⟩
  obtain ⟨E2, r2⟩ : ∃ E : En, E = E1.sOwner ⟨(Rd.txt 200 S1).1.toArray⟩ := ⟨_, rfl⟩
  obtain ⟨S7, q7⟩ : ∃ S, S = (Rd.num S2).2 := ⟨_, rfl⟩
  obtain ⟨m, qm⟩ : ∃ m, m = cntv 8 (clip (Rd.num S2).1) := ⟨_, rfl⟩
  have efin : rdProf e s = (E2, (rdGs S7 m).1, (rdGs S7 m).2) := by
    rw [qm, q7, r2, q2, r1, q1]; rfl
  have b1 : S1.1.length ≤ 1000 := by rw [q1]; exact Nat.le_trans (Rd.num_len s) hs
  have b2 : S2.1.length ≤ 1000 := by rw [q2]; exact Nat.le_trans (Rd.txt_len 200 S1).1 b1
  have b7 : S7.1.length ≤ 1000 := by rw [q7]; exact Nat.le_trans (Rd.num_len S2) b2
  have bk : ∀ k, (rdGs S7 k).2.1.length ≤ 1000 := fun k => Nat.le_trans (rdGs_rest S7 k) b7
  have hm5 : m ≤ 9 := by rw [qm]; unfold cntv; split <;> omega
  have c1 : ∀ W, RS W c rb g s (e.vals al (.slice none 0 0)) → Calls Tryz.prog 143 #[.pointer (some ⟨c, 0, none⟩), .pointer (some ⟨g, 31, none⟩)] W fun r w' => r = .returned (.tuple #[]) ∧ RS w' c rb g S1 (E1.vals al (.slice none 0 0)) ∧ G2 W w' rb g := fun W hW => by
    have := rs_number c rb g 31 _ s _ W hW (by omega) (vals_31 e _ _)
    rw [set_31, ← q1] at this; rw [r1]; exact this
  have c2 : ∀ W, RS W c rb g S1 (E1.vals al (.slice none 0 0)) → Calls Tryz.prog 132 #[.pointer (some ⟨c, 0, none⟩), .pointer (some ⟨g, 28, none⟩)] W fun r w' => r = .returned (.tuple #[]) ∧ RS w' c rb g S2 (E2.vals al (.slice none 0 0)) ∧ G2 W w' rb g := fun W hW => by
    have := rs_text c rb g 28 _ S1 _ W hW (by omega) (vals_28 E1 _ _)
    rw [set_28, ← q2] at this; rw [r2]; exact this
  have c3 : ∀ W, RS W c rb g S2 (E2.vals al (.slice none 0 0)) → Calls Tryz.prog 188 #[.pointer (some ⟨c, 0, none⟩), .int .i64 0, .int .i64 8] W fun r w' => r = .returned (.int .i64 m) ∧ RS w' c rb g S7 (E2.vals al (.slice none 0 0)) ∧ G2 W w' rb g := fun W hW => by
    have := rs_count c rb g 8 0 S2 _ W hW (by omega) (by omega)
    rw [← qm, ← q7] at this; exact this
  have v32 := vals_32 E2 al (.slice none 0 0)
  have C1 := Lib.hid c1
  have C2 := Lib.hid c2
  have C3 := Lib.hid c3
  have V32 := Lib.hid v32
  have HB := Lib.hid bk
  have HH := Lib.hid h
  have hcw := h.2.2.2.2.2.2.1
  have hrw := h.2.2.2.2.2.2.2
  have hgw := h.2.2.1.2.2
  rw [efin]
  clear c1 c2 c3 v32 bk efin q1 q2 q7 qm r1 r2 b1 b2 b7 h
  rcases Nat.eq_zero_or_pos m with hm0 | hm0
  · have hm1 : m < 1 := by omega
    have HM := Lib.hid hm0
    clear hm0
    go_enter Tryz.func145, Tryz.ntmps145
    go_wp2_with (first
      | (go_at_call 143; (with_reducible refine (C1.out _ HH.out).mono ?_); rintro _ w1 ⟨rfl, hW1, hG1⟩; have HG1 := Lib.hid hG1; clear hG1)
      | (go_at_call 132; (with_reducible refine (C2.out _ hW1).mono ?_); rintro _ w2 ⟨rfl, hW2, hG2⟩; have v32 := hW2.2.2.1.cell 32 _ V32.out; have HG2 := Lib.hid (HG1.out.trans hG2); clear hG2)
      | (go_at_call 188; (with_reducible refine (C3.out _ hW2).mono ?_); rintro _ w3 ⟨rfl, hW3, hG3⟩; have v32 := hW3.2.2.1.cell 32 _ V32.out; have k1 : w3.cell? ⟨c, 1, none⟩ = some (.pointer (some ⟨rb, 0, none⟩)) := hW3.1; have HG3 := Lib.hid (HG2.out.trans hG3); clear hG3))
    go_loopw [43] (fun i wr => i = .int .i64 0 ∧ RS wr c rb g S7 (E2.vals al (.slice none 0 0)) ∧ G2 w wr rb g) (fun i _ => 0)
    case atStart => exact ⟨rfl, hW3, HG3.out⟩
    case round =>
      obtain ⟨rfl, hWr, hGr⟩ := hrel
      have HGr := Lib.hid hGr
      have HWr := Lib.hid hWr
      clear hGr hWr
      go_wp2_with fail
      go_end0
      exact ⟨rfl, _, by rw [HM.out]; exact HWr.out, ⟨by rw [HM.out]; exact GS.nil _, fun _ h => by cases h⟩, HGr.out⟩
  · obtain ⟨i0, hi, hz0, hz1, hz2⟩ := info_parts grInfo
    have HI := Lib.hid hi
    have HZ0 := Lib.hid hz0
    have HZ1 := Lib.hid hz1
    have HM : Hid (i0.bytes * m ≤ 281474976710656) := Lib.hid (by rw [hz2]; omega)
    have hmx : m ≤ maxLen := by unfold maxLen; omega
    have HX := Lib.hid hmx
    clear hi hz0 hz1 hz2 hmx
    go_enter Tryz.func145, Tryz.ntmps145
    go_wp2_with (first
      | (go_at_call 143; (with_reducible refine (C1.out _ HH.out).mono ?_); rintro _ w1 ⟨rfl, hW1, hG1⟩; have HG1 := Lib.hid hG1; clear hG1)
      | (go_at_call 132; (with_reducible refine (C2.out _ hW1).mono ?_); rintro _ w2 ⟨rfl, hW2, hG2⟩; have v32 := hW2.2.2.1.cell 32 _ V32.out; have HG2 := Lib.hid (HG1.out.trans hG2); clear hG2)
      | (go_at_call 188; (with_reducible refine (C3.out _ hW2).mono ?_); rintro _ w3 ⟨rfl, hW3, hG3⟩; have v32 := hW3.2.2.1.cell 32 _ V32.out; have k1 : w3.cell? ⟨c, 1, none⟩ = some (.pointer (some ⟨rb, 0, none⟩)) := hW3.1; have HG3 := Lib.hid (HG2.out.trans hG3); clear hG3)
      | (at_make; refine wpList_make_full _ rfl _ _ 25 rfl w3.heap.size 51 i0 (.agg #[.string ⟨#[]⟩, .bool false, .int .i64 0]) 3 Tryz.underlying25 HI.out HZ0.out HZ1.out _ _ _ _ m rfl rfl (by omega) (by omega) HM.out HX.out (Nat.le_refl _) ?_; intro w9 hown hgrow; have HS9 := Lib.hid (g_made hW3 HG3.out hown hgrow hm0); clear hown hgrow; have f0 := HS9.out.1; have c32 := HS9.out.2.1))
    go_loopw [43] (fun i wr => ∃ (k gb : Nat), k ≤ m ∧ i = .int .i64 k ∧ RS wr c rb g (rdGs S7 k).2 (E2.vals al (.slice (some ⟨gb, 0, none⟩) m m)) ∧ w.heap.size ≤ gb ∧ VB wr gb (m * 3) (flatG (rdGs S7 k).1) ∧ G2 w wr rb g) (fun i _ => m - (intOf i).toNat)
    case atStart => exact ⟨0, _, Nat.zero_le _, rfl, HS9.out.2.2.1, HS9.out.2.2.2.1, HS9.out.2.2.2.2.1, HS9.out.2.2.2.2.2⟩
    case round =>
      obtain ⟨k, gb, hk, rfl, hWr, hB, hN, hGr⟩ := hrel
      have HGr := Lib.hid hGr
      have v32 := hWr.2.2.1.cell 32 _ (vals_32 E2 al (.slice (some ⟨gb, 0, none⟩) m m))
      clear hGr
      by_cases hlt : k < m
      · have hb := HB.out k
        have hL := rdGs_len S7 k
        obtain ⟨st, hst⟩ : ∃ st, st = (rdGs S7 k).2 := ⟨_, rfl⟩
        obtain ⟨L, hLL⟩ : ∃ L, L = (rdGs S7 k).1 := ⟨_, rfl⟩
        have e2 : (rdGs S7 (k + 1)).2 = (rdG st).2 := by rw [hst]; rfl
        have e1 : (rdGs S7 (k + 1)).1 = L ++ [(rdG st).1] := by rw [hst, hLL]; rfl
        rw [← hst] at hWr hb
        rw [← hLL] at hN hL
        clear hst hLL
        obtain ⟨sa, hsa⟩ : ∃ sa, sa = (Rd.txt 200 st).2 := ⟨_, rfl⟩
        obtain ⟨sb, hsb⟩ : ∃ sb, sb = (Rd.boo sa).2 := ⟨_, rfl⟩
        have ba : sa.1.length ≤ 1000 := by rw [hsa]; exact Nat.le_trans (Rd.txt_len 200 st).1 hb
        have bb : sb.1.length ≤ 1000 := by rw [hsb]; exact Nat.le_trans (Rd.boo_len sa) ba
        have eG : rdG st = ((⟨(Rd.txt 200 st).1.toArray⟩, (Rd.boo sa).1, ((clip (Rd.num sb).1 : Nat) : Int)), (Rd.num sb).2) := by rw [hsb, hsa]; rfl
        rw [eG] at e1 e2
        have t1 := fun (W : World) (hW : RS W c rb g st (E2.vals al (.slice (some ⟨gb, 0, none⟩) m m))) (F : Nat → Value) (hV : VB W gb (m * 3) F) => ci_text c rb ⟨gb, k * 3, none⟩ _ st W (by omega) hW.1 hW.2.1 hW.2.2.2.2.2.2.2 (hV.1 (k * 3) (by omega)) (hV.2.1 _) hV.2.2 (by show gb ≠ rb; omega)
        have t2 := fun (W : World) (hW : RS W c rb g sa (E2.vals al (.slice (some ⟨gb, 0, none⟩) m m))) (F : Nat → Value) (hV : VB W gb (m * 3) F) => ci_truth c rb ⟨gb, k * 3 + 1, none⟩ _ sa W (by omega) hW.1 hW.2.1 hW.2.2.2.2.2.2.2 (hV.1 (k * 3 + 1) (by omega)) (hV.2.1 _) hV.2.2 (by show gb ≠ rb; omega)
        have t3 := fun (W : World) (hW : RS W c rb g sb (E2.vals al (.slice (some ⟨gb, 0, none⟩) m m))) (F : Nat → Value) (hV : VB W gb (m * 3) F) => ci_number c rb ⟨gb, k * 3 + 2, none⟩ _ sb W (by omega) hW.1 hW.2.1 hW.2.2.2.2.2.2.2 (hV.1 (k * 3 + 2) (by omega)) (hV.2.1 _) hV.2.2 (by show gb ≠ rb; omega)
        rw [← hsa] at t1
        rw [← hsb] at t2
        have T1 := Lib.hid t1
        have T2 := Lib.hid t2
        have T3 := Lib.hid t3
        have EG1 := Lib.hid e1
        have EG2 := Lib.hid e2
        have HW := Lib.hid hWr
        have HN := Lib.hid hN
        have HLn := Lib.hid hL
        clear t1 t2 t3 e1 e2 eG hsa hsb hWr hN hL ba bb hb
        go_wp2_with (first
          | (go_at_call 132; (with_reducible refine (T1.out _ HW.out _ HN.out).mono ?_); rintro _ wq ⟨rfl, wy, t, ht, hR, hG, rfl⟩; have HS := Lib.hid (v_step HW.out hcw hrw hgw hB HN.out HGr.out hR hG (j := k * 3) (by omega) (.string t)); have HT := Lib.hid ht; clear hR hG ht)
          | (go_at_call 131; (with_reducible refine (T2.out _ HS.out.1 _ HS.out.2.1).mono ?_); rintro _ wq ⟨rfl, wz, hR, hG, rfl⟩; have HS2 := Lib.hid (v_step HS.out.1 hcw hrw hgw hB HS.out.2.1 HS.out.2.2 hR hG (j := k * 3 + 1) (by omega) (.bool (Rd.boo sa).1)); clear hR hG)
          | (go_at_call 143; (with_reducible refine (T3.out _ HS2.out.1 _ HS2.out.2.1).mono ?_); rintro _ wq ⟨rfl, wx, hR, hG, rfl⟩; have HS3 := Lib.hid (v_step HS2.out.1 hcw hrw hgw hB HS2.out.2.1 HS2.out.2.2 hR hG (j := k * 3 + 2) (by omega) (.int .i64 (clip (Rd.num sb).1))); clear hR hG))
        go_roundw
        case rel =>
          refine ⟨k + 1, gb, by omega, by go_num, by rw [EG2.out]; exact HS3.out.1, hB, ?_, HS3.out.2.2⟩
          rw [EG1.out, ← flat_step L _ k HLn.out, ← HT.out, Ds.mk_bl]
          exact HS3.out.2.1
        case measure => simp [intOf]; omega
      · have hkm : k = m := by omega
        have HW8 : Hid (RS wr c rb g (rdGs S7 m).2 (E2.vals al (.slice (some ⟨gb, 0, none⟩) m m))) := Lib.hid (by rw [hkm] at hWr; exact hWr)
        have HN8 : Hid (VB wr gb (m * 3) (flatG (rdGs S7 m).1)) := Lib.hid (by rw [hkm] at hN; exact hN)
        clear hWr hN
        go_wp2_with fail
        go_end0
        exact ⟨rfl, _, HW8.out, ⟨HN8.out.gs (rdGs_len S7 m) (by omega), fun x hx => by cases hx; exact hB⟩, HGr.out⟩
end Go.Proofs.YtihbihkmchacnaaGreatDoor
