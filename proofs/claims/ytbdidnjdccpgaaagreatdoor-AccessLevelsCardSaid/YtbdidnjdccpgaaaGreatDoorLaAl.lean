/- The walk of AccessLevels. -/
import Derived.Test.YtbdidnjdccpgaaaGreatDoorAwQ
import Derived.Test.YtbdidnjdccpgaaaGreatDoorFewA
import Derived.Test.YtbdidnjdccpgaaaGreatDoorRm
namespace Go.Proofs.YtbdidnjdccpgaaaGreatDoor
open Go.RowKit
set_option maxHeartbeats 40000000
set_option maxRecDepth 8000
theorem best_noneC (a : Option Addr) (n c : Nat) (F : Nat → Ef) (name : ByteArray) (w : World) (hm : MaxL w) (hES : ES w a n F) (hn : n ≤ 1000) (hF : ∀ k, k < n → (F k).e.name.size ≤ 60 ∧ (F k).n2 ≤ 1000) (h : best (Ds.bl name) (lst F n) = none) :
    Calls Tryz.prog 31 #[.slice a n c, .string name] w fun r w' => r = .returned (.tuple #[.agg zE, .bool false]) ∧ Below w.heap.size w w' := by
  refine (ac_best a n c F name w hm hES hn hF).mono ?_
  rintro r w' ⟨h1 | ⟨x, a1, c1, gr, h1, -⟩, hb⟩
  · exact ⟨h1.2, hb⟩
  · rw [h] at h1; cases h1
theorem best_someC (a : Option Addr) (n c : Nat) (F : Nat → Ef) (name : ByteArray) (x : Ef) (w : World) (hm : MaxL w) (hES : ES w a n F) (hn : n ≤ 1000) (hF : ∀ k, k < n → (F k).e.name.size ≤ 60 ∧ (F k).n2 ≤ 1000) (h : best (Ds.bl name) (lst F n) = some x) :
    Calls Tryz.prog 31 #[.slice a n c, .string name] w fun r w' => ∃ (a1 : Option Addr) (c1 : Nat) (a2 : Option Addr) (c2 : Nat), r = .returned (.tuple #[.agg (x.e.vals (.slice a1 x.n1 c1) (.slice a2 x.gs.length c2)), .bool true]) ∧ GS w' (.slice a2 x.gs.length c2) x.gs ∧ Below w.heap.size w w' := by
  refine (ac_best a n c F name w hm hES hn hF).mono ?_
  rintro r w' ⟨h1 | ⟨y, a1, c1, gr, h1, rfl, hg⟩, hb⟩
  · rw [h] at h1; cases h1.1
  · obtain rfl : x = y := Option.some.inj (h.symm.trans h1)
    obtain ⟨a2, c2, rfl, -⟩ := id hg
    exact ⟨a1, c1, a2, c2, rfl, hg, hb⟩
theorem rbest_noneC (a : Option Addr) (n c : Nat) (F : Nat → Ef) (name : ByteArray) (w : World) (hES : ES w a n F) (hn : n ≤ 1000) (hF : ∀ k, k < n → (F k).e.name.size ≤ 60 ∧ (F k).n2 ≤ 1000) (h : best (Ds.bl name) (lst F n) = none) :
    Calls Tryz.prog 32 #[.slice a n c, .string name] w fun r w' => r = .returned (.tuple #[.agg zE, .bool false]) ∧ Below w.heap.size w w' := by
  refine (rbest a n c F name w hES hn hF).mono ?_
  rintro r w' ⟨h1 | ⟨x, a1, c1, gr, h1, -⟩, hb⟩
  · exact ⟨h1.2, hb⟩
  · rw [h] at h1; cases h1
theorem rbest_someC (a : Option Addr) (n c : Nat) (F : Nat → Ef) (name : ByteArray) (x : Ef) (w : World) (hES : ES w a n F) (hn : n ≤ 1000) (hF : ∀ k, k < n → (F k).e.name.size ≤ 60 ∧ (F k).n2 ≤ 1000) (h : best (Ds.bl name) (lst F n) = some x) :
    Calls Tryz.prog 32 #[.slice a n c, .string name] w fun r w' => ∃ (a1 : Option Addr) (c1 : Nat) (a2 : Option Addr) (c2 : Nat), r = .returned (.tuple #[.agg (x.e.vals (.slice a1 x.n1 c1) (.slice a2 x.gs.length c2)), .bool true]) ∧ GS w' (.slice a2 x.gs.length c2) x.gs ∧ Below w.heap.size w w' := by
  refine (rbest a n c F name w hES hn hF).mono ?_
  rintro r w' ⟨h1 | ⟨y, a1, c1, gr, h1, rfl, hg⟩, hb⟩
  · rw [h] at h1; cases h1.1
  · obtain rfl : x = y := Option.some.inj (h.symm.trans h1)
    obtain ⟨a2, c2, rfl, -⟩ := id hg
    exact ⟨a1, c1, a2, c2, rfl, hg, hb⟩
theorem rsame_zero (w : World) : Calls Tryz.prog 19 #[.agg zE, .agg zE] w fun r w' => r = .returned (.bool true) ∧ Below w.heap.size w w' := by
  rw [zE_eq]
  have h := rsame En.zero En.zero _ _ _ _ [] [] [] [] w (IS.nil w) (IS.nil w) (GS.nil w) (GS.nil w)
  rw [(sameE_eq _ _ _ _ _ _).2 ⟨rfl, rfl, rfl⟩] at h
  exact h
theorem okQ_n1 (x : Ef) (h : okQ x = true) : x.n1 = 0 := by
  unfold okQ at h
  simp only [Bool.and_eq_true, decide_eq_true_eq] at h
  exact h.2.2.2
theorem rsame_best (x : Ef) (hx : okQ x = true) (a1 b1 a2 b2 : Option Addr) (c1 d1 c2 d2 : Nat) (w : World) (h1 : GS w (.slice a2 x.gs.length c2) x.gs) (h2 : GS w (.slice b2 x.gs.length d2) x.gs) :
    Calls Tryz.prog 19 #[.agg (x.e.vals (.slice a1 x.n1 c1) (.slice a2 x.gs.length c2)), .agg (x.e.vals (.slice b1 x.n1 d1) (.slice b2 x.gs.length d2))] w fun r w' => r = .returned (.bool true) ∧ Below w.heap.size w w' := by
  have hn := okQ_n1 x hx
  have h := rsame x.e x.e (.slice a1 x.n1 c1) (.slice a2 x.gs.length c2) (.slice b1 x.n1 d1) (.slice b2 x.gs.length d2) [] [] x.gs x.gs w ⟨a1, c1, by rw [hn]; rfl, by simp, fun h => by simp at h⟩ ⟨b1, d1, by rw [hn]; rfl, by simp, fun h => by simp at h⟩ h1 h2
  rw [(sameE_eq _ _ _ _ _ _).2 ⟨rfl, rfl, rfl⟩] at h
  exact h
attribute [local go_sem ↓] ldEnt stEnt stEnt2 stEntRow
attribute [local go_sem] Held_drew isHead_mk headOf_mk cellsOfV_mk isAggV_mk row_new row_new2 row_new2' row_drew row_drewN vals_size allOne_nil allOne_cons one_int one_bool one_string one_pointer one_slice
theorem al_no (a : Option Addr) (n c : Nat) (F : Nat → Ef) (u : ByteArray) (ga : Option Addr) (gn gc : Nat) (name : ByteArray) (w : World) (hm : MaxL w) (hT : Tab w) (hES : ES w a n F) (hall : ¬ (fewAP F n gn ∧ name.size ≤ 60)) :
    Calls Tryz.prog 6 #[.slice a n c, .string u, .slice ga gn gc, .string name] w fun r w' => r = .returned (.bool true) ∧ Below w.heap.size w w' := by
  have HAW := Lib.hid (fun W (b : Below w.heap.size w W) => aw34 W (hm.below b) (hT.below b))
  have HES := Lib.hid hES
  clear hES
  by_cases hs : name.size ≤ 60
  · have f1 : decide (60 < (name.size : Int)) = false := by rw [decide_eq_false_iff_not]; omega
    have HALL := Lib.hid (show ¬ fewAP F n gn from fun h => hall ⟨h, hs⟩)
    clear hall hs
    go_enter Tryz.func6, Tryz.ntmps6
    go_wp2_with (first
      | (go_at_call 29; (with_reducible refine (HAW.out _ (Below.refl _ _)).mono ?_); rintro _ w1 ⟨rfl, B1⟩)
      | (go_at_call 30; (refine (few34 _ _ _ _ _ _ _ _ (HES.out.below B1)).mono ?_); rintro _ w9 ⟨bb, rfl, hf, hb⟩; have B9 := bt B1 hb; have HF := Lib.hid hf; clear hb hf; cases bb; rotate_left 1; exact absurd (HF.out rfl) HALL.out))
    go_ret
    exact ⟨rfl, B9⟩
  · have f1 : decide (60 < (name.size : Int)) = true := by rw [decide_eq_true_eq]; omega
    clear hall hs
    go_enter Tryz.func6, Tryz.ntmps6
    go_wp2_with (first
      | (go_at_call 29; (with_reducible refine (HAW.out _ (Below.refl _ _)).mono ?_); rintro _ w1 ⟨rfl, B1⟩)
      | (go_at_call 30; (refine (few34 _ _ _ _ _ _ _ _ (HES.out.below B1)).mono ?_); rintro _ w9 ⟨bb, rfl, -, hb⟩; have B9 := bt B1 hb; clear hb; cases bb))
    all_goals
      go_ret
      exact ⟨rfl, B9⟩
theorem al_yes (a : Option Addr) (n c : Nat) (F : Nat → Ef) (u : ByteArray) (ga : Option Addr) (gc : Nat) (gl : List ByteArray) (name : ByteArray) (w : World) (hm : MaxL w) (hT : Tab w) (hES : ES w a n F) (hgl : SS w (.slice ga gl.length gc) gl) (hf : fewAP F n gl.length) (hs : name.size ≤ 60) :
    Calls Tryz.prog 6 #[.slice a n c, .string u, .slice ga gl.length gc, .string name] w fun r w' => r = .returned (.bool true) ∧ Below w.heap.size w w' := by
  have HAW := Lib.hid (fun W (b : Below w.heap.size w W) => aw34 W (hm.below b) (hT.below b))
  have hn : n ≤ 1000 := by have := hf.1; omega
  have hF : ∀ k, k < n → (F k).e.name.size ≤ 60 ∧ (F k).n2 ≤ 1000 := fun k hk => ⟨(hf.2.2 k hk).1, by have := (hf.2.2 k hk).2.1; omega⟩
  have f1 : decide (60 < (name.size : Int)) = false := by rw [decide_eq_false_iff_not]; omega
  have hl1 := fun W (b : Below w.heap.size w W) => ac_level a n c F u name (.slice ga gl.length gc) gl W (hm.below b) (hES.below b) hn hF (hgl.below b)
  have hl2 := fun W (b : Below w.heap.size w W) => rlevel34 a n c F u name (.slice ga gl.length gc) gl W (hES.below b) hn hF (hgl.below b)
  generalize lvl (lst F n) u gl name = A at hl1 hl2
  have HES := Lib.hid hES
  have HL1 := Lib.hid hl1
  have HL2 := Lib.hid hl2
  clear hl1 hl2 hs hf
  cases ho : best (Ds.bl name) (lst F n) with
  | none =>
    have HB1 := Lib.hid (fun W (b : Below w.heap.size w W) => best_noneC a n c F name W (hm.below b) (hES.below b) hn hF ho)
    have HB2 := Lib.hid (fun W (b : Below w.heap.size w W) => rbest_noneC a n c F name W (hES.below b) hn hF ho)
    have z1 : allOne zE.toList = true := by unfold zE zlit; simp [go_sem, allOne_nil, allOne_cons, one_int, one_bool, one_string, one_slice]
    have z2 : zE.size = 33 := rfl
    clear ho hES hF hgl
    go_enter Tryz.func6, Tryz.ntmps6
    go_wp2_with (first
      | (go_at_call 29; (with_reducible refine (HAW.out _ (Below.refl _ _)).mono ?_); rintro _ w1 ⟨rfl, B1⟩)
      | (go_at_call 30; (refine (few34 _ _ _ _ _ _ _ _ (HES.out.below B1)).mono ?_); rintro _ w2 ⟨bb, rfl, -, hb⟩; have B2 := bt B1 hb; clear hb; cases bb; rotate_left 1)
      | (go_at_call 31; (refine (HB1.out _ B2).mono ?_); rintro _ w3 ⟨rfl, hb⟩; have B3 := bt B2 hb; have R3 := row_new w3 zE 27 (0, 0); have z3 := B3.size; clear hb)
      | (go_at_call 32; (refine (HB2.out _ (B3.alloc z3 _)).mono ?_); rintro _ w4 ⟨rfl, hb⟩; have B4 := bt (B3.alloc z3 _) hb; have R4 := row_below hb R3 (by rw [z2]; decide); have z4 := B4.size; have z43 : w3.heap.size < w4.heap.size := (by have := hb.size; simp at this; omega); have R5 := row_below (below_al' w4 (.cells zE 27)) R4 (by rw [z2]; decide); clear hb)
      | (go_at_call 19; (refine (rsame_zero _).mono ?_); rintro _ w5 ⟨rfl, hb⟩; have B5 := bt (B4.alloc z4 _) hb; clear hb)
      | (go_at_call 33; (with_reducible refine (HL1.out _ B5).mono ?_); rintro _ w6 ⟨rfl, hb⟩; have B6 := bt B5 hb; clear hb)
      | (go_at_call 34; (with_reducible refine (HL2.out _ B6).mono ?_); rintro _ w7 ⟨rfl, hb⟩; have B7 := bt B6 hb; clear hb))
    · go_ret
      exact ⟨ret_bool (by simp), B7⟩
    · go_ret
      exact ⟨rfl, B2⟩
  | some x =>
    have hx := (hits_ok (best_hit ho).2).2.1
    have HX := Lib.hid hx
    have HB1 := Lib.hid (fun W (b : Below w.heap.size w W) => best_someC a n c F name x W (hm.below b) (hES.below b) hn hF ho)
    have HB2 := Lib.hid (fun W (b : Below w.heap.size w W) => rbest_someC a n c F name x W (hES.below b) hn hF ho)
    clear ho hES hF hgl hx
    go_enter Tryz.func6, Tryz.ntmps6
    go_wp2_with (first
      | (go_at_call 29; (with_reducible refine (HAW.out _ (Below.refl _ _)).mono ?_); rintro _ w1 ⟨rfl, B1⟩)
      | (go_at_call 30; (refine (few34 _ _ _ _ _ _ _ _ (HES.out.below B1)).mono ?_); rintro _ w2 ⟨bb, rfl, -, hb⟩; have B2 := bt B1 hb; clear hb; cases bb; rotate_left 1)
      | (go_at_call 31; (refine (HB1.out _ B2).mono ?_); rintro _ w3 ⟨a1, c1, a2, c2, rfl, hg, hb⟩; have B3 := bt B2 hb; have hone1 := vals_one x.e (.slice a1 x.n1 c1) (.slice a2 x.gs.length c2) rfl rfl; have R3 := row_new w3 (x.e.vals (.slice a1 x.n1 c1) (.slice a2 x.gs.length c2)) 27 (0, 0); have G3 := Lib.hid hg; have z3 := B3.size; clear hb hg)
      | (go_at_call 32; (refine (HB2.out _ (B3.alloc z3 _)).mono ?_); rintro _ w4 ⟨b1, d1, b2, d2, rfl, hg, hb⟩; have B4 := bt (B3.alloc z3 _) hb; have hone2 := vals_one x.e (.slice b1 x.n1 d1) (.slice b2 x.gs.length d2) rfl rfl; have R4 := row_below hb R3 (by rw [vals_size]; decide); have z4 := B4.size; have z43 : w3.heap.size < w4.heap.size := (by have := hb.size; simp at this; omega); have G34 := Lib.hid ((G3.out.below (below1 hb)).below (below_al' w4 (.cells (x.e.vals (.slice b1 x.n1 d1) (.slice b2 x.gs.length d2)) 27))); have G4 := Lib.hid (hg.below (below_al' w4 (.cells (x.e.vals (.slice b1 x.n1 d1) (.slice b2 x.gs.length d2)) 27))); have R5 := row_below (below_al' w4 (.cells (x.e.vals (.slice b1 x.n1 d1) (.slice b2 x.gs.length d2)) 27)) R4 (by rw [vals_size]; decide); clear hb hg)
      | (go_at_call 19; (refine (rsame_best x HX.out _ _ _ _ _ _ _ _ _ G34.out G4.out).mono ?_); rintro _ w5 ⟨rfl, hb⟩; have B5 := bt (B4.alloc z4 _) hb; clear hb)
      | (go_at_call 33; (with_reducible refine (HL1.out _ B5).mono ?_); rintro _ w6 ⟨rfl, hb⟩; have B6 := bt B5 hb; clear hb)
      | (go_at_call 34; (with_reducible refine (HL2.out _ B6).mono ?_); rintro _ w7 ⟨rfl, hb⟩; have B7 := bt B6 hb; clear hb))
    · go_ret
      exact ⟨ret_bool (by simp), B7⟩
    · go_ret
      exact ⟨rfl, B2⟩
theorem law_levels (a : Option Addr) (n c : Nat) (F : Nat → Ef) (u : ByteArray) (ga : Option Addr) (gn gc : Nat) (name : ByteArray) (w : World) (hm : MaxL w) (hT : Tab w) (hES : ES w a n F) (hgn : gn ≤ 1000 → ∃ l : List ByteArray, l.length = gn ∧ SS w (.slice ga gn gc) l) :
    Calls Tryz.prog 6 #[.slice a n c, .string u, .slice ga gn gc, .string name] w fun r w' => r = .returned (.bool true) ∧ Below w.heap.size w w' := by
  by_cases h : fewAP F n gn ∧ name.size ≤ 60
  · obtain ⟨gl, rfl, hgl⟩ := hgn (by have := h.1.2.1; omega)
    exact al_yes a n c F u ga gc gl name w hm hT hES hgl h.1 h.2
  · exact al_no a n c F u ga gn gc name w hm hT hES h
end Go.Proofs.YtbdidnjdccpgaaaGreatDoor
