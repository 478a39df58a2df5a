/- Several texts in one: LaGg CardGg. -/
import Derived.Test.YtlkfhlgngkgflaaGreatDoorGeU
import Derived.Test.YtlkfhlgngkgflaaGreatDoorApp
import Derived.Test.YtlkfhlgngkgflaaGreatDoorFrameEn
section
/- The walk of the law GenerationGreatest. -/
namespace Go.Proofs.YtlkfhlgngkgflaaGreatDoor
open Go.RowKit
set_option maxHeartbeats 1600000
set_option maxRecDepth 8000
attribute [local go_sem ↓] ldEnt stEnt
attribute [local go_sem] isHead_mk headOf_mk cellsOfV_mk isAggV_mk row_new row_new2 row_new2' row_drew row_drewN vals_size allOne_nil allOne_cons one_int one_bool one_string one_pointer one_slice
theorem law_great_few (e : En) (a1 a2 a3 : Option Addr) (n1 c1 n2 c2 n3 c3 : Nat) (n : Int) (w : World) (hm : MaxL w) (hf : (decide (e.name.size ≤ 60) && decide (n2 ≤ 12) && decide (n1 ≤ 8) && decide (n3 ≤ 80) && decide (0 ≤ 20)) = false) :
    Calls Tryz.prog 6 #[.agg (e.vals (.slice a1 n1 c1) (.slice a2 n2 c2)), .slice a3 n3 c3, .int .i64 n] w fun r w' => r = .returned (.bool true) ∧ Below w.heap.size w w' := by
  go_enter Tryz.func6, Tryz.ntmps6
  go_wp2_with (first | (go_at_call 10; (with_reducible refine (aw38 _ (hm.below (by (repeat (first | exact Below.refl _ _ | assumption | (refine Below.drew ?_) | (refine Below.alloc ?_ (by first | (simp; done) | (simp; omega) | omega) _) | (refine Below.setCell ?_ (by first | (simp; done) | (simp; omega) | omega) _)))))).mono ?_); rintro _ w1 ⟨rfl, hb⟩; have R := row_below hb (row_new w _ _ _) (by simp [vals_size]); have B := below1 hb; clear hb) | (go_at_call 13; (with_reducible refine (few38 e _ _ _ _ _ _ _ _ _ _ _ _ _).mono ?_); rw [hf]; rintro _ w2 ⟨rfl, hb⟩; have B := bt B hb; clear hb))
  go_ret
  exact ⟨rfl, B⟩
theorem fold_one (e : En) (l2 : List Int) (g2 : List Gr) (ex : List Int) (n : Int) :
    ((foldA e l2 g2 ex [n]).1 ≠ 0 ∧ (foldA e l2 g2 ex [n]).2.2.1 = [] ∧ (foldA e l2 g2 ex [n]).2.2.2 = []) ∨ ((foldA e l2 g2 ex [n]) = (0, n, Ge.stays e.lim e.em ex n, Ge.goes e.lim e.em ex n) ∧ okE e l2 g2 ex = true) := by
  unfold foldA
  cases okE e l2 g2 ex
  · rw [if_neg (by decide)]; exact .inl ⟨by decide, rfl, rfl⟩
  · rw [if_pos rfl]
    unfold Ge.foldG
    by_cases h1 : n < 1 ∨ 9999 < n
    · rw [if_pos h1]; exact .inl ⟨by decide, rfl, rfl⟩
    · rw [if_neg h1]
      by_cases h2 : n ≤ e.last
      · rw [if_pos h2]; exact .inl ⟨by decide, rfl, rfl⟩
      · rw [if_neg h2]; unfold Ge.foldG; exact .inr ⟨by rw [List.nil_append], rfl⟩
theorem IS.one1' {w : World} {n : Int} {t : TypeId} {k : Nat} (h : w.heap.size = k) : IS (w.alloc (.cells #[.int .i64 n] t)) (.slice (some ⟨k, 0, none⟩) 1 1) [n] := by subst h; exact IS.one1 w n t
theorem belA2 {w w3 : World} (B : Below w.heap.size w w3) (o1 o2 : Obj) : Below w.heap.size w ((w3.alloc o1).alloc o2) := ((B.alloc B.size _).alloc (by have := B.size; simp; omega) _)
theorem law_great_bad (e : En) (a1 a2 : Option Addr) (n1 c1 n2 c2 : Nat) (exv : Value) (l2 ex : List Int) (g2 : List Gr) (n : Int) (w : World) (hm : MaxL w) (h1 : IS w (.slice a1 n1 c1) l2) (h2 : GS w (.slice a2 n2 c2) g2) (h3 : IS w exv ex) (hex : ex.length ≤ 80)
    (hf : (decide (e.name.size ≤ 60) && decide (n2 ≤ 12) && decide (n1 ≤ 8) && decide (ex.length ≤ 80) && decide (0 ≤ 20)) = true) (hF : (foldA e l2 g2 ex [n]).1 ≠ 0) (hF1 : (foldA e l2 g2 ex [n]).2.2.1 = []) (hF2 : (foldA e l2 g2 ex [n]).2.2.2 = []) :
    Calls Tryz.prog 6 #[.agg (e.vals (.slice a1 n1 c1) (.slice a2 n2 c2)), exv, .int .i64 n] w fun r w' => r = .returned (.bool true) ∧ Below w.heap.size w w' := by
  obtain ⟨a3, c3, rfl, -⟩ := id h3
  have hr1 := fun W (b : Below w.heap.size w W) => ge_rollin e (.slice a1 n1 c1) (.slice a2 n2 c2) _ l2 ex g2 n W (hm.below b) (h1.below b) (h2.below b) (h3.below b) (by omega)
  have hr2 := fun W lv (b : Below w.heap.size w W) (hl : IS W lv [n]) => ge_roll e (.slice a1 n1 c1) (.slice a2 n2 c2) _ lv l2 ex [n] g2 W (hm.below b) (h1.below b) (h2.below b) (h3.below b) hl (by omega) (by simp)
  rw [hF1] at hr2
  rw [hF2] at hr1
  have ho := rolled_one e (.slice a1 n1 c1) (.slice a2 n2 c2) (foldA e l2 g2 ex [n]) h1.one h2.one
  have hx := rolled_size e (.slice a1 n1 c1) (.slice a2 n2 c2) (foldA e l2 g2 ex [n])
  generalize rolled e (.slice a1 n1 c1) (.slice a2 n2 c2) (foldA e l2 g2 ex [n]) = X at hr1 hr2 ho hx
  generalize (foldA e l2 g2 ex [n]).1 = E at hr1 hr2 hF
  have q1 : (E != E) = false := by simp
  have q2 : (E != 0) = true := by simpa using hF
  have H1 := Lib.hid hr1
  have H2 := Lib.hid hr2
  clear hr1 hr2 hF hF1 hF2 h1 h2 h3
  go_enter Tryz.func6, Tryz.ntmps6
  go_wp2_with (first | (go_at_call 10; (with_reducible refine (aw38 _ (hm.below (by (repeat (first | exact Below.refl _ _ | assumption | (refine Below.drew ?_) | (refine Below.alloc ?_ (by first | (simp; done) | (simp; omega) | omega) _) | (refine Below.setCell ?_ (by first | (simp; done) | (simp; omega) | omega) _)))))).mono ?_); rintro _ w1 ⟨rfl, hb⟩; have R := row_below hb (row_new w _ _ _) (by simp [vals_size]); have B := below1 hb; clear hb) | (go_at_call 13; (with_reducible refine (few38 e _ _ _ _ _ _ _ _ _ _ _ _ _).mono ?_); rw [hf]; rintro _ w2 ⟨rfl, hb⟩; have R := row_below hb R (by simp [vals_size]); have B := bt B hb; clear hb) | (go_at_call 20; (with_reducible refine (H1.out _ B).mono ?_); rintro _ w3 ⟨v1, rfl, ⟨⟨a5, c5, rfl, -⟩, -⟩, hb⟩; have R := row_below hb R (by simp [vals_size]); have R5 := row_keep R (by simp [vals_size]) (Below.refl _ _) (.cells X 34); have B := bt B hb; clear hb) | (go_at_call 14; (with_reducible refine (H2.out _ _ (belA2 B _ _) (IS.one1' (by simp))).mono ?_); rintro _ w4 ⟨v2, rfl, ⟨⟨a6, c6, rfl, -⟩, -⟩, hb⟩; have B := bt B (below2 hb); clear hb))
  go_ret
  exact ⟨rfl, B.alloc B.size _⟩
theorem guard_off {P : Program} {ops : Array Oper} {rest : List Oper} {o : Oper} {a : Act} {w : World} {Q : Exit → Act → World → Prop} (hw : Region.wanted o (yielded ops a.tmps) = true) (h : wpList P ops Q ({ o with guard := none } :: rest) a w) : wpList P ops Q (o :: rest) a w := by
  unfold wpList at h ⊢
  rw [if_pos hw]
  rw [if_pos (by simp [Region.wanted])] at h
  exact h
theorem belC {w w5 : World} {o1 o2 : Obj} (h : Below (w.heap.size + 1) ((w.alloc o1).alloc o2) w5) : Below w.heap.size w w5 :=
  (belA2 (Below.refl _ _) o1 o2).trans (h.mono (by omega))
theorem sizC {k : Nat} {w w5 : World} {o1 o2 : Obj} (h : Below k ((w.alloc o1).alloc o2) w5) : w.heap.size + 2 ≤ w5.heap.size := by have := h.size; simp at this; omega
theorem below1' {k : Nat} {w w1 : World} {o : Obj} (hb : Below k (w.alloc o) w1) (hk : k ≤ w.heap.size) : Below k w w1 := ((Below.refl _ _).alloc hk _).trans hb
theorem belD {w w4 w6 : World} (h : Below w.heap.size w w4) (k : Below w4.heap.size w4 w6) : Below w.heap.size w w6 := bt h k
theorem owns_some {w : World} {base e n c : Nat} {a : Option Addr} {xs : List Value} (h : w.ownsRow base e 1 (.slice a n c) n xs) (hn : 0 < n) : ∃ g, a = some ⟨g, 0, none⟩ ∧ n ≤ c := by
  rcases h.2 with ⟨_, h0⟩ | ⟨g, cap, cur, e1, _, _, h3, _⟩
  · omega
  · injection e1 with e1 e2 e3
    exact ⟨g, e1, by omega⟩

theorem law_great_short (e : En) (a1 a2 : Option Addr) (n1 c1 n2 c2 : Nat) (exv : Value) (l2 ex : List Int) (g2 : List Gr) (n : Int) (w : World) (hm : MaxL w) (h1 : IS w (.slice a1 n1 c1) l2) (h2 : GS w (.slice a2 n2 c2) g2) (h3 : IS w exv ex) (hex : ex.length ≤ 80)
    (hf : (decide (e.name.size ≤ 60) && decide (n2 ≤ 12) && decide (n1 ≤ 8) && decide (ex.length ≤ 80) && decide (0 ≤ 20)) = true) (hF : (foldA e l2 g2 ex [n]) = (0, n, Ge.stays e.lim e.em ex n, Ge.goes e.lim e.em ex n)) (hc : (ex.length : Int) + 1 ≤ e.lim) :
    Calls Tryz.prog 6 #[.agg (e.vals (.slice a1 n1 c1) (.slice a2 n2 c2)), exv, .int .i64 n] w fun r w' => r = .returned (.bool true) ∧ Below w.heap.size w w' := by
  obtain ⟨a3, c3, rfl, -⟩ := id h3
  have hr1 := fun W (b : Below w.heap.size w W) => ge_rollin e (.slice a1 n1 c1) (.slice a2 n2 c2) _ l2 ex g2 n W (hm.below b) (h1.below b) (h2.below b) (h3.below b) (by omega)
  have hr2 := fun W lv (b : Below w.heap.size w W) (hl : IS W lv [n]) => ge_roll e (.slice a1 n1 c1) (.slice a2 n2 c2) _ lv l2 ex [n] g2 W (hm.below b) (h1.below b) (h2.below b) (h3.below b) hl (by omega) (by simp)
  rw [hF] at hr1 hr2
  have eX : rolled e (.slice a1 n1 c1) (.slice a2 n2 c2) (0, n, Ge.stays e.lim e.em ex n, Ge.goes e.lim e.em ex n) = ({ e with last := n } : En).vals (.slice a1 n1 c1) (.slice a2 n2 c2) := by unfold rolled; rw [if_pos rfl]
  have ho := rolled_one e (.slice a1 n1 c1) (.slice a2 n2 c2) (foldA e l2 g2 ex [n]) h1.one h2.one
  have hx := rolled_size e (.slice a1 n1 c1) (.slice a2 n2 c2) (foldA e l2 g2 ex [n])
  rw [hF, eX] at ho hx
  rw [eX] at hr1 hr2
  have v25 : (({ e with last := n } : En).vals (.slice a1 n1 c1) (.slice a2 n2 c2))[25]? = some (.int .i64 e.lim) := vals_25 _ _ _
  have v27 : (({ e with last := n } : En).vals (.slice a1 n1 c1) (.slice a2 n2 c2))[27]? = some (.bool e.em) := vals_27 _ _ _
  generalize ({ e with last := n } : En).vals (.slice a1 n1 c1) (.slice a2 n2 c2) = X at hr1 hr2 ho hx v25 v27
  simp only at hr1 hr2
  generalize hst : Ge.stays e.lim e.em ex n = st at hr1 hr2
  generalize hgo : Ge.goes e.lim e.em ex n = go at hr1 hr2
  have H1 := Lib.hid hr1
  have H2 := Lib.hid hr2
  have H3 := Lib.hid (fun W (b : Below w.heap.size w W) => h3.below b)
  clear hr1 hr2 hF h1 h2 h3 eX
  have hall : decide (go ++ st = ex ++ [n]) = true := by rw [decide_eq_true_eq, ← hst, ← hgo]; exact Ge.goes_stays _ _ _ _
  have hzz : go.length + st.length ≤ 81 := by have := congrArg List.length (of_decide_eq_true hall); simp at this; omega
  have q1 : decide (e.lim < (ex.length : Int) + 1) = false := by rw [decide_eq_false_iff_not]; omega
  have hw : decide (st = ex ++ [n]) = true := by rw [decide_eq_true_eq, ← hst]; exact Ge.stays_short _ _ _ _ hc
  have HW := Lib.hid hw
  have HA := Lib.hid hall
  clear hst hgo hw hall
  go_enter Tryz.func6, Tryz.ntmps6
  go_wp2_with (first | (go_at_call 10; (with_reducible refine (aw38 _ (hm.below (by (repeat (first | exact Below.refl _ _ | assumption | (refine Below.drew ?_) | (refine Below.alloc ?_ (by first | (simp; done) | (simp; omega) | omega) _) | (refine Below.setCell ?_ (by first | (simp; done) | (simp; omega) | omega) _)))))).mono ?_); rintro _ w1 ⟨rfl, hb⟩; have R := row_below hb (row_new w _ _ _) (by simp [vals_size]); have B := below1 hb; clear hb) | (go_at_call 13; (with_reducible refine (few38 e _ _ _ _ _ _ _ _ _ _ _ _ _).mono ?_); rw [hf]; rintro _ w2 ⟨rfl, hb⟩; have R := row_below hb R (by simp [vals_size]); have B := bt B hb; clear hb) | (go_at_call 20; (with_reducible refine (H1.out _ B).mono ?_); rintro _ w3 ⟨v1, rfl, ⟨i1, -⟩, hb⟩; have R := row_below hb R (by simp [vals_size]); have R5 := row_keep R (by simp [vals_size]) (Below.refl _ _) (.cells X 34); have B := bt B hb; clear hb) | (go_at_call 14; (with_reducible refine (H2.out _ _ (belA2 B _ _) (IS.one1' (by simp))).mono ?_); rintro _ w4 ⟨v2, rfl, ⟨i2, -⟩, hb⟩; have x25 := below_cell hb (cell_alloc _ (cell_row (row_new w3 X 34 (0, 0)) 25 _ v25)); have x27 := below_cell hb (cell_alloc _ (cell_row (row_new w3 X 34 (0, 0)) 27 _ v27)); have y1 := i1.below (below2 hb); have B := bt B (below2 hb); clear hb) | (at_builtin; refine wp_appB _ rfl (.tmp 51) (.tmp 52) rfl (w4.heap.size + 1) (.slice (some ⟨w4.heap.size + 1, 0, none⟩) 0 0) _ [] ex rfl (owns_empty (by simp)) rfl (H3.out _ (belA2 B _ _)) (by simp; omega) (by simp) ?_; simp only [List.nil_append]; intro aA cA w5 hown5 b5; have b45 := belC b5; have s5 := sizC b5; clear b5) | (at_builtin; refine wp_appB _ rfl (.tmp 53) (.tmp 55) rfl (w4.heap.size + 1) (.slice aA ex.length cA) _ ex [n] rfl (hown5.alloc _) rfl (IS.one1' rfl) (by simp; omega) (by simp; omega) ?_; intro aB cB w6 hown6 b6; have s6 : w5.heap.size ≤ w6.heap.size := (by have := b6.size; simp at this; omega); have b46 := b45.trans ((below1' b6 (by omega)).mono (by omega)); have b06 := belD B b46 ; obtain ⟨g6, rfl, c6⟩ := owns_some hown6 (by simp); have j6 := owns_is hown6 (by simp; omega); have z25 := below_cell b46 x25; have z27 := below_cell b46 x27; have i6 := i2.below b46; have y6 := y1.below b46; clear b6) | (go_at_call 17; (with_reducible refine (rints _ _ st (ex ++ [n]) _ i6 (by simpa using j6)).mono ?_); rw [HW.out]; rintro _ w7 ⟨rfl, b7⟩; have b67 := b7; have B7 := bt b06 b7; have y7 := y6.below b7; have i7 := i6.below b7; have j7 := j6.below b7; clear b7) | (at_builtin; refine guard_off (by rfl) ?_; refine wp_appB _ rfl (.tmp 81) (.tmp 82) rfl (w7.heap.size) (.slice (some ⟨w7.heap.size, 0, none⟩) 0 0) _ [] go rfl (owns_empty rfl) rfl (y7.below ((Below.refl _ _).alloc (Nat.le_refl _) _)) (by simp; omega) (by simp) ?_; simp only [List.nil_append]; intro aC cC w8 hown8 b8; have b78 := below1' b8 (Nat.le_refl _); clear b8) | (at_builtin; refine guard_off (by rfl) ?_; refine wp_appB _ rfl (.tmp 83) (.tmp 84) rfl (w7.heap.size) (.slice aC go.length cC) _ go st rfl hown8 rfl (i7.below b78) (by omega) b78.size ?_; intro aD cD w9 hown9 b9; have b79 := b78.trans b9; have k9 := owns_is hown9 (by rw [List.length_append]; omega); have j9 := j7.below b79; have B9 := bt B7 b79; clear b9) | (go_at_call 17; (with_reducible refine (rints _ _ (go ++ st) (ex ++ [n]) _ (by simpa using k9) (by simpa using j9)).mono ?_); rw [HA.out]; rintro _ w10 ⟨rfl, b10⟩; have B10 := bt B9 b10; clear b10))
  go_ret
  exact ⟨rfl, B10⟩
theorem law_great_all (e : En) (a1 a2 : Option Addr) (n1 c1 n2 c2 : Nat) (exv : Value) (l2 ex : List Int) (g2 : List Gr) (n : Int) (w : World) (hm : MaxL w) (h1 : IS w (.slice a1 n1 c1) l2) (h2 : GS w (.slice a2 n2 c2) g2) (h3 : IS w exv ex) (hex : ex.length ≤ 80)
    (hf : (decide (e.name.size ≤ 60) && decide (n2 ≤ 12) && decide (n1 ≤ 8) && decide (ex.length ≤ 80) && decide (0 ≤ 20)) = true) (hF : (foldA e l2 g2 ex [n]) = (0, n, Ge.stays e.lim e.em ex n, Ge.goes e.lim e.em ex n)) (_hlim : 1 ≤ e.lim) (_hlim2 : e.lim ≤ 63) (hc : e.lim < (ex.length : Int) + 1) (hem : e.em = true) (k : Nat) (hk : (ex.length : Int) + 1 - e.lim = k) (hk2 : k ≤ ex.length) :
    Calls Tryz.prog 6 #[.agg (e.vals (.slice a1 n1 c1) (.slice a2 n2 c2)), exv, .int .i64 n] w fun r w' => r = .returned (.bool true) ∧ Below w.heap.size w w' := by
  obtain ⟨a3, c3, rfl, -⟩ := id h3
  have hr1 := fun W (b : Below w.heap.size w W) => ge_rollin e (.slice a1 n1 c1) (.slice a2 n2 c2) _ l2 ex g2 n W (hm.below b) (h1.below b) (h2.below b) (h3.below b) (by omega)
  have hr2 := fun W lv (b : Below w.heap.size w W) (hl : IS W lv [n]) => ge_roll e (.slice a1 n1 c1) (.slice a2 n2 c2) _ lv l2 ex [n] g2 W (hm.below b) (h1.below b) (h2.below b) (h3.below b) hl (by omega) (by simp)
  rw [hF] at hr1 hr2
  have eX : rolled e (.slice a1 n1 c1) (.slice a2 n2 c2) (0, n, Ge.stays e.lim e.em ex n, Ge.goes e.lim e.em ex n) = ({ e with last := n } : En).vals (.slice a1 n1 c1) (.slice a2 n2 c2) := by unfold rolled; rw [if_pos rfl]
  have ho := rolled_one e (.slice a1 n1 c1) (.slice a2 n2 c2) (foldA e l2 g2 ex [n]) h1.one h2.one
  have hx := rolled_size e (.slice a1 n1 c1) (.slice a2 n2 c2) (foldA e l2 g2 ex [n])
  rw [hF, eX] at ho hx
  rw [eX] at hr1 hr2
  have v25 : (({ e with last := n } : En).vals (.slice a1 n1 c1) (.slice a2 n2 c2))[25]? = some (.int .i64 e.lim) := vals_25 _ _ _
  have v27 : (({ e with last := n } : En).vals (.slice a1 n1 c1) (.slice a2 n2 c2))[27]? = some (.bool e.em) := vals_27 _ _ _
  generalize ({ e with last := n } : En).vals (.slice a1 n1 c1) (.slice a2 n2 c2) = X at hr1 hr2 ho hx v25 v27
  simp only at hr1 hr2
  generalize hst : Ge.stays e.lim e.em ex n = st at hr1 hr2
  generalize hgo : Ge.goes e.lim e.em ex n = go at hr1 hr2
  have H1 := Lib.hid hr1
  have H2 := Lib.hid hr2
  have H3 := Lib.hid (fun W (b : Below w.heap.size w W) => h3.below b)
  clear hr1 hr2 hF h1 h2 h3 eX
  have hall : decide (go ++ st = ex ++ [n]) = true := by rw [decide_eq_true_eq, ← hst, ← hgo]; exact Ge.goes_stays _ _ _ _
  have hzz : go.length + st.length ≤ 81 := by have := congrArg List.length (of_decide_eq_true hall); simp at this; omega
  rw [hem] at v27
  have q1 : decide (e.lim < (ex.length : Int) + 1) = true := by rw [decide_eq_true_eq]; omega
  have hw : decide (st = [n]) = true := by rw [decide_eq_true_eq, ← hst, hem]; unfold Ge.stays; rw [Ge.cut_all _ _ _ hc]; simp
  have HW := Lib.hid hw
  have HA := Lib.hid hall
  clear hst hgo hw hall hem
  go_enter Tryz.func6, Tryz.ntmps6
  go_wp2_with (first | (go_at_call 10; (with_reducible refine (aw38 _ (hm.below (by (repeat (first | exact Below.refl _ _ | assumption | (refine Below.drew ?_) | (refine Below.alloc ?_ (by first | (simp; done) | (simp; omega) | omega) _) | (refine Below.setCell ?_ (by first | (simp; done) | (simp; omega) | omega) _)))))).mono ?_); rintro _ w1 ⟨rfl, hb⟩; have R := row_below hb (row_new w _ _ _) (by simp [vals_size]); have B := below1 hb; clear hb) | (go_at_call 13; (with_reducible refine (few38 e _ _ _ _ _ _ _ _ _ _ _ _ _).mono ?_); rw [hf]; rintro _ w2 ⟨rfl, hb⟩; have R := row_below hb R (by simp [vals_size]); have B := bt B hb; clear hb) | (go_at_call 20; (with_reducible refine (H1.out _ B).mono ?_); rintro _ w3 ⟨v1, rfl, ⟨i1, -⟩, hb⟩; have R := row_below hb R (by simp [vals_size]); have R5 := row_keep R (by simp [vals_size]) (Below.refl _ _) (.cells X 34); have B := bt B hb; clear hb) | (go_at_call 14; (with_reducible refine (H2.out _ _ (belA2 B _ _) (IS.one1' (by simp))).mono ?_); rintro _ w4 ⟨v2, rfl, ⟨i2, -⟩, hb⟩; have x25 := below_cell hb (cell_alloc _ (cell_row (row_new w3 X 34 (0, 0)) 25 _ v25)); have x27 := below_cell hb (cell_alloc _ (cell_row (row_new w3 X 34 (0, 0)) 27 _ v27)); have y1 := i1.below (below2 hb); have B := bt B (below2 hb); clear hb) | (at_builtin; refine wp_appB _ rfl (.tmp 51) (.tmp 52) rfl (w4.heap.size + 1) (.slice (some ⟨w4.heap.size + 1, 0, none⟩) 0 0) _ [] ex rfl (owns_empty (by simp)) rfl (H3.out _ (belA2 B _ _)) (by simp; omega) (by simp) ?_; simp only [List.nil_append]; intro aA cA w5 hown5 b5; have b45 := belC b5; have s5 := sizC b5; clear b5) | (at_builtin; refine wp_appB _ rfl (.tmp 53) (.tmp 55) rfl (w4.heap.size + 1) (.slice aA ex.length cA) _ ex [n] rfl (hown5.alloc _) rfl (IS.one1' rfl) (by simp; omega) (by simp; omega) ?_; intro aB cB w6 hown6 b6; have s6 : w5.heap.size ≤ w6.heap.size := (by have := b6.size; simp at this; omega); have b46 := b45.trans ((below1' b6 (by omega)).mono (by omega)); have b06 := belD B b46 ; obtain ⟨g6, rfl, c6⟩ := owns_some hown6 (by simp); have c7 : ¬ cB = ex.length := (by simp at c6; omega); have c8 : ¬ cB = k := (by simp at c6; omega); have j6 := owns_is hown6 (by simp; omega); have z25 := below_cell b46 x25; have z27 := below_cell b46 x27; have i6 := i2.below b46; have y6 := y1.below b46; clear b6) | (go_at_call 17; (with_reducible refine (rints _ _ st ([n]) _ i6 (by simpa using j6.drop ex.length)).mono ?_); rw [HW.out]; rintro _ w7 ⟨rfl, b7⟩; have b67 := b7; have B7 := bt b06 b7; have y7 := y6.below b7; have i7 := i6.below b7; have j7 := j6.below b7; clear b7) | (at_builtin; refine guard_off (by rfl) ?_; refine wp_appB _ rfl (.tmp 81) (.tmp 82) rfl (w7.heap.size) (.slice (some ⟨w7.heap.size, 0, none⟩) 0 0) _ [] go rfl (owns_empty rfl) rfl (y7.below ((Below.refl _ _).alloc (Nat.le_refl _) _)) (by simp; omega) (by simp) ?_; simp only [List.nil_append]; intro aC cC w8 hown8 b8; have b78 := below1' b8 (Nat.le_refl _); clear b8) | (at_builtin; refine guard_off (by rfl) ?_; refine wp_appB _ rfl (.tmp 83) (.tmp 84) rfl (w7.heap.size) (.slice aC go.length cC) _ go st rfl hown8 rfl (i7.below b78) (by omega) b78.size ?_; intro aD cD w9 hown9 b9; have b79 := b78.trans b9; have k9 := owns_is hown9 (by rw [List.length_append]; omega); have j9 := j7.below b79; have B9 := bt B7 b79; clear b9) | (go_at_call 17; (with_reducible refine (rints _ _ (go ++ st) (ex ++ [n]) _ (by simpa using k9) (by simpa using j9)).mono ?_); rw [HA.out]; rintro _ w10 ⟨rfl, b10⟩; have B10 := bt B9 b10; clear b10))
  go_ret
  exact ⟨rfl, B10⟩
theorem law_great_some (e : En) (a1 a2 : Option Addr) (n1 c1 n2 c2 : Nat) (exv : Value) (l2 ex : List Int) (g2 : List Gr) (n : Int) (w : World) (hm : MaxL w) (h1 : IS w (.slice a1 n1 c1) l2) (h2 : GS w (.slice a2 n2 c2) g2) (h3 : IS w exv ex) (hex : ex.length ≤ 80)
    (hf : (decide (e.name.size ≤ 60) && decide (n2 ≤ 12) && decide (n1 ≤ 8) && decide (ex.length ≤ 80) && decide (0 ≤ 20)) = true) (hF : (foldA e l2 g2 ex [n]) = (0, n, Ge.stays e.lim e.em ex n, Ge.goes e.lim e.em ex n)) (_hlim : 1 ≤ e.lim) (_hlim2 : e.lim ≤ 63) (hc : e.lim < (ex.length : Int) + 1) (hem : e.em = false) (k : Nat) (hk : (ex.length : Int) + 1 - e.lim = k) (hk2 : k ≤ ex.length) :
    Calls Tryz.prog 6 #[.agg (e.vals (.slice a1 n1 c1) (.slice a2 n2 c2)), exv, .int .i64 n] w fun r w' => r = .returned (.bool true) ∧ Below w.heap.size w w' := by
  obtain ⟨a3, c3, rfl, -⟩ := id h3
  have hr1 := fun W (b : Below w.heap.size w W) => ge_rollin e (.slice a1 n1 c1) (.slice a2 n2 c2) _ l2 ex g2 n W (hm.below b) (h1.below b) (h2.below b) (h3.below b) (by omega)
  have hr2 := fun W lv (b : Below w.heap.size w W) (hl : IS W lv [n]) => ge_roll e (.slice a1 n1 c1) (.slice a2 n2 c2) _ lv l2 ex [n] g2 W (hm.below b) (h1.below b) (h2.below b) (h3.below b) hl (by omega) (by simp)
  rw [hF] at hr1 hr2
  have eX : rolled e (.slice a1 n1 c1) (.slice a2 n2 c2) (0, n, Ge.stays e.lim e.em ex n, Ge.goes e.lim e.em ex n) = ({ e with last := n } : En).vals (.slice a1 n1 c1) (.slice a2 n2 c2) := by unfold rolled; rw [if_pos rfl]
  have ho := rolled_one e (.slice a1 n1 c1) (.slice a2 n2 c2) (foldA e l2 g2 ex [n]) h1.one h2.one
  have hx := rolled_size e (.slice a1 n1 c1) (.slice a2 n2 c2) (foldA e l2 g2 ex [n])
  rw [hF, eX] at ho hx
  rw [eX] at hr1 hr2
  have v25 : (({ e with last := n } : En).vals (.slice a1 n1 c1) (.slice a2 n2 c2))[25]? = some (.int .i64 e.lim) := vals_25 _ _ _
  have v27 : (({ e with last := n } : En).vals (.slice a1 n1 c1) (.slice a2 n2 c2))[27]? = some (.bool e.em) := vals_27 _ _ _
  generalize ({ e with last := n } : En).vals (.slice a1 n1 c1) (.slice a2 n2 c2) = X at hr1 hr2 ho hx v25 v27
  simp only at hr1 hr2
  generalize hst : Ge.stays e.lim e.em ex n = st at hr1 hr2
  generalize hgo : Ge.goes e.lim e.em ex n = go at hr1 hr2
  have H1 := Lib.hid hr1
  have H2 := Lib.hid hr2
  have H3 := Lib.hid (fun W (b : Below w.heap.size w W) => h3.below b)
  clear hr1 hr2 hF h1 h2 h3 eX
  have hall : decide (go ++ st = ex ++ [n]) = true := by rw [decide_eq_true_eq, ← hst, ← hgo]; exact Ge.goes_stays _ _ _ _
  have hzz : go.length + st.length ≤ 81 := by have := congrArg List.length (of_decide_eq_true hall); simp at this; omega
  rw [hem] at v27
  have q1 : decide (e.lim < (ex.length : Int) + 1) = true := by rw [decide_eq_true_eq]; omega
  have hw : decide (st = (ex ++ [n]).drop k) = true := by rw [decide_eq_true_eq, ← hst, hem]; unfold Ge.stays; rw [Ge.cut_some _ _ _ hc, hk]; rfl
  have HW := Lib.hid hw
  have HA := Lib.hid hall
  clear hst hgo hw hall hem
  go_enter Tryz.func6, Tryz.ntmps6
  go_wp2_with (first | (go_at_call 10; (with_reducible refine (aw38 _ (hm.below (by (repeat (first | exact Below.refl _ _ | assumption | (refine Below.drew ?_) | (refine Below.alloc ?_ (by first | (simp; done) | (simp; omega) | omega) _) | (refine Below.setCell ?_ (by first | (simp; done) | (simp; omega) | omega) _)))))).mono ?_); rintro _ w1 ⟨rfl, hb⟩; have R := row_below hb (row_new w _ _ _) (by simp [vals_size]); have B := below1 hb; clear hb) | (go_at_call 13; (with_reducible refine (few38 e _ _ _ _ _ _ _ _ _ _ _ _ _).mono ?_); rw [hf]; rintro _ w2 ⟨rfl, hb⟩; have R := row_below hb R (by simp [vals_size]); have B := bt B hb; clear hb) | (go_at_call 20; (with_reducible refine (H1.out _ B).mono ?_); rintro _ w3 ⟨v1, rfl, ⟨i1, -⟩, hb⟩; have R := row_below hb R (by simp [vals_size]); have R5 := row_keep R (by simp [vals_size]) (Below.refl _ _) (.cells X 34); have B := bt B hb; clear hb) | (go_at_call 14; (with_reducible refine (H2.out _ _ (belA2 B _ _) (IS.one1' (by simp))).mono ?_); rintro _ w4 ⟨v2, rfl, ⟨i2, -⟩, hb⟩; have x25 := below_cell hb (cell_alloc _ (cell_row (row_new w3 X 34 (0, 0)) 25 _ v25)); have x27 := below_cell hb (cell_alloc _ (cell_row (row_new w3 X 34 (0, 0)) 27 _ v27)); have y1 := i1.below (below2 hb); have B := bt B (below2 hb); clear hb) | (at_builtin; refine wp_appB _ rfl (.tmp 51) (.tmp 52) rfl (w4.heap.size + 1) (.slice (some ⟨w4.heap.size + 1, 0, none⟩) 0 0) _ [] ex rfl (owns_empty (by simp)) rfl (H3.out _ (belA2 B _ _)) (by simp; omega) (by simp) ?_; simp only [List.nil_append]; intro aA cA w5 hown5 b5; have b45 := belC b5; have s5 := sizC b5; clear b5) | (at_builtin; refine wp_appB _ rfl (.tmp 53) (.tmp 55) rfl (w4.heap.size + 1) (.slice aA ex.length cA) _ ex [n] rfl (hown5.alloc _) rfl (IS.one1' rfl) (by simp; omega) (by simp; omega) ?_; intro aB cB w6 hown6 b6; have s6 : w5.heap.size ≤ w6.heap.size := (by have := b6.size; simp at this; omega); have b46 := b45.trans ((below1' b6 (by omega)).mono (by omega)); have b06 := belD B b46 ; obtain ⟨g6, rfl, c6⟩ := owns_some hown6 (by simp); have c7 : ¬ cB = k := (by simp at c6; omega); have j6 := owns_is hown6 (by simp; omega); have z25 := below_cell b46 x25; have z27 := below_cell b46 x27; have i6 := i2.below b46; have y6 := y1.below b46; clear b6) | (go_at_call 17; (with_reducible refine (rints _ _ st ((ex ++ [n]).drop k) _ i6 (by simpa using j6.drop k)).mono ?_); rw [HW.out]; rintro _ w7 ⟨rfl, b7⟩; have b67 := b7; have B7 := bt b06 b7; have y7 := y6.below b7; have i7 := i6.below b7; have j7 := j6.below b7; clear b7) | (at_builtin; refine guard_off (by rfl) ?_; refine wp_appB _ rfl (.tmp 81) (.tmp 82) rfl (w7.heap.size) (.slice (some ⟨w7.heap.size, 0, none⟩) 0 0) _ [] go rfl (owns_empty rfl) rfl (y7.below ((Below.refl _ _).alloc (Nat.le_refl _) _)) (by simp; omega) (by simp) ?_; simp only [List.nil_append]; intro aC cC w8 hown8 b8; have b78 := below1' b8 (Nat.le_refl _); clear b8) | (at_builtin; refine guard_off (by rfl) ?_; refine wp_appB _ rfl (.tmp 83) (.tmp 84) rfl (w7.heap.size) (.slice aC go.length cC) _ go st rfl hown8 rfl (i7.below b78) (by omega) b78.size ?_; intro aD cD w9 hown9 b9; have b79 := b78.trans b9; have k9 := owns_is hown9 (by rw [List.length_append]; omega); have j9 := j7.below b79; have B9 := bt B7 b79; clear b9) | (go_at_call 17; (with_reducible refine (rints _ _ (go ++ st) (ex ++ [n]) _ (by simpa using k9) (by simpa using j9)).mono ?_); rw [HA.out]; rintro _ w10 ⟨rfl, b10⟩; have B10 := bt B9 b10; clear b10))
  go_ret
  exact ⟨rfl, B10⟩
theorem law_great_any (e : En) (a1 a2 a3 : Option Addr) (n1 c1 n2 c2 n3 c3 : Nat) (n : Int) (w : World) (hm : MaxL w) (o1 : n1 ≤ 1000 → ∃ l : List Int, l.length = n1 ∧ IS w (.slice a1 n1 c1) l) (o2 : n2 ≤ 1000 → ∃ l : List Gr, l.length = n2 ∧ GS w (.slice a2 n2 c2) l) (o3 : n3 ≤ 1000 → ∃ l : List Int, l.length = n3 ∧ IS w (.slice a3 n3 c3) l) :
    Calls Tryz.prog 6 #[.agg (e.vals (.slice a1 n1 c1) (.slice a2 n2 c2)), .slice a3 n3 c3, .int .i64 n] w fun r w' => r = .returned (.bool true) ∧ Below w.heap.size w w' := by
  cases hf : (decide (e.name.size ≤ 60) && decide (n2 ≤ 12) && decide (n1 ≤ 8) && decide (n3 ≤ 80) && decide (0 ≤ 20))
  · exact law_great_few e a1 a2 a3 n1 c1 n2 c2 n3 c3 n w hm hf
  · have hf' := hf
    simp only [Bool.and_eq_true, decide_eq_true_eq] at hf'
    obtain ⟨l2, rfl, h1⟩ := o1 (by omega)
    obtain ⟨g2, rfl, h2⟩ := o2 (by omega)
    obtain ⟨ex, rfl, h3⟩ := o3 (by omega)
    rcases fold_one e l2 g2 ex n with ⟨f1, f2, f3⟩ | ⟨hF, hok⟩
    · exact law_great_bad e a1 a2 _ c1 _ c2 _ l2 ex g2 n w hm h1 h2 h3 (by omega) hf f1 f2 f3
    · obtain ⟨-, q1, q2, -⟩ := ok_bounds e l2 ex g2 hok
      rcases Int.lt_or_le e.lim ((ex.length : Int) + 1) with hc | hc
      · cases hem : e.em
        · exact law_great_some e a1 a2 _ c1 _ c2 _ l2 ex g2 n w hm h1 h2 h3 (by omega) hf hF q1 q2 hc hem ((ex.length : Int) + 1 - e.lim).toNat (by omega) (by omega)
        · exact law_great_all e a1 a2 _ c1 _ c2 _ l2 ex g2 n w hm h1 h2 h3 (by omega) hf hF q1 q2 hc hem ((ex.length : Int) + 1 - e.lim).toNat (by omega) (by omega)
      · exact law_great_short e a1 a2 _ c1 _ c2 _ l2 ex g2 n w hm h1 h2 h3 (by omega) hf hF hc
end Go.Proofs.YtlkfhlgngkgflaaGreatDoor

end
section
/- The statement GenerationGreatest: the walk, the frame of the row, the card. Conditions: none beyond the statement. -/
namespace Go.Proofs.YtlkfhlgngkgflaaGreatDoor.generationGreatest
open Go.ChangeShapes Go.WideShapes Go.ChangeAt Go.RowKit Go.Proofs.YtlkfhlgngkgflaaGreatDoor
open Go.ChangeMaps (open_string)

set_option maxRecDepth 100000 in
theorem contract (H : Type) (enc : TypeId × Value → H) (W : World) (base : Nat) (args : Array Value) (ds gs : List (DataW H)) (before : List MemPlace)
    (hval : ∀ (j : Nat) t v, Tryz.f6.params[j]? = some t → args[j]? = some v → Value.okWide Tryz.prog W .any base t v)
    (hW : DataW.Whole enc Tryz.prog Tryz.f6.params.toList Rows.generationGreatestSpec.vars false W args.toList ds gs before) (_hL : laidMetH Tryz.prog Rows.generationGreatestRow.laid W) (hS : W.ShapedOpen Tryz.prog) :
    Calls Tryz.prog 6 args W fun e W' => ∃ v, e = .returned v ∧ Rows.generationGreatestSpec.post enc Tryz.prog Tryz.f6 false true false false W args v W' := by
  have hW' := hW
  have hlt : ∀ x ∈ before, x.block < W.heap.size := fun x hx => by simpa using hW'.lt x hx
  obtain ⟨p, q, hA0, hV, rfl, hfz, hnd⟩ := hW
  have hA : DataW.TrodAll enc Tryz.prog W 0 (fun _ => true) true Tryz.f6.params.toList args.toList ds p := hA0
  have hK := hA
  rw [Tryz.params6] at hA hval
  obtain ⟨v0, vs0, d0, ds0, p0, q0, hargs, rfl, rfl, h0, r0⟩ := trodAll_cons hA
  obtain ⟨v1, vs1, d1, ds1, p1, q1, rfl, rfl, rfl, h1, r1⟩ := trodAll_cons r0
  obtain ⟨v2, vs2, d2, ds2, p2, q2, rfl, rfl, rfl, h2, r2⟩ := trodAll_cons r1
  obtain ⟨rfl, rfl, rfl⟩ := trodAll_nil r2
  obtain rfl : args = #[v0, v1, v2] := by cases args; simp_all
  obtain ⟨rfl, rfl⟩ := trodVars_none hV
  obtain ⟨e0, a0, n0, c0, x0, m0, k0, rfl, o0, u0⟩ := open_en (hval 0 34 v0 rfl rfl) h0
  obtain ⟨a1, n1, c1, rfl, o1⟩ := open_islice' (hval 1 22 v1 rfl rfl) h1
  obtain ⟨n2, rfl⟩ := okWide_int Tryz.underlying3 (hval 2 3 v2 rfl rfl)
  refine (law_great_any e0 a0 x0 a1 n0 c0 m0 k0 n1 c1 n2 W (max_of hS) o0 u0 o1).mono fun e W' ⟨he, hb⟩ => ?_
  subst he
  exact ⟨_, rfl, _, _, _, [], _, [], hW', trodAll_cons_mk (shut_bool Tryz.underlying4 _) trodAll_mk0, args_below hb (by rw [Tryz.params6]; kernel_rfl) hK (fun x hx => hlt x (by simpa using hx)), rfl, hb.frame _, fun h => by cases h⟩

def zEnt : Value := .agg #[.int .i64 0, .string ⟨#[]⟩, .int .i64 0, .int .i64 0, .int .i64 0, .int .i64 0, .int .i64 0, .int .i64 0, .int .i64 0, .int .i64 0, .int .i64 0, .int .i64 0, .int .i64 0, .int .i64 0, .int .i64 0, .int .i64 0, .bool false, .int .i64 0, .string ⟨#[]⟩, .string ⟨#[]⟩, .int .i64 0, .int .i64 0, .bool false, .slice none 0 0, .int .i64 0, .int .i64 0, .int .i64 0, .bool false, .string ⟨#[]⟩, .string ⟨#[]⟩, .int .i64 0, .int .i64 0, .slice none 0 0]
def dEnt {H : Type} : DataW H := .agg [.lit (.int .i64 0), .lit (.string []), .agg [.lit (.int .i64 0), .lit (.int .i64 0), .lit (.int .i64 0), .lit (.int .i64 0), .lit (.int .i64 0), .lit (.int .i64 0), .lit (.int .i64 0), .lit (.int .i64 0), .lit (.int .i64 0), .lit (.int .i64 0), .lit (.int .i64 0), .lit (.int .i64 0), .lit (.int .i64 0), .lit (.int .i64 0), .lit (.bool false), .lit (.int .i64 0), .lit (.string []), .lit (.string []), .lit (.int .i64 0), .lit (.int .i64 0), .lit (.bool false)], .nil, .lit (.int .i64 0), .lit (.int .i64 0), .lit (.int .i64 0), .lit (.bool false), .lit (.string []), .lit (.string []), .lit (.int .i64 0), .lit (.int .i64 0), .nil]

theorem laid_met (os : Os) : laidMetH Tryz.prog Rows.generationGreatestRow.laid ((World.laidAll Tryz.prog os Rows.generationGreatestRow.laid).forCall (fun _ _ => 0) ⟨#[], #[(zEnt : Value), (.slice none 0 0 : Value), (.int .i64 0 : Value)], []⟩).memory := by
  rw [MakeChecks.laidMetH_plain _ _ _ (by kernel_rfl)]; exact laidMet_laidAll _ (by kernel_rfl) (by kernel_rfl)
theorem reads (os : Os) {H : Type} (enc : TypeId × Value → H) : ∃ places, DataW.whole enc Tryz.prog ((World.laidAll Tryz.prog os Rows.generationGreatestRow.laid).forCall (fun _ _ => 0) ⟨#[], #[(zEnt : Value), (.slice none 0 0 : Value), (.int .i64 0 : Value)], []⟩).memory Tryz.f6.params.toList Rows.generationGreatestSpec.vars false #[(zEnt : Value), (.slice none 0 0 : Value), (.int .i64 0 : Value)].toList 8 = some ([dEnt, .nil, .lit (.int .i64 0)], [], places) :=
  ⟨[], by kernel_rfl⟩

set_option maxRecDepth 100000 in
theorem lifted (os : Os) (started : os.Started) (H : Type) (enc : TypeId × Value → H) (F : Stop.Interp) :
    ReturnsInHanded {} Tryz.checked os 6 .any ((OpenSpec.ofChange Rows.generationGreatestSpec).preRow enc Tryz.prog Tryz.f6 Rows.generationGreatestRow.domain false Rows.generationGreatestRow.laid) (((OpenSpec.ofChange Rows.generationGreatestSpec).at F).post enc Tryz.prog Tryz.f6 false true false false) := by
  obtain ⟨places, hx⟩ := reads os enc
  refine returnsInHanded_of_row (C := Tryz.checked) (s := OpenSpec.ofChange Rows.generationGreatestSpec) ownk started (by kernel_rfl) Tryz.func6
    (witness_lay (enc := enc) (C := Tryz.checked) false #[(zEnt : Value), (.slice none 0 0 : Value), (.int .i64 0 : Value)] (World.shaped_of_ZipB (by kernel_rfl) (by kernel_rfl)) (by kernel_rfl)
      (OpenSpec.preRow_of_cond 8 hx (by kernel_rfl) (fun k hk => by cases hk) (by kernel_rfl) (laid_met os))) ?_
  intro W base args ds gs before hval hW _ _ _ hL hS _
  exact contract H enc W base args ds gs before hval hW hL hS

theorem said : Rows.GenerationGreatestSaid :=
  OpenClaim.holds_of_cond 6 Tryz.f6 rfl rfl rfl rfl rfl rfl rfl ⟨rfl, rfl, rfl, rfl, rfl⟩ rfl rfl rfl rfl rfl (by kernel_rfl) Tryz.func6 (by kernel_rfl)
    (of_decide_eq_true (by kernel_rfl)) (by unfold Func.isWrapper; first | (rw [if_pos (by decide +kernel)]; kernel_rfl) | (rw [if_neg (by decide +kernel)]; exact ⟨rfl, rfl⟩))
    (fun os started H enc _ F => by rw [OpenClaim.pre_eq_preRow]; exact lifted os started H enc F)

theorem plain (f : FuncId) (fn : Func) (hf : Tryz.pinned.checked.prog.funcNamed Rows.generationGreatestRow.func = some f) (hfn : Tryz.pinned.checked.prog.funcs[f]? = some fn) :
    false = Tryz.pinned.checked.prog.looks [] ∧ ∀ (j : Nat) t, fn.params[j]? = some t → Tryz.pinned.checked.prog.wantsStandIn t = false := by
  obtain rfl : f = 6 := Option.some.inj ((show Tryz.prog.funcNamed Rows.generationGreatestRow.func = some 6 by kernel_rfl).symm.trans hf) |>.symm
  obtain rfl : fn = Tryz.f6 := (Option.some.inj (Tryz.func6.symm.trans hfn)).symm
  refine ⟨by kernel_rfl, fun j t ht => ?_⟩
  rw [Tryz.params6] at ht
  have hm := Array.mem_of_getElem? ht
  have ha : (#[34, 22, 3] : Array TypeId).all (fun t => !Tryz.prog.wantsStandIn t) = true := by kernel_rfl
  have := (Array.all_eq_true_iff_forall_mem.1 ha) t hm
  exact (show Tryz.prog.wantsStandIn t = false by simpa using this)

/-- THE CARD -/
theorem card : Rows.GenerationGreatestCardSaid :=
  Claim7.holds_tied_plain_at .later [] _ _ _ _ said (fun _ h => by cases h) (by kernel_rfl) (fun _ h => by cases h) generationGreatest_row_tie rfl ⟨rfl, rfl⟩ (by kernel_rfl) rfl plain (by kernel_rfl)
end Go.Proofs.YtlkfhlgngkgflaaGreatDoor.generationGreatest

end
