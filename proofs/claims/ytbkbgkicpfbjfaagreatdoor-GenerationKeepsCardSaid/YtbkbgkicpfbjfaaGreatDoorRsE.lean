/- Contracts of the references: dasdref38.RollIn. -/
import Derived.Test.YtbkbgkicpfbjfaaGreatDoorRsD
import Derived.Deep.RegionLaw
namespace Go.Proofs.YtbkbgkicpfbjfaaGreatDoor
open Go.RowKit
set_option maxHeartbeats 1600000
set_option maxRecDepth 8000
theorem rolled_bad (e : En) (al gr : Value) (x y : Int) (l m : List Int) (hx : x ≠ 0) : rolled e al gr (x, y, l, m) = zlit 0 ⟨#[]⟩ := by unfold rolled; rw [if_neg hx, zlit_eq]
theorem rolled_good (e : En) (al gr : Value) (y : Int) (l m : List Int) : rolled e al gr (0, y, l, m) = ({ e with last := y } : En).vals al gr := by unfold rolled; rw [if_pos rfl]
attribute [local go_sem ↓] ldEnt stEnt stEntRow
attribute [local go_sem] Held_drew isHead_mk headOf_mk cellsOfV_mk isAggV_mk row_new row_new2 row_new2' row_drew row_drewN vals_size allOne_nil allOne_cons one_int one_bool one_string one_pointer one_slice vals_0 vals_1 vals_25 vals_26 vals_27 vals_28
theorem rge_rollin_bad (e : En) (al gr exv : Value) (l2 ex : List Int) (g2 : List Gr) (n : Int) (w : World) (h1 : IS w al l2) (h2 : GS w gr g2) (h3 : IS w exv ex) (hsz : e.name.size ≤ 60) (hok : okE e l2 g2 ex = false) :
    Calls Tryz.prog 25 #[.agg (e.vals al gr), exv, .int .i64 n] w fun r w' => r = .returned (.tuple #[.agg (zlit 0 ⟨#[]⟩), .slice none 0 0, .int .i64 1]) ∧ Below w.heap.size w w' := by
  have hv := fun W (b : Below w.heap.size w W) => rge_valid e al gr exv l2 ex g2 W (h1.below b) (h2.below b) (h3.below b) hsz
  rw [hok] at hv
  have HV := Lib.hid hv
  clear hv hok h1 h2 h3
  go_enter Tryz.func25, Tryz.ntmps25
  go_wp2_with ((go_at_call 28; (with_reducible refine (HV.out _ (by (repeat (first | exact Below.refl _ _ | assumption | (refine Below.drew ?_) | (refine Below.alloc ?_ (by first | (simp; done) | (simp; omega) | omega) _) | (refine Below.setCell ?_ (by first | (simp; done) | (simp; omega) | omega) _))))).mono ?_)); rintro _ w1 ⟨rfl, hb⟩; obtain ⟨E1, H1, z1, B1⟩ := fd1 _ _ _ _ _ _ rfl hb; clear hb)
  have hrow := row_setRow H1 (zlit 0 ⟨#[]⟩)
  refine bodyPost_ret (res_row_tmp2 (n := 32) rfl Tryz.underlying27 rfl (by kernel_rfl) _ _ (w.heap.size + 1) rfl (congrArg Array.size hrow)) rfl ?_
  exact ⟨congrArg (fun c => Ending.returned (.tuple #[.agg c, .slice none 0 0, .int .i64 1])) hrow, below_setRow B1 (show w.heap.size ≤ w.heap.size + 1 by omega) _⟩
theorem rge_rollin_range (e : En) (al gr exv : Value) (l2 ex : List Int) (g2 : List Gr) (n : Int) (w : World) (h1 : IS w al l2) (h2 : GS w gr g2) (h3 : IS w exv ex) (hsz : e.name.size ≤ 60) (hok : okE e l2 g2 ex = true) (hn : n < 1 ∨ 9999 < n) :
    Calls Tryz.prog 25 #[.agg (e.vals al gr), exv, .int .i64 n] w fun r w' => r = .returned (.tuple #[.agg (zlit 0 ⟨#[]⟩), .slice none 0 0, .int .i64 2]) ∧ Below w.heap.size w w' := by
  have hv := fun W (b : Below w.heap.size w W) => rge_valid e al gr exv l2 ex g2 W (h1.below b) (h2.below b) (h3.below b) hsz
  rw [hok] at hv
  have HV := Lib.hid hv
  clear hv hok h1 h2 h3
  rcases (by omega : n < 1 ∨ (1 ≤ n ∧ 9999 < n)) with hn | ⟨hn1, hn2⟩
  all_goals
    go_enter Tryz.func25, Tryz.ntmps25
    go_wp2_with ((go_at_call 28; (with_reducible refine (HV.out _ (by (repeat (first | exact Below.refl _ _ | assumption | (refine Below.drew ?_) | (refine Below.alloc ?_ (by first | (simp; done) | (simp; omega) | omega) _) | (refine Below.setCell ?_ (by first | (simp; done) | (simp; omega) | omega) _))))).mono ?_)); rintro _ w1 ⟨rfl, hb⟩; obtain ⟨E1, H1, z1, B1⟩ := fd1 _ _ _ _ _ _ rfl hb; clear hb)
    have hrow := row_setRow H1 (zlit 0 ⟨#[]⟩)
    refine bodyPost_ret (res_row_tmp2 (n := 32) rfl Tryz.underlying27 rfl (by kernel_rfl) _ _ (w.heap.size + 1) rfl (congrArg Array.size hrow)) rfl ?_
    exact ⟨congrArg (fun c => Ending.returned (.tuple #[.agg c, .slice none 0 0, .int .i64 2])) hrow, below_setRow B1 (show w.heap.size ≤ w.heap.size + 1 by omega) _⟩
theorem rge_rollin_state (e : En) (al gr exv : Value) (l2 ex : List Int) (g2 : List Gr) (n : Int) (w : World) (h1 : IS w al l2) (h2 : GS w gr g2) (h3 : IS w exv ex) (hsz : e.name.size ≤ 60) (hok : okE e l2 g2 ex = true) (hn1 : 1 ≤ n) (hn2 : n ≤ 9999) (hl : n ≤ e.last) :
    Calls Tryz.prog 25 #[.agg (e.vals al gr), exv, .int .i64 n] w fun r w' => r = .returned (.tuple #[.agg (zlit 0 ⟨#[]⟩), .slice none 0 0, .int .i64 9]) ∧ Below w.heap.size w w' := by
  have hv := fun W (b : Below w.heap.size w W) => rge_valid e al gr exv l2 ex g2 W (h1.below b) (h2.below b) (h3.below b) hsz
  rw [hok] at hv
  have HV := Lib.hid hv
  clear hv hok h1 h2 h3
  go_enter Tryz.func25, Tryz.ntmps25
  go_wp2_with ((go_at_call 28; (with_reducible refine (HV.out _ (by (repeat (first | exact Below.refl _ _ | assumption | (refine Below.drew ?_) | (refine Below.alloc ?_ (by first | (simp; done) | (simp; omega) | omega) _) | (refine Below.setCell ?_ (by first | (simp; done) | (simp; omega) | omega) _))))).mono ?_)); rintro _ w1 ⟨rfl, hb⟩; obtain ⟨E1, H1, z1, B1⟩ := fd1 _ _ _ _ _ _ rfl hb; have c26 := E1.cell 26 _ (vals_26 e al gr); clear hb)
  have hrow := row_setRow H1 (zlit 0 ⟨#[]⟩)
  refine bodyPost_ret (res_row_tmp2 (n := 32) rfl Tryz.underlying27 rfl (by kernel_rfl) _ _ (w.heap.size + 1) rfl (congrArg Array.size hrow)) rfl ?_
  exact ⟨congrArg (fun c => Ending.returned (.tuple #[.agg c, .slice none 0 0, .int .i64 9])) hrow, below_setRow B1 (show w.heap.size ≤ w.heap.size + 1 by omega) _⟩
theorem fin_app {w5 : World} {k base r n : Nat} {v : Value} {l : List Int} (hown : w5.ownsRow k 3 1 v n (iv l)) (hl : l.length ≤ 1000000) (hk : base ≤ k) (hr : r < k) (cs : Array Value) : IB base (w5.setRow r cs) v l := by
  obtain ⟨h1, -, h3⟩ := NW.owns hown
  refine ⟨(h1.keep (by simp) (fun x hx _ => setRow_block _ _ _ _ (by have := (h3 x hx).1; omega))).is hl, fun x hx => by have := (h3 x hx).1; omega⟩
theorem rge_rollin_good0 (e : En) (al gr : Value) (a : Option Addr) (c : Nat) (l2 ex : List Int) (g2 : List Gr) (n : Int) (w : World) (h1 : IS w al l2) (h2 : GS w gr g2) (h3 : IS w (.slice a ex.length c) ex) (hcap : ex.length ≤ c) (hex : ex.length ≤ 1000) (hsz : e.name.size ≤ 60) (hok : okE e l2 g2 ex = true) (hn1 : 1 ≤ n) (hn2 : n ≤ 9999) (hl : e.last < n) (k : Nat) (hk : k = Ge.cut e.lim e.em (ex ++ [n])) (hA : (ex.length : Int) + 1 ≤ e.lim) :
    Calls Tryz.prog 25 #[.agg (e.vals al gr), .slice a ex.length c, .int .i64 n] w fun r w' => ∃ v, r = .returned (.tuple #[.agg (({ e with last := n } : En).vals al gr), v, .int .i64 0]) ∧ IB w.heap.size w' v (ex.take k) ∧ Below w.heap.size w w' := by
  have hv := fun W (b : Below w.heap.size w W) => rge_valid e al gr _ l2 ex g2 W (h1.below b) (h2.below b) (h3.below b) hsz
  rw [hok] at hv
  obtain ⟨-, q1, q2, q3, q4, -⟩ := ok_bounds e l2 ex g2 hok
  have hkl : k ≤ ex.length := by rw [hk]; exact Ge.cut_le _ _ _ _ q1
  have hT := fun W (b : Below w.heap.size w W) => (h3.below b).take k hkl
  have hgl : (ex.take k).length ≤ 1000 := by rw [List.length_take]; omega
  have t1 : decide (n < 1) = false := by rw [decide_eq_false_iff_not]; omega
  have t2 : decide (9999 < n) = false := by rw [decide_eq_false_iff_not]; omega
  have t3 : decide (n ≤ e.last) = false := by rw [decide_eq_false_iff_not]; omega
  have HV := Lib.hid hv
  have HT := Lib.hid hT
  have oal := h1.one
  have ogr := h2.one
  have ho : allOne (({ e with last := n } : En).vals al gr).toList = true := vals_one _ _ _ oal ogr
  have kc : (k : Int) ≤ (c : Int) := by omega
  unfold Ge.cut at hk
  simp only [List.length_append, List.length_singleton] at hk
  generalize ex.take k = go at HT hgl ⊢
  clear hv hok h1 h2 h3 hT
  obtain rfl : k = 0 := by rw [hk, if_neg (by omega)]
  have hmx : max 0 ((ex.length : Int) + 1 - e.lim) = 0 := by omega
  have d1 : decide (0 < (ex.length : Int) + 1 - e.lim) = false := by rw [decide_eq_false_iff_not]; omega
  clear hk
  go_enter Tryz.func25, Tryz.ntmps25
  go_wp2_with ((go_at_call 28; (with_reducible refine (HV.out _ (by (repeat (first | exact Below.refl _ _ | assumption | (refine Below.drew ?_) | (refine Below.alloc ?_ (by first | (simp; done) | (simp; omega) | omega) _) | (refine Below.setCell ?_ (by first | (simp; done) | (simp; omega) | omega) _))))).mono ?_)); rintro _ w1 ⟨rfl, hb⟩; obtain ⟨E1, H1, z1, B1⟩ := fd1 _ _ _ _ _ _ rfl hb; have c26 := E1.cell 26 _ (vals_26 e al gr); have f26 := E1.2.1 26; have E2 := E1.set 26 (by rw [vals_size]; decide) (.int .i64 n); rw [set_26] at E2; have c25 := E2.cell 25 _ (vals_25 _ al gr); have c27 := E2.cell 27 _ (vals_27 _ al gr); clear hb)
  have H2 := H1.of_block (setCell_other (w := w1) (a := ⟨w.heap.size, 26, none⟩) (v := .int .i64 n) (k := w.heap.size + 1) (by simp))
  have B2 := B1.setCell (p := ⟨w.heap.size, 26, none⟩) (Nat.le_refl _) (.int .i64 n)
  clear c25 c27 c26 f26 E1 H1 B1
  have R2 := E2.1
  have z2 : w.heap.size + 2 ≤ (w1.setCell ⟨w.heap.size, 26, none⟩ (.int .i64 n)).heap.size := by simpa using z1
  generalize w1.setCell ⟨w.heap.size, 26, none⟩ (.int .i64 n) = W at R2 H2 B2 z2 ⊢
  have hX : (({ e with last := n } : En).vals al gr).size = 33 := vals_size _ _ _
  clear E2
  generalize ({ e with last := n } : En).vals al gr = X at R2 ho hX ⊢
  have RA : ∀ o, row (W.alloc o) w.heap.size = X := fun o => (row_alloc (n := 32) (by rw [R2]; exact hX) o).trans R2
  have BA : ∀ o : Obj, Below w.heap.size w (W.alloc o).drew := fun o => (B2.alloc (by omega) o).drew
  have HA := fun o => H2.alloc o
  have RA5 : ∀ {w5 : World}, Below W.heap.size (W.alloc (.cells #[] 3)).drew w5 → row w5 w.heap.size = X := fun {w5} b5 => by
    have := RA (.cells #[] 3)
    unfold row at this ⊢
    rw [b5.block _ (by omega)]; exact this
  have HA5 : ∀ {w5 : World}, Below W.heap.size (W.alloc (.cells #[] 3)).drew w5 → Held w5 (w.heap.size + 1) 33 := fun {w5} b5 => (HA (.cells #[] 3)).of_block (b5.block _ (by omega))
  go_region_law (refine step_appB rfl (.tmp 44) (.tmp 48) rfl W.heap.size (.slice (some ⟨W.heap.size, 0, none⟩) 0 0) (.slice a 0 c) [] go (by simp [Act.eval, Act.put]) (owns_empty rfl) (by simp [Act.eval, Act.put]) (HT.out _ (BA _)) (by simp; omega) (by simp) ?_; simp only [List.nil_append]; intro a' c' w5 hown b5; have R5 := RA5 b5; have H5 := HA5 b5)
  all_goals
    go_wp2
    have hrow := row_setRow H5 X
    refine bodyPost_ret (res_row_tmp2 (n := 32) rfl Tryz.underlying27 rfl (by kernel_rfl) _ _ (w.heap.size + 1) rfl ((congrArg Array.size hrow).trans hX)) rfl ?_
    rw [hrow]
    exact ⟨.slice a' go.length c', by kernel_rfl, fin_app hown (by omega) (by omega) (by omega) _, below_setRow ((BA _).trans (b5.mono (by omega))) (show w.heap.size ≤ w.heap.size + 1 by omega) _⟩
theorem rge_rollin_good1 (e : En) (al gr : Value) (a : Option Addr) (c : Nat) (l2 ex : List Int) (g2 : List Gr) (n : Int) (w : World) (h1 : IS w al l2) (h2 : GS w gr g2) (h3 : IS w (.slice a ex.length c) ex) (hcap : ex.length ≤ c) (hex : ex.length ≤ 1000) (hsz : e.name.size ≤ 60) (hok : okE e l2 g2 ex = true) (hn1 : 1 ≤ n) (hn2 : n ≤ 9999) (hl : e.last < n) (k : Nat) (hk : k = Ge.cut e.lim e.em (ex ++ [n])) (hA : e.lim < (ex.length : Int) + 1) (hem : e.em = false) :
    Calls Tryz.prog 25 #[.agg (e.vals al gr), .slice a ex.length c, .int .i64 n] w fun r w' => ∃ v, r = .returned (.tuple #[.agg (({ e with last := n } : En).vals al gr), v, .int .i64 0]) ∧ IB w.heap.size w' v (ex.take k) ∧ Below w.heap.size w w' := by
  have hv := fun W (b : Below w.heap.size w W) => rge_valid e al gr _ l2 ex g2 W (h1.below b) (h2.below b) (h3.below b) hsz
  rw [hok] at hv
  obtain ⟨-, q1, q2, q3, q4, -⟩ := ok_bounds e l2 ex g2 hok
  have hkl : k ≤ ex.length := by rw [hk]; exact Ge.cut_le _ _ _ _ q1
  have hT := fun W (b : Below w.heap.size w W) => (h3.below b).take k hkl
  have hgl : (ex.take k).length ≤ 1000 := by rw [List.length_take]; omega
  have t1 : decide (n < 1) = false := by rw [decide_eq_false_iff_not]; omega
  have t2 : decide (9999 < n) = false := by rw [decide_eq_false_iff_not]; omega
  have t3 : decide (n ≤ e.last) = false := by rw [decide_eq_false_iff_not]; omega
  have HV := Lib.hid hv
  have HT := Lib.hid hT
  have oal := h1.one
  have ogr := h2.one
  have ho : allOne (({ e with last := n } : En).vals al gr).toList = true := vals_one _ _ _ oal ogr
  have kc : (k : Int) ≤ (c : Int) := by omega
  unfold Ge.cut at hk
  simp only [List.length_append, List.length_singleton] at hk
  generalize ex.take k = go at HT hgl ⊢
  clear hv hok h1 h2 h3 hT
  have d1 : decide (0 < (ex.length : Int) + 1 - e.lim) = true := by rw [decide_eq_true_eq]; omega
  have hmx : max 0 ((ex.length : Int) + 1 - e.lim) = k := by rw [hk, if_pos (by omega), hem, if_neg (by decide)]; omega
  have HEM := Lib.hid hem
  clear hk hem
  go_enter Tryz.func25, Tryz.ntmps25
  go_wp2_with ((go_at_call 28; (with_reducible refine (HV.out _ (by (repeat (first | exact Below.refl _ _ | assumption | (refine Below.drew ?_) | (refine Below.alloc ?_ (by first | (simp; done) | (simp; omega) | omega) _) | (refine Below.setCell ?_ (by first | (simp; done) | (simp; omega) | omega) _))))).mono ?_)); rintro _ w1 ⟨rfl, hb⟩; obtain ⟨E1, H1, z1, B1⟩ := fd1 _ _ _ _ _ _ rfl hb; have c26 := E1.cell 26 _ (vals_26 e al gr); have f26 := E1.2.1 26; have E2 := E1.set 26 (by rw [vals_size]; decide) (.int .i64 n); rw [set_26] at E2; have c25 := E2.cell 25 _ (vals_25 _ al gr); have c27 := E2.cell 27 _ (vals_27 _ al gr); rw [show ({ e with last := n } : En).em = false from HEM.out] at c27; clear hb)
  have H2 := H1.of_block (setCell_other (w := w1) (a := ⟨w.heap.size, 26, none⟩) (v := .int .i64 n) (k := w.heap.size + 1) (by simp))
  have B2 := B1.setCell (p := ⟨w.heap.size, 26, none⟩) (Nat.le_refl _) (.int .i64 n)
  clear c25 c27 c26 f26 E1 H1 B1
  have R2 := E2.1
  have z2 : w.heap.size + 2 ≤ (w1.setCell ⟨w.heap.size, 26, none⟩ (.int .i64 n)).heap.size := by simpa using z1
  generalize w1.setCell ⟨w.heap.size, 26, none⟩ (.int .i64 n) = W at R2 H2 B2 z2 ⊢
  have hX : (({ e with last := n } : En).vals al gr).size = 33 := vals_size _ _ _
  clear E2
  generalize ({ e with last := n } : En).vals al gr = X at R2 ho hX ⊢
  have RA : ∀ o, row (W.alloc o) w.heap.size = X := fun o => (row_alloc (n := 32) (by rw [R2]; exact hX) o).trans R2
  have BA : ∀ o : Obj, Below w.heap.size w (W.alloc o).drew := fun o => (B2.alloc (by omega) o).drew
  have HA := fun o => H2.alloc o
  have RA5 : ∀ {w5 : World}, Below W.heap.size (W.alloc (.cells #[] 3)).drew w5 → row w5 w.heap.size = X := fun {w5} b5 => by
    have := RA (.cells #[] 3)
    unfold row at this ⊢
    rw [b5.block _ (by omega)]; exact this
  have HA5 : ∀ {w5 : World}, Below W.heap.size (W.alloc (.cells #[] 3)).drew w5 → Held w5 (w.heap.size + 1) 33 := fun {w5} b5 => (HA (.cells #[] 3)).of_block (b5.block _ (by omega))
  go_region_law (refine step_appB rfl (.tmp 44) (.tmp 48) rfl W.heap.size (.slice (some ⟨W.heap.size, 0, none⟩) 0 0) (.slice a k c) [] go (by simp [Act.eval, Act.put]) (owns_empty rfl) (by simp [Act.eval, Act.put]) (HT.out _ (BA _)) (by simp; omega) (by simp) ?_; simp only [List.nil_append]; intro a' c' w5 hown b5; have R5 := RA5 b5; have H5 := HA5 b5)
  all_goals
    go_wp2
    have hrow := row_setRow H5 X
    refine bodyPost_ret (res_row_tmp2 (n := 32) rfl Tryz.underlying27 rfl (by kernel_rfl) _ _ (w.heap.size + 1) rfl ((congrArg Array.size hrow).trans hX)) rfl ?_
    rw [hrow]
    exact ⟨.slice a' go.length c', by kernel_rfl, fin_app hown (by omega) (by omega) (by omega) _, below_setRow ((BA _).trans (b5.mono (by omega))) (show w.heap.size ≤ w.heap.size + 1 by omega) _⟩
theorem rge_rollin_good2 (e : En) (al gr : Value) (a : Option Addr) (c : Nat) (l2 ex : List Int) (g2 : List Gr) (n : Int) (w : World) (h1 : IS w al l2) (h2 : GS w gr g2) (h3 : IS w (.slice a ex.length c) ex) (hcap : ex.length ≤ c) (hex : ex.length ≤ 1000) (hsz : e.name.size ≤ 60) (hok : okE e l2 g2 ex = true) (hn1 : 1 ≤ n) (hn2 : n ≤ 9999) (hl : e.last < n) (k : Nat) (hk : k = Ge.cut e.lim e.em (ex ++ [n])) (hA : e.lim < (ex.length : Int) + 1) (hem : e.em = true) :
    Calls Tryz.prog 25 #[.agg (e.vals al gr), .slice a ex.length c, .int .i64 n] w fun r w' => ∃ v, r = .returned (.tuple #[.agg (({ e with last := n } : En).vals al gr), v, .int .i64 0]) ∧ IB w.heap.size w' v (ex.take k) ∧ Below w.heap.size w w' := by
  have hv := fun W (b : Below w.heap.size w W) => rge_valid e al gr _ l2 ex g2 W (h1.below b) (h2.below b) (h3.below b) hsz
  rw [hok] at hv
  obtain ⟨-, q1, q2, q3, q4, -⟩ := ok_bounds e l2 ex g2 hok
  have hkl : k ≤ ex.length := by rw [hk]; exact Ge.cut_le _ _ _ _ q1
  have hT := fun W (b : Below w.heap.size w W) => (h3.below b).take k hkl
  have hgl : (ex.take k).length ≤ 1000 := by rw [List.length_take]; omega
  have t1 : decide (n < 1) = false := by rw [decide_eq_false_iff_not]; omega
  have t2 : decide (9999 < n) = false := by rw [decide_eq_false_iff_not]; omega
  have t3 : decide (n ≤ e.last) = false := by rw [decide_eq_false_iff_not]; omega
  have HV := Lib.hid hv
  have HT := Lib.hid hT
  have oal := h1.one
  have ogr := h2.one
  have ho : allOne (({ e with last := n } : En).vals al gr).toList = true := vals_one _ _ _ oal ogr
  have kc : (k : Int) ≤ (c : Int) := by omega
  unfold Ge.cut at hk
  simp only [List.length_append, List.length_singleton] at hk
  generalize ex.take k = go at HT hgl ⊢
  clear hv hok h1 h2 h3 hT
  have d1 : decide (0 < (ex.length : Int) + 1 - e.lim) = true := by rw [decide_eq_true_eq]; omega
  have hmx : max 0 (ex.length : Int) = k := by rw [hk, if_pos (by omega), hem, if_pos (by decide)]; omega
  have HEM := Lib.hid hem
  clear hk hem
  go_enter Tryz.func25, Tryz.ntmps25
  go_wp2_with ((go_at_call 28; (with_reducible refine (HV.out _ (by (repeat (first | exact Below.refl _ _ | assumption | (refine Below.drew ?_) | (refine Below.alloc ?_ (by first | (simp; done) | (simp; omega) | omega) _) | (refine Below.setCell ?_ (by first | (simp; done) | (simp; omega) | omega) _))))).mono ?_)); rintro _ w1 ⟨rfl, hb⟩; obtain ⟨E1, H1, z1, B1⟩ := fd1 _ _ _ _ _ _ rfl hb; have c26 := E1.cell 26 _ (vals_26 e al gr); have f26 := E1.2.1 26; have E2 := E1.set 26 (by rw [vals_size]; decide) (.int .i64 n); rw [set_26] at E2; have c25 := E2.cell 25 _ (vals_25 _ al gr); have c27 := E2.cell 27 _ (vals_27 _ al gr); rw [show ({ e with last := n } : En).em = true from HEM.out] at c27; clear hb)
  have H2 := H1.of_block (setCell_other (w := w1) (a := ⟨w.heap.size, 26, none⟩) (v := .int .i64 n) (k := w.heap.size + 1) (by simp))
  have B2 := B1.setCell (p := ⟨w.heap.size, 26, none⟩) (Nat.le_refl _) (.int .i64 n)
  clear c25 c27 c26 f26 E1 H1 B1
  have R2 := E2.1
  have z2 : w.heap.size + 2 ≤ (w1.setCell ⟨w.heap.size, 26, none⟩ (.int .i64 n)).heap.size := by simpa using z1
  generalize w1.setCell ⟨w.heap.size, 26, none⟩ (.int .i64 n) = W at R2 H2 B2 z2 ⊢
  have hX : (({ e with last := n } : En).vals al gr).size = 33 := vals_size _ _ _
  clear E2
  generalize ({ e with last := n } : En).vals al gr = X at R2 ho hX ⊢
  have RA : ∀ o, row (W.alloc o) w.heap.size = X := fun o => (row_alloc (n := 32) (by rw [R2]; exact hX) o).trans R2
  have BA : ∀ o : Obj, Below w.heap.size w (W.alloc o).drew := fun o => (B2.alloc (by omega) o).drew
  have HA := fun o => H2.alloc o
  have RA5 : ∀ {w5 : World}, Below W.heap.size (W.alloc (.cells #[] 3)).drew w5 → row w5 w.heap.size = X := fun {w5} b5 => by
    have := RA (.cells #[] 3)
    unfold row at this ⊢
    rw [b5.block _ (by omega)]; exact this
  have HA5 : ∀ {w5 : World}, Below W.heap.size (W.alloc (.cells #[] 3)).drew w5 → Held w5 (w.heap.size + 1) 33 := fun {w5} b5 => (HA (.cells #[] 3)).of_block (b5.block _ (by omega))
  go_region_law (refine step_appB rfl (.tmp 44) (.tmp 48) rfl W.heap.size (.slice (some ⟨W.heap.size, 0, none⟩) 0 0) (.slice a k c) [] go (by simp [Act.eval, Act.put]) (owns_empty rfl) (by simp [Act.eval, Act.put]) (HT.out _ (BA _)) (by simp; omega) (by simp) ?_; simp only [List.nil_append]; intro a' c' w5 hown b5; have R5 := RA5 b5; have H5 := HA5 b5)
  all_goals
    go_wp2
    have hrow := row_setRow H5 X
    refine bodyPost_ret (res_row_tmp2 (n := 32) rfl Tryz.underlying27 rfl (by kernel_rfl) _ _ (w.heap.size + 1) rfl ((congrArg Array.size hrow).trans hX)) rfl ?_
    rw [hrow]
    exact ⟨.slice a' go.length c', by kernel_rfl, fin_app hown (by omega) (by omega) (by omega) _, below_setRow ((BA _).trans (b5.mono (by omega))) (show w.heap.size ≤ w.heap.size + 1 by omega) _⟩
theorem rge_rollin_good (e : En) (al gr : Value) (a : Option Addr) (c : Nat) (l2 ex : List Int) (g2 : List Gr) (n : Int) (w : World) (h1 : IS w al l2) (h2 : GS w gr g2) (h3 : IS w (.slice a ex.length c) ex) (hcap : ex.length ≤ c) (hex : ex.length ≤ 1000) (hsz : e.name.size ≤ 60) (hok : okE e l2 g2 ex = true) (hn1 : 1 ≤ n) (hn2 : n ≤ 9999) (hl : e.last < n) (k : Nat) (hk : k = Ge.cut e.lim e.em (ex ++ [n])) :
    Calls Tryz.prog 25 #[.agg (e.vals al gr), .slice a ex.length c, .int .i64 n] w fun r w' => ∃ v, r = .returned (.tuple #[.agg (({ e with last := n } : En).vals al gr), v, .int .i64 0]) ∧ IB w.heap.size w' v (ex.take k) ∧ Below w.heap.size w w' := by
  rcases (by omega : ((ex.length : Int) + 1 ≤ e.lim) ∨ e.lim < (ex.length : Int) + 1) with hA | hA
  · exact rge_rollin_good0 e al gr a c l2 ex g2 n w h1 h2 h3 hcap hex hsz hok hn1 hn2 hl k hk hA
  · rcases Bool.eq_false_or_eq_true e.em with hem | hem
    rotate_left
    · exact rge_rollin_good1 e al gr a c l2 ex g2 n w h1 h2 h3 hcap hex hsz hok hn1 hn2 hl k hk hA hem
    · exact rge_rollin_good2 e al gr a c l2 ex g2 n w h1 h2 h3 hcap hex hsz hok hn1 hn2 hl k hk hA hem
end Go.Proofs.YtbkbgkicpfbjfaaGreatDoor
