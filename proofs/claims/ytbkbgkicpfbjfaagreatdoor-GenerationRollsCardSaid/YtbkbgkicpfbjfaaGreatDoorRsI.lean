/- Contracts of the references: dasdref38.Limit; both Limits in one form. -/
import Derived.Test.YtbkbgkicpfbjfaaGreatDoorRsD
namespace Go.Proofs.YtbkbgkicpfbjfaaGreatDoor
open Go.RowKit
set_option maxHeartbeats 1600000
set_option maxRecDepth 8000
attribute [local go_sem ↓] ldEnt stEnt stEntRow
attribute [local go_sem] Held_drew isHead_mk headOf_mk cellsOfV_mk isAggV_mk row_new row_new2 row_new2' row_drew row_drewN vals_size
theorem rge_limit_arg (e : En) (al gr exv : Value) (l2 ex : List Int) (g2 : List Gr) (lim : Int) (w : World) (h1 : IS w al l2) (h2 : GS w gr g2) (h3 : IS w exv ex) (hsz : e.name.size ≤ 60) (hok : okE e l2 g2 ex = false) :
    Calls Tryz.prog 27 #[.agg (e.vals al gr), exv, .int .i64 lim] w fun r w' => r = .returned (.tuple #[.slice none 0 0, .int .i64 1]) ∧ Below w.heap.size w w' := by
  have hv := fun W (b : Below w.heap.size w W) => rge_valid e al gr exv l2 ex g2 W (h1.below b) (h2.below b) (h3.below b) hsz
  rw [hok] at hv
  have HV := Lib.hid hv
  clear hv h1 h2 h3
  go_enter Tryz.func27, Tryz.ntmps27
  go_wp2_with (go_at_call 28; (with_reducible refine (HV.out _ (by (repeat (first | exact Below.refl _ _ | assumption | (refine Below.drew ?_) | (refine Below.alloc ?_ (by first | (simp; done) | (simp; omega) | omega) _) | (refine Below.setCell ?_ (by first | (simp; done) | (simp; omega) | omega) _))))).mono ?_); rintro _ w1 ⟨rfl, hb⟩; have B := below1 hb; clear hb)
  go_ret2
  exact ⟨rfl, B⟩
theorem rge_limit_range (e : En) (al gr exv : Value) (l2 ex : List Int) (g2 : List Gr) (lim : Int) (w : World) (h1 : IS w al l2) (h2 : GS w gr g2) (h3 : IS w exv ex) (hsz : e.name.size ≤ 60) (hok : okE e l2 g2 ex = true) (hl : lim < 1 ∨ 63 < lim) :
    Calls Tryz.prog 27 #[.agg (e.vals al gr), exv, .int .i64 lim] w fun r w' => r = .returned (.tuple #[.slice none 0 0, .int .i64 2]) ∧ Below w.heap.size w w' := by
  have hv := fun W (b : Below w.heap.size w W) => rge_valid e al gr exv l2 ex g2 W (h1.below b) (h2.below b) (h3.below b) hsz
  rw [hok] at hv
  have HV := Lib.hid hv
  clear hv h1 h2 h3
  by_cases h : lim < 1
  · have q1 : decide (lim < 1) = true := by rw [decide_eq_true_eq]; omega
    clear hl h
    go_enter Tryz.func27, Tryz.ntmps27
    go_wp2_with (go_at_call 28; (with_reducible refine (HV.out _ (by (repeat (first | exact Below.refl _ _ | assumption | (refine Below.drew ?_) | (refine Below.alloc ?_ (by first | (simp; done) | (simp; omega) | omega) _) | (refine Below.setCell ?_ (by first | (simp; done) | (simp; omega) | omega) _))))).mono ?_); rintro _ w1 ⟨rfl, hb⟩; have B := below1 hb; clear hb)
    go_ret2
    exact ⟨rfl, B⟩
  · have q1 : decide (lim < 1) = false := by rw [decide_eq_false_iff_not]; omega
    have q2 : decide (63 < lim) = true := by rw [decide_eq_true_eq]; omega
    clear hl h
    go_enter Tryz.func27, Tryz.ntmps27
    go_wp2_with (go_at_call 28; (with_reducible refine (HV.out _ (by (repeat (first | exact Below.refl _ _ | assumption | (refine Below.drew ?_) | (refine Below.alloc ?_ (by first | (simp; done) | (simp; omega) | omega) _) | (refine Below.setCell ?_ (by first | (simp; done) | (simp; omega) | omega) _))))).mono ?_); rintro _ w1 ⟨rfl, hb⟩; have B := below1 hb; clear hb)
    go_ret2
    exact ⟨rfl, B⟩
theorem rge_limit_good (e : En) (al gr : Value) (a : Option Addr) (c : Nat) (l2 ex : List Int) (g2 : List Gr) (lim : Int) (w : World) (h1 : IS w al l2) (h2 : GS w gr g2) (h3 : IS w (.slice a ex.length c) ex) (hcap : ex.length ≤ c) (hz : ex.length ≤ 1000) (hsz : e.name.size ≤ 60) (hok : okE e l2 g2 ex = true) (hl : 1 ≤ lim) (hl2 : lim ≤ 63) (k : Nat) (hk : k = ex.length - lim.toNat) :
    Calls Tryz.prog 27 #[.agg (e.vals al gr), .slice a ex.length c, .int .i64 lim] w fun r w' => ∃ v, r = .returned (.tuple #[v, .int .i64 0]) ∧ IB w.heap.size w' v (ex.take k) ∧ Below w.heap.size w w' := by
  have hv := fun W (b : Below w.heap.size w W) => rge_valid e al gr _ l2 ex g2 W (h1.below b) (h2.below b) (h3.below b) hsz
  rw [hok] at hv
  have HV := Lib.hid hv
  have H3 := Lib.hid (fun W (b : Below w.heap.size w W) => (h3.below b).take k (by omega))
  have q1 : decide (lim < 1) = false := by rw [decide_eq_false_iff_not]; omega
  have q2 : decide (63 < lim) = false := by rw [decide_eq_false_iff_not]; omega
  have hwr : wrap64 ((ex.length : Int) - lim) = (ex.length : Int) - lim := by unfold wrap64; omega
  have hmx : max 0 ((ex.length : Int) - lim) = k := by omega
  have k0 : (k : Int) ≤ (c : Int) := by omega
  have hgl : (ex.take k).length ≤ 1000 := by rw [List.length_take]; omega
  generalize ex.take k = go at H3 hgl ⊢
  clear hv h1 h2 h3 hl hl2 hk
  go_enter Tryz.func27, Tryz.ntmps27
  go_wp2_with (first
    | (go_at_call 28; (with_reducible refine (HV.out _ (by (repeat (first | exact Below.refl _ _ | assumption | (refine Below.drew ?_) | (refine Below.alloc ?_ (by first | (simp; done) | (simp; omega) | omega) _) | (refine Below.setCell ?_ (by first | (simp; done) | (simp; omega) | omega) _))))).mono ?_); rintro _ w1 ⟨rfl, hb⟩; have B := below1 hb; clear hb)
    | (at_builtin; refine wp_appB _ rfl (.tmp 18) (.tmp 25) rfl (w1.heap.size) (.slice (some ⟨w1.heap.size, 0, none⟩) 0 0) _ [] go rfl (owns_empty rfl) rfl (H3.out _ (B.alloc B.size _)) (by simp; omega) (by simp) ?_; simp only [List.nil_append]; intro aA cA w5 hown5 b5; have b15 := below1' b5 (Nat.le_refl _)))
  go_ret2
  have hN := NW.owns hown5
  exact ⟨_, rfl, ⟨hN.1.is (by omega), fun x hx => Nat.le_trans B.size (hN.2.2 x hx).1⟩, bt B b15⟩
theorem ge_limit (e : En) (al gr : Value) (a : Option Addr) (c : Nat) (l2 ex : List Int) (g2 : List Gr) (lim : Int) (w : World) (hm : MaxL w) (h1 : IS w al l2) (h2 : GS w gr g2) (h3 : IS w (.slice a ex.length c) ex) (hcap : ex.length ≤ c) :
    Calls Tryz.prog 26 #[.agg (e.vals al gr), .slice a ex.length c, .int .i64 lim] w fun r w' => ∃ v, r = .returned (.tuple #[v, .int .i64 (limA e l2 g2 ex lim).1]) ∧ IS w' v (limA e l2 g2 ex lim).2 ∧ Below w.heap.size w w' := by
  unfold limA
  cases hok : okE e l2 g2 ex
  · rw [if_neg (by decide)]
    refine (ge_limit_arg e al gr _ l2 ex g2 lim w hm h1 h2 h3 hok).mono ?_
    rintro r w' ⟨rfl, B⟩
    exact ⟨_, rfl, IS.nil _, B⟩
  · rw [if_pos rfl]
    by_cases hl : lim < 1 ∨ 63 < lim
    · rw [if_pos hl]
      refine (ge_limit_range e al gr _ l2 ex g2 lim w hm h1 h2 h3 hok hl).mono ?_
      rintro r w' ⟨rfl, B⟩
      exact ⟨_, rfl, IS.nil _, B⟩
    · rw [if_neg hl]
      refine (ge_limit_good e al gr a c l2 ex g2 lim w hm h1 h2 h3 hcap hok (by omega) (by omega) _ rfl).mono ?_
      rintro r w' ⟨v, rfl, i, B⟩
      exact ⟨v, rfl, i.1, B⟩
theorem rge_limit (e : En) (al gr : Value) (a : Option Addr) (c : Nat) (l2 ex : List Int) (g2 : List Gr) (lim : Int) (w : World) (h1 : IS w al l2) (h2 : GS w gr g2) (h3 : IS w (.slice a ex.length c) ex) (hcap : ex.length ≤ c) (hz : ex.length ≤ 1000) (hsz : e.name.size ≤ 60) :
    Calls Tryz.prog 27 #[.agg (e.vals al gr), .slice a ex.length c, .int .i64 lim] w fun r w' => ∃ v, r = .returned (.tuple #[v, .int .i64 (limA e l2 g2 ex lim).1]) ∧ IS w' v (limA e l2 g2 ex lim).2 ∧ Below w.heap.size w w' := by
  unfold limA
  cases hok : okE e l2 g2 ex
  · rw [if_neg (by decide)]
    refine (rge_limit_arg e al gr _ l2 ex g2 lim w h1 h2 h3 hsz hok).mono ?_
    rintro r w' ⟨rfl, B⟩
    exact ⟨_, rfl, IS.nil _, B⟩
  · rw [if_pos rfl]
    by_cases hl : lim < 1 ∨ 63 < lim
    · rw [if_pos hl]
      refine (rge_limit_range e al gr _ l2 ex g2 lim w h1 h2 h3 hsz hok hl).mono ?_
      rintro r w' ⟨rfl, B⟩
      exact ⟨_, rfl, IS.nil _, B⟩
    · rw [if_neg hl]
      refine (rge_limit_good e al gr a c l2 ex g2 lim w h1 h2 h3 hcap hz hsz hok (by omega) (by omega) _ rfl).mono ?_
      rintro r w' ⟨v, rfl, i, B⟩
      exact ⟨v, rfl, i.1, B⟩
end Go.Proofs.YtbkbgkicpfbjfaaGreatDoor
