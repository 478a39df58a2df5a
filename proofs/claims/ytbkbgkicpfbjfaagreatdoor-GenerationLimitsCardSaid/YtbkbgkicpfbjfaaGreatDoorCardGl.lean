/- Several texts in one: LaGl CardGl. -/
import Derived.Test.YtbkbgkicpfbjfaaGreatDoorGeU
import Derived.Test.YtbkbgkicpfbjfaaGreatDoorGeS
import Derived.Test.YtbkbgkicpfbjfaaGreatDoorRsA
import Derived.Test.YtbkbgkicpfbjfaaGreatDoorApp
import Derived.Test.YtbkbgkicpfbjfaaGreatDoorFrameEn
section
/- The walk of the law GenerationLimits. -/
namespace Go.Proofs.YtbkbgkicpfbjfaaGreatDoor
open Go.RowKit
set_option maxHeartbeats 1600000
set_option maxRecDepth 8000
attribute [local go_sem ↓] ldEnt stEnt
attribute [local go_sem] isHead_mk headOf_mk cellsOfV_mk isAggV_mk row_new row_new2 row_new2' row_drew row_drewN vals_size allOne_nil allOne_cons one_int one_bool one_string one_pointer one_slice
theorem law_limits_few (e : En) (a1 a2 a3 : Option Addr) (n1 c1 n2 c2 n3 c3 : Nat) (n : Int) (w : World) (hm : MaxL w) (hf : (decide (e.name.size ≤ 60) && decide (n2 ≤ 12) && decide (n1 ≤ 8) && decide (n3 ≤ 80) && decide (0 ≤ 20)) = false) :
    Calls Tryz.prog 7 #[.agg (e.vals (.slice a1 n1 c1) (.slice a2 n2 c2)), .slice a3 n3 c3, .int .u8 n] w fun r w' => r = .returned (.bool true) ∧ Below w.heap.size w w' := by
  go_enter Tryz.func7, Tryz.ntmps7
  go_wp2_with (first | (go_at_call 15; (with_reducible refine (aw38 _ (hm.below (by (repeat (first | exact Below.refl _ _ | assumption | (refine Below.drew ?_) | (refine Below.alloc ?_ (by first | (simp; done) | (simp; omega) | omega) _) | (refine Below.setCell ?_ (by first | (simp; done) | (simp; omega) | omega) _)))))).mono ?_); rintro _ w1 ⟨rfl, hb⟩; have R := row_below hb (row_new w _ _ _) (by simp [vals_size]); have B := below1 hb; clear hb) | (go_at_call 16; (with_reducible refine (few38 e _ _ _ _ _ _ _ _ _ _ _ _ _).mono ?_); rw [hf]; rintro _ w2 ⟨rfl, hb⟩; have B := bt B hb; clear hb))
  go_ret
  exact ⟨rfl, B⟩
theorem law_limits_not (e : En) (a1 a2 : Option Addr) (n1 c1 n2 c2 : Nat) (exv : Value) (l2 ex : List Int) (g2 : List Gr) (n : Int) (w : World) (hm : MaxL w) (h1 : IS w (.slice a1 n1 c1) l2) (h2 : GS w (.slice a2 n2 c2) g2) (h3 : IS w exv ex)
    (hf : (decide (e.name.size ≤ 60) && decide (n2 ≤ 12) && decide (n1 ≤ 8) && decide (ex.length ≤ 80) && decide (0 ≤ 20)) = true) (hok : okE e l2 g2 ex = false) :
    Calls Tryz.prog 7 #[.agg (e.vals (.slice a1 n1 c1) (.slice a2 n2 c2)), exv, .int .u8 n] w fun r w' => r = .returned (.bool true) ∧ Below w.heap.size w w' := by
  obtain ⟨a3, c3, rfl, -⟩ := id h3
  have hv := fun W (b : Below w.heap.size w W) => ge_valid e (.slice a1 n1 c1) (.slice a2 n2 c2) _ l2 ex g2 W (hm.below b) (h1.below b) (h2.below b) (h3.below b)
  rw [hok] at hv
  have HV := Lib.hid hv
  clear hv h1 h2 h3 hok
  go_enter Tryz.func7, Tryz.ntmps7
  go_wp2_with (first | (go_at_call 15; (with_reducible refine (aw38 _ (hm.below (by (repeat (first | exact Below.refl _ _ | assumption | (refine Below.drew ?_) | (refine Below.alloc ?_ (by first | (simp; done) | (simp; omega) | omega) _) | (refine Below.setCell ?_ (by first | (simp; done) | (simp; omega) | omega) _)))))).mono ?_); rintro _ w1 ⟨rfl, hb⟩; have R := row_below hb (row_new w _ _ _) (by simp [vals_size]); have B := below1 hb; clear hb) | (go_at_call 16; (with_reducible refine (few38 e _ _ _ _ _ _ _ _ _ _ _ _ _).mono ?_); rw [hf]; rintro _ w2 ⟨rfl, hb⟩; have R := row_below hb R (by simp [vals_size]); have B := bt B hb; clear hb) | (go_at_call 22; (with_reducible refine (HV.out _ B).mono ?_); rintro _ w3 ⟨rfl, hb⟩; have R := row_below hb R (by simp [vals_size]); have B := bt B hb; clear hb))
  go_ret
  exact ⟨rfl, B⟩
theorem law_limits_range (e : En) (a1 a2 : Option Addr) (n1 c1 n2 c2 : Nat) (exv : Value) (l2 ex : List Int) (g2 : List Gr) (n : Int) (w : World) (hm : MaxL w) (h1 : IS w (.slice a1 n1 c1) l2) (h2 : GS w (.slice a2 n2 c2) g2) (h3 : IS w exv ex)
    (hf : (decide (e.name.size ≤ 60) && decide (n2 ≤ 12) && decide (n1 ≤ 8) && decide (ex.length ≤ 80) && decide (0 ≤ 20)) = true) (hok : okE e l2 g2 ex = true) (hn : 0 ≤ n ∧ n ≤ 255) (hl : n < 1 ∨ 63 < n) :
    Calls Tryz.prog 7 #[.agg (e.vals (.slice a1 n1 c1) (.slice a2 n2 c2)), exv, .int .u8 n] w fun r w' => r = .returned (.bool true) ∧ Below w.heap.size w w' := by
  obtain ⟨a3, c3, rfl, -⟩ := id h3
  have hv := fun W (b : Below w.heap.size w W) => ge_valid e (.slice a1 n1 c1) (.slice a2 n2 c2) _ l2 ex g2 W (hm.below b) (h1.below b) (h2.below b) (h3.below b)
  have hL := fun W (b : Below w.heap.size w W) => ge_limit_range e (.slice a1 n1 c1) (.slice a2 n2 c2) _ l2 ex g2 n W (hm.below b) (h1.below b) (h2.below b) (h3.below b) hok hl
  rw [hok] at hv
  have HV := Lib.hid hv
  have HL := Lib.hid hL
  have q1 : decide (n < 1) = decide (n < 1) := rfl
  clear hv h1 h2 h3 hok hL q1
  rcases hl with hl | hl
  · have q1 : decide (n < 1) = true := by rw [decide_eq_true_eq]; omega
    clear hl
    go_enter Tryz.func7, Tryz.ntmps7
    go_wp2_with (first | (go_at_call 15; (with_reducible refine (aw38 _ (hm.below (by (repeat (first | exact Below.refl _ _ | assumption | (refine Below.drew ?_) | (refine Below.alloc ?_ (by first | (simp; done) | (simp; omega) | omega) _) | (refine Below.setCell ?_ (by first | (simp; done) | (simp; omega) | omega) _)))))).mono ?_); rintro _ w1 ⟨rfl, hb⟩; have R := row_below hb (row_new w _ _ _) (by simp [vals_size]); have B := below1 hb; clear hb) | (go_at_call 16; (with_reducible refine (few38 e _ _ _ _ _ _ _ _ _ _ _ _ _).mono ?_); rw [hf]; rintro _ w2 ⟨rfl, hb⟩; have R := row_below hb R (by simp [vals_size]); have B := bt B hb; clear hb) | (go_at_call 22; (with_reducible refine (HV.out _ B).mono ?_); rintro _ w3 ⟨rfl, hb⟩; have R := row_below hb R (by simp [vals_size]); have B := bt B hb; clear hb) | (go_at_call 26; (with_reducible refine (HL.out _ B).mono ?_); rintro _ w4 ⟨rfl, hb⟩; have B := bt B hb; clear hb))
    go_ret
    exact ⟨rfl, B⟩
  · have q1 : decide (n < 1) = false := by rw [decide_eq_false_iff_not]; omega
    have q2 : decide (63 < n) = true := by rw [decide_eq_true_eq]; omega
    clear hl
    go_enter Tryz.func7, Tryz.ntmps7
    go_wp2_with (first | (go_at_call 15; (with_reducible refine (aw38 _ (hm.below (by (repeat (first | exact Below.refl _ _ | assumption | (refine Below.drew ?_) | (refine Below.alloc ?_ (by first | (simp; done) | (simp; omega) | omega) _) | (refine Below.setCell ?_ (by first | (simp; done) | (simp; omega) | omega) _)))))).mono ?_); rintro _ w1 ⟨rfl, hb⟩; have R := row_below hb (row_new w _ _ _) (by simp [vals_size]); have B := below1 hb; clear hb) | (go_at_call 16; (with_reducible refine (few38 e _ _ _ _ _ _ _ _ _ _ _ _ _).mono ?_); rw [hf]; rintro _ w2 ⟨rfl, hb⟩; have R := row_below hb R (by simp [vals_size]); have B := bt B hb; clear hb) | (go_at_call 22; (with_reducible refine (HV.out _ B).mono ?_); rintro _ w3 ⟨rfl, hb⟩; have R := row_below hb R (by simp [vals_size]); have B := bt B hb; clear hb) | (go_at_call 26; (with_reducible refine (HL.out _ B).mono ?_); rintro _ w4 ⟨rfl, hb⟩; have B := bt B hb; clear hb))
    go_ret
    exact ⟨rfl, B⟩
theorem law_limits_good (e : En) (a1 a2 : Option Addr) (n1 c1 n2 c2 c3 b3 o3 : Nat) (l2 ex go st : List Int) (g2 : List Gr) (n : Int) (w : World) (hm : MaxL w) (h1 : IS w (.slice a1 n1 c1) l2) (h2 : GS w (.slice a2 n2 c2) g2) (h3 : IS w (.slice (some ⟨b3, o3, none⟩) ex.length c3) ex) (hcap : ex.length ≤ c3)
    (hf : (decide (e.name.size ≤ 60) && decide (n2 ≤ 12) && decide (n1 ≤ 8) && decide (ex.length ≤ 80) && decide (0 ≤ 20)) = true) (hok : okE e l2 g2 ex = true) (hl : 1 ≤ n) (hl2 : n ≤ 63) (hex : ex.length ≤ 80) (hk : go.length = ex.length - n.toNat) (hgo : ex.take go.length = go) (hst : ex.drop go.length = st) (h0 : 0 < ex.length) :
    Calls Tryz.prog 7 #[.agg (e.vals (.slice a1 n1 c1) (.slice a2 n2 c2)), .slice (some ⟨b3, o3, none⟩) ex.length c3, .int .u8 n] w fun r w' => r = .returned (.bool true) ∧ Below w.heap.size w w' := by
  have hv := fun W (b : Below w.heap.size w W) => ge_valid e (.slice a1 n1 c1) (.slice a2 n2 c2) _ l2 ex g2 W (hm.below b) (h1.below b) (h2.below b) (h3.below b)
  have hL := fun W (b : Below w.heap.size w W) => ge_limit_good e (.slice a1 n1 c1) (.slice a2 n2 c2) (some ⟨b3, o3, none⟩) c3 l2 ex g2 n W (hm.below b) (h1.below b) (h2.below b) (h3.below b) hcap hok hl hl2 go.length hk
  rw [hok] at hv
  rw [hgo] at hL
  have HV := Lib.hid hv
  have HL := Lib.hid hL
  have H3 := Lib.hid (fun W (b : Below w.heap.size w W) => h3.below b)
  have H4 := Lib.hid (fun W (b : Below w.heap.size w W) => (h3.below b).drop go.length)
  rw [hst] at H4
  have hall : decide (go ++ st = ex) = true := by rw [decide_eq_true_eq, ← hst]; conv => lhs; lhs; rw [← hgo]
                                                  exact List.take_append_drop _ _
  have HA := Lib.hid hall
  have hz : go.length + st.length ≤ 80 := by have := congrArg List.length (of_decide_eq_true hall); simp at this; omega
  have q1 : decide (n < 1) = false := by rw [decide_eq_false_iff_not]; omega
  have q2 : decide (63 < n) = false := by rw [decide_eq_false_iff_not]; omega
  have hcv : IntKind.i64.wrap n = n := IntWalk.i64_in _ ⟨by omega, by omega⟩
  have hm1 : min (go.length : Int) (ex.length : Int) = go.length := by omega
  have k0 : (go.length : Int) ≤ (ex.length : Int) := by omega
  have k1 : (go.length : Int) ≤ (c3 : Int) := by omega
  have k2 : ¬ c3 = go.length := by omega
  have hm2 : (((ex.length - go.length : Nat) : Int) == min (ex.length : Int) n) = true := by rw [beq_iff_eq]; omega
  clear hv h1 h2 h3 hok hL hk hgo hst hall
  go_enter Tryz.func7, Tryz.ntmps7
  go_wp2_with (first
    | (go_at_call 15; (with_reducible refine (aw38 _ (hm.below (by (repeat (first | exact Below.refl _ _ | assumption | (refine Below.drew ?_) | (refine Below.alloc ?_ (by first | (simp; done) | (simp; omega) | omega) _) | (refine Below.setCell ?_ (by first | (simp; done) | (simp; omega) | omega) _)))))).mono ?_); rintro _ w1 ⟨rfl, hb⟩; have R := row_below hb (row_new w _ _ _) (by simp [vals_size]); have B := below1 hb; clear hb)
    | (go_at_call 16; (with_reducible refine (few38 e _ _ _ _ _ _ _ _ _ _ _ _ _).mono ?_); rw [hf]; rintro _ w2 ⟨rfl, hb⟩; have R := row_below hb R (by simp [vals_size]); have B := bt B hb; clear hb)
    | (go_at_call 22; (with_reducible refine (HV.out _ B).mono ?_); rintro _ w3 ⟨rfl, hb⟩; have R := row_below hb R (by simp [vals_size]); have B := bt B hb; clear hb)
    | (go_at_call 26; (with_reducible refine (HL.out _ B).mono ?_); rintro _ w4 ⟨v1, rfl, ⟨i1, -⟩, hb⟩; have B := bt B hb; clear hb; obtain ⟨a5, c5, rfl, -⟩ := id i1)
    | (at_builtin; refine guard_off (by rfl) ?_; refine wp_appB _ rfl (.tmp 53) (.tmp 54) rfl (w4.heap.size) (.slice (some ⟨w4.heap.size, 0, none⟩) 0 0) _ [] go rfl (owns_empty rfl) rfl (i1.below ((Below.refl _ _).alloc (Nat.le_refl _) _)) (by simp; omega) (by simp) ?_; simp only [List.nil_append]; intro aC cC w8 hown8 b8; have b78 := below1' b8 (Nat.le_refl _); clear b8)
    | (at_builtin; refine guard_off (by rfl) ?_; refine wp_appB _ rfl (.tmp 55) (.tmp 56) rfl (w4.heap.size) (.slice aC go.length cC) _ go st rfl hown8 rfl (H4.out _ (bt B b78)) (by omega) b78.size ?_; intro aD cD w9 hown9 b9; have b79 := b78.trans b9; have k9 := owns_is hown9 (by rw [List.length_append]; omega); have B9 := bt B b79; clear b9)
    | (go_at_call 20; (with_reducible refine (rints _ _ (go ++ st) ex _ (by simpa using k9) (H3.out _ B9)).mono ?_); rw [HA.out]; rintro _ w10 ⟨rfl, b10⟩; have B10 := bt B9 b10; clear b10))
  go_ret
  exact ⟨rfl, B10⟩
theorem IS.zero (w : World) (a : Option Addr) (c : Nat) : IS w (.slice a 0 c) [] := ⟨a, c, rfl, by decide, fun h => by simp at h⟩
theorem law_limits_zero (e : En) (a1 a2 a3 : Option Addr) (n1 c1 n2 c2 c3 : Nat) (l2 : List Int) (g2 : List Gr) (n : Int) (w : World) (hm : MaxL w) (h1 : IS w (.slice a1 n1 c1) l2) (h2 : GS w (.slice a2 n2 c2) g2)
    (hf : (decide (e.name.size ≤ 60) && decide (n2 ≤ 12) && decide (n1 ≤ 8) && decide (0 ≤ 80) && decide (0 ≤ 20)) = true) (hok : okE e l2 g2 [] = true) (hl : 1 ≤ n) (hl2 : n ≤ 63) :
    Calls Tryz.prog 7 #[.agg (e.vals (.slice a1 n1 c1) (.slice a2 n2 c2)), .slice a3 0 c3, .int .u8 n] w fun r w' => r = .returned (.bool true) ∧ Below w.heap.size w w' := by
  have hv := fun W (b : Below w.heap.size w W) => ge_valid e (.slice a1 n1 c1) (.slice a2 n2 c2) (.slice a3 0 c3) l2 [] g2 W (hm.below b) (h1.below b) (h2.below b) (IS.zero W a3 c3)
  have hL := fun W (b : Below w.heap.size w W) => ge_limit_good e (.slice a1 n1 c1) (.slice a2 n2 c2) a3 c3 l2 [] g2 n W (hm.below b) (h1.below b) (h2.below b) (IS.zero W a3 c3) (Nat.zero_le _) hok hl hl2 0 (by simp)
  rw [hok] at hv
  simp only [List.take_nil, List.length_nil] at hL
  have HV := Lib.hid hv
  have HL := Lib.hid hL
  have q1 : decide (n < 1) = false := by rw [decide_eq_false_iff_not]; omega
  have q2 : decide (63 < n) = false := by rw [decide_eq_false_iff_not]; omega
  have hcv : IntKind.i64.wrap n = n := IntWalk.i64_in _ ⟨by omega, by omega⟩
  have hm2 : min 0 n = 0 := by omega
  clear hv h1 h2 hok hL
  rcases a3 with _ | ad
  all_goals
    go_enter Tryz.func7, Tryz.ntmps7
    go_wp2_with (first
      | (go_at_call 15; (with_reducible refine (aw38 _ (hm.below (by (repeat (first | exact Below.refl _ _ | assumption | (refine Below.drew ?_) | (refine Below.alloc ?_ (by first | (simp; done) | (simp; omega) | omega) _) | (refine Below.setCell ?_ (by first | (simp; done) | (simp; omega) | omega) _)))))).mono ?_); rintro _ w1 ⟨rfl, hb⟩; have R := row_below hb (row_new w _ _ _) (by simp [vals_size]); have B := below1 hb; clear hb)
      | (go_at_call 16; (with_reducible refine (few38 e _ _ _ _ _ _ _ _ _ _ _ _ _).mono ?_); rw [hf]; rintro _ w2 ⟨rfl, hb⟩; have R := row_below hb R (by simp [vals_size]); have B := bt B hb; clear hb)
      | (go_at_call 22; (with_reducible refine (HV.out _ B).mono ?_); rintro _ w3 ⟨rfl, hb⟩; have R := row_below hb R (by simp [vals_size]); have B := bt B hb; clear hb)
      | (go_at_call 26; (with_reducible refine (HL.out _ B).mono ?_); rintro _ w4 ⟨v1, rfl, ⟨i1, -⟩, hb⟩; have B := bt B hb; clear hb; obtain ⟨a5, c5, rfl, -⟩ := id i1)
      | (at_builtin; refine guard_off (by rfl) ?_; refine wp_appB _ rfl (.tmp 53) (.tmp 54) rfl (w4.heap.size) (.slice (some ⟨w4.heap.size, 0, none⟩) 0 0) _ [] [] rfl (owns_empty rfl) rfl (i1.below ((Below.refl _ _).alloc (Nat.le_refl _) _)) (by simp) (by simp) ?_; simp only [List.nil_append]; intro aC cC w8 hown8 b8; have b78 := below1' b8 (Nat.le_refl _); clear b8)
      | (at_builtin; refine guard_off (by rfl) ?_; refine wp_appB _ rfl (.tmp 55) (.tmp 56) rfl (w4.heap.size) (.slice aC 0 cC) _ [] [] rfl hown8 rfl (IS.zero _ _ _) (by simp) b78.size ?_; intro aD cD w9 hown9 b9; have b79 := b78.trans b9; have k9 := owns_is hown9 (by simp); have B9 := bt B b79; clear b9)
      | (go_at_call 20; (with_reducible refine (rints _ _ [] [] _ (by simpa using k9) (IS.zero _ _ _)).mono ?_); rintro _ w10 ⟨rfl, b10⟩; have B10 := bt B9 b10; clear b10))
    go_ret
    exact ⟨rfl, B10⟩
theorem law_limits_any (e : En) (a1 a2 a3 : Option Addr) (n1 c1 n2 c2 n3 c3 : Nat) (n : Int) (w : World) (hm : MaxL w) (hn : 0 ≤ n ∧ n ≤ 255) (o1 : n1 ≤ 1000 → ∃ l : List Int, l.length = n1 ∧ IS w (.slice a1 n1 c1) l) (o2 : n2 ≤ 1000 → ∃ l : List Gr, l.length = n2 ∧ GS w (.slice a2 n2 c2) l) (hc : n3 ≤ c3) (o3 : n3 ≤ 1000 → ∃ l : List Int, l.length = n3 ∧ IS w (.slice a3 n3 c3) l) :
    Calls Tryz.prog 7 #[.agg (e.vals (.slice a1 n1 c1) (.slice a2 n2 c2)), .slice a3 n3 c3, .int .u8 n] w fun r w' => r = .returned (.bool true) ∧ Below w.heap.size w w' := by
  cases hf : (decide (e.name.size ≤ 60) && decide (n2 ≤ 12) && decide (n1 ≤ 8) && decide (n3 ≤ 80) && decide (0 ≤ 20))
  · exact law_limits_few e a1 a2 a3 n1 c1 n2 c2 n3 c3 n w hm hf
  · have hf' := hf
    simp only [Bool.and_eq_true, decide_eq_true_eq] at hf'
    obtain ⟨l2, rfl, h1⟩ := o1 (by omega)
    obtain ⟨g2, rfl, h2⟩ := o2 (by omega)
    obtain ⟨ex, rfl, h3⟩ := o3 (by omega)
    cases hok : okE e l2 g2 ex
    · exact law_limits_not e a1 a2 _ c1 _ c2 _ l2 ex g2 n w hm h1 h2 h3 hf hok
    · by_cases hl : n < 1 ∨ 63 < n
      · exact law_limits_range e a1 a2 _ c1 _ c2 _ l2 ex g2 n w hm h1 h2 h3 hf hok hn hl
      · by_cases h0 : 0 < ex.length
        · obtain ⟨b, o, rfl, -⟩ := IS.at h3 h0
          have hlen : (ex.take (ex.length - n.toNat)).length = ex.length - n.toNat := by rw [List.length_take]; omega
          exact law_limits_good e a1 a2 _ c1 _ c2 c3 b o l2 ex (ex.take (ex.length - n.toNat)) _ g2 n w hm h1 h2 h3 hc hf hok (by omega) (by omega) (by omega) hlen (by rw [hlen]) rfl h0
        · obtain rfl : ex = [] := List.eq_nil_of_length_eq_zero (by omega)
          exact law_limits_zero e a1 a2 a3 _ c1 _ c2 c3 l2 g2 n w hm h1 h2 hf hok (by omega) (by omega)
end Go.Proofs.YtbkbgkicpfbjfaaGreatDoor

end
section
/- The statement GenerationLimits: the walk, the frame of the row, the card. Conditions: none beyond the statement. -/
namespace Go.Proofs.YtbkbgkicpfbjfaaGreatDoor.generationLimits
open Go.ChangeShapes Go.WideShapes Go.ChangeAt Go.RowKit Go.Proofs.YtbkbgkicpfbjfaaGreatDoor
open Go.ChangeMaps (open_string)

set_option maxRecDepth 100000 in
theorem contract (H : Type) (enc : TypeId × Value → H) (W : World) (base : Nat) (args : Array Value) (ds gs : List (DataW H)) (before : List MemPlace)
    (hval : ∀ (j : Nat) t v, Tryz.f7.params[j]? = some t → args[j]? = some v → Value.okWide Tryz.prog W .any base t v)
    (hW : DataW.Whole enc Tryz.prog Tryz.f7.params.toList Rows.generationLimitsSpec.vars false W args.toList ds gs before) (_hL : laidMetH Tryz.prog Rows.generationLimitsRow.laid W) (hS : W.ShapedOpen Tryz.prog) :
    Calls Tryz.prog 7 args W fun e W' => ∃ v, e = .returned v ∧ Rows.generationLimitsSpec.post enc Tryz.prog Tryz.f7 false true false false W args v W' := by
  have hW' := hW
  have hlt : ∀ x ∈ before, x.block < W.heap.size := fun x hx => by simpa using hW'.lt x hx
  obtain ⟨p, q, hA0, hV, rfl, hfz, hnd⟩ := hW
  have hA : DataW.TrodAll enc Tryz.prog W 0 (fun _ => true) true Tryz.f7.params.toList args.toList ds p := hA0
  have hK := hA
  rw [Tryz.params7] at hA hval
  obtain ⟨v0, vs0, d0, ds0, p0, q0, hargs, rfl, rfl, h0, r0⟩ := trodAll_cons hA
  obtain ⟨v1, vs1, d1, ds1, p1, q1, rfl, rfl, rfl, h1, r1⟩ := trodAll_cons r0
  obtain ⟨v2, vs2, d2, ds2, p2, q2, rfl, rfl, rfl, h2, r2⟩ := trodAll_cons r1
  obtain ⟨rfl, rfl, rfl⟩ := trodAll_nil r2
  obtain rfl : args = #[v0, v1, v2] := by cases args; simp_all
  obtain ⟨rfl, rfl⟩ := trodVars_none hV
  obtain ⟨e0, a0, n0, c0, x0, m0, k0, rfl, o0, u0⟩ := open_en (hval 0 27 v0 rfl rfl) h0
  obtain ⟨a1, n1, c1, rfl, l1, o1⟩ := open_islice_c (hval 1 24 v1 rfl rfl) h1
  obtain ⟨n2, rfl⟩ := okWide_int Tryz.underlying5 (hval 2 5 v2 rfl rfl)
  have b2 := int_bounds Tryz.underlying5 (hval 2 5 _ rfl rfl)
  refine (law_limits_any e0 a0 x0 a1 n0 c0 m0 k0 n1 c1 n2 W (max_of hS) b2 o0 u0 l1 o1).mono fun e W' ⟨he, hb⟩ => ?_
  subst he
  exact ⟨_, rfl, _, _, _, [], _, [], hW', trodAll_cons_mk (shut_bool Tryz.underlying4 _) trodAll_mk0, args_below hb (by rw [Tryz.params7]; kernel_rfl) hK (fun x hx => hlt x (by simpa using hx)), rfl, hb.frame _, fun h => by cases h⟩

def zEnt : Value := .agg #[.int .i64 0, .string ⟨#[]⟩, .int .i64 0, .int .i64 0, .int .i64 0, .int .i64 0, .int .i64 0, .int .i64 0, .int .i64 0, .int .i64 0, .int .i64 0, .int .i64 0, .int .i64 0, .int .i64 0, .int .i64 0, .int .i64 0, .bool false, .int .i64 0, .string ⟨#[]⟩, .string ⟨#[]⟩, .int .i64 0, .int .i64 0, .bool false, .slice none 0 0, .int .i64 0, .int .i64 0, .int .i64 0, .bool false, .string ⟨#[]⟩, .string ⟨#[]⟩, .int .i64 0, .int .i64 0, .slice none 0 0]
def dEnt {H : Type} : DataW H := .agg [.lit (.int .i64 0), .lit (.string []), .agg [.lit (.int .i64 0), .lit (.int .i64 0), .lit (.int .i64 0), .lit (.int .i64 0), .lit (.int .i64 0), .lit (.int .i64 0), .lit (.int .i64 0), .lit (.int .i64 0), .lit (.int .i64 0), .lit (.int .i64 0), .lit (.int .i64 0), .lit (.int .i64 0), .lit (.int .i64 0), .lit (.int .i64 0), .lit (.bool false), .lit (.int .i64 0), .lit (.string []), .lit (.string []), .lit (.int .i64 0), .lit (.int .i64 0), .lit (.bool false)], .nil, .lit (.int .i64 0), .lit (.int .i64 0), .lit (.int .i64 0), .lit (.bool false), .lit (.string []), .lit (.string []), .lit (.int .i64 0), .lit (.int .i64 0), .nil]

theorem laid_met (os : Os) : laidMetH Tryz.prog Rows.generationLimitsRow.laid ((World.laidAll Tryz.prog os Rows.generationLimitsRow.laid).forCall (fun _ _ => 0) ⟨#[], #[(zEnt : Value), (.slice none 0 0 : Value), (.int .u8 0 : Value)], []⟩).memory := by
  rw [MakeChecks.laidMetH_plain _ _ _ (by kernel_rfl)]; exact laidMet_laidAll _ (by kernel_rfl) (by kernel_rfl)
theorem reads (os : Os) {H : Type} (enc : TypeId × Value → H) : ∃ places, DataW.whole enc Tryz.prog ((World.laidAll Tryz.prog os Rows.generationLimitsRow.laid).forCall (fun _ _ => 0) ⟨#[], #[(zEnt : Value), (.slice none 0 0 : Value), (.int .u8 0 : Value)], []⟩).memory Tryz.f7.params.toList Rows.generationLimitsSpec.vars false #[(zEnt : Value), (.slice none 0 0 : Value), (.int .u8 0 : Value)].toList 8 = some ([dEnt, .nil, .lit (.int .u8 0)], [], places) :=
  ⟨[], by kernel_rfl⟩

set_option maxRecDepth 100000 in
theorem lifted (os : Os) (started : os.Started) (H : Type) (enc : TypeId × Value → H) (F : Stop.Interp) :
    ReturnsInHanded {} Tryz.checked os 7 .any ((OpenSpec.ofChange Rows.generationLimitsSpec).preRow enc Tryz.prog Tryz.f7 Rows.generationLimitsRow.domain false Rows.generationLimitsRow.laid) (((OpenSpec.ofChange Rows.generationLimitsSpec).at F).post enc Tryz.prog Tryz.f7 false true false false) := by
  obtain ⟨places, hx⟩ := reads os enc
  refine returnsInHanded_of_row (C := Tryz.checked) (s := OpenSpec.ofChange Rows.generationLimitsSpec) ownk started (by kernel_rfl) Tryz.func7
    (witness_lay (enc := enc) (C := Tryz.checked) false #[(zEnt : Value), (.slice none 0 0 : Value), (.int .u8 0 : Value)] (World.shaped_of_ZipB (by kernel_rfl) (by kernel_rfl)) (by kernel_rfl)
      (OpenSpec.preRow_of_cond 8 hx (by kernel_rfl) (fun k hk => by cases hk) (by kernel_rfl) (laid_met os))) ?_
  intro W base args ds gs before hval hW _ _ _ hL hS _
  exact contract H enc W base args ds gs before hval hW hL hS

theorem said : Rows.GenerationLimitsSaid :=
  OpenClaim.holds_of_cond 7 Tryz.f7 rfl rfl rfl rfl rfl rfl rfl ⟨rfl, rfl, rfl, rfl, rfl⟩ rfl rfl rfl rfl rfl (by kernel_rfl) Tryz.func7 (by kernel_rfl)
    (of_decide_eq_true (by kernel_rfl)) (by unfold Func.isWrapper; first | (rw [if_pos (by decide +kernel)]; kernel_rfl) | (rw [if_neg (by decide +kernel)]; exact ⟨rfl, rfl⟩))
    (fun os started H enc _ F => by rw [OpenClaim.pre_eq_preRow]; exact lifted os started H enc F)

theorem plain (f : FuncId) (fn : Func) (hf : Tryz.pinned.checked.prog.funcNamed Rows.generationLimitsRow.func = some f) (hfn : Tryz.pinned.checked.prog.funcs[f]? = some fn) :
    false = Tryz.pinned.checked.prog.looks [] ∧ ∀ (j : Nat) t, fn.params[j]? = some t → Tryz.pinned.checked.prog.wantsStandIn t = false := by
  obtain rfl : f = 7 := Option.some.inj ((show Tryz.prog.funcNamed Rows.generationLimitsRow.func = some 7 by kernel_rfl).symm.trans hf) |>.symm
  obtain rfl : fn = Tryz.f7 := (Option.some.inj (Tryz.func7.symm.trans hfn)).symm
  refine ⟨by kernel_rfl, fun j t ht => ?_⟩
  rw [Tryz.params7] at ht
  have hm := Array.mem_of_getElem? ht
  have ha : (#[27, 24, 5] : Array TypeId).all (fun t => !Tryz.prog.wantsStandIn t) = true := by kernel_rfl
  have := (Array.all_eq_true_iff_forall_mem.1 ha) t hm
  exact (show Tryz.prog.wantsStandIn t = false by simpa using this)

/-- THE CARD -/
theorem card : Rows.GenerationLimitsCardSaid :=
  Claim7.holds_tied_plain_at .later [] _ _ _ _ said (fun _ h => by cases h) (by kernel_rfl) (fun _ h => by cases h) generationLimits_row_tie rfl ⟨rfl, rfl⟩ (by kernel_rfl) rfl plain (by kernel_rfl)
end Go.Proofs.YtbkbgkicpfbjfaaGreatDoor.generationLimits

end
