/- The walk of the law CalendarBack. -/
import Derived.Test.YtdbigfdffphdgaaDoorCalM
import Derived.Test.YtdbigfdffphdgaaDoorCalR
namespace Go.Proofs.YtdbigfdffphdgaaDoor
open Go.RowKit
set_option maxHeartbeats 800000
theorem law_back (n k : Int) (hk : -32768 ≤ k ∧ k ≤ 32767) (w : World) (hT : Tab w) :
    Calls Tryd.prog 6 #[.int .i64 n, .int .i16 k] w fun e w' => e = .returned (.bool true) ∧ Below w.heap.size w w' := by
  have B := Below.refl w.heap.size w
  by_cases h : Cal.addE n k = 0
  · obtain ⟨-, c2, c3, -⟩ := Cal.addE_ok n k h
    obtain ⟨hN, e1, l1, l2, e2, e3, e4, e5⟩ := Cal.back n k h
    have hn := (Cal.addE_ok n k h).1
    have yr := Cal.dY_range n hn
    have yr' := Cal.dY_range _ hN
    obtain ⟨⟨m1, m2, d1, d2⟩, -⟩ := Cal.date_vld n hn
    obtain ⟨⟨m1', m2', d1', d2'⟩, -⟩ := Cal.date_vld _ hN
    have h' : (Cal.addE n k != 0) = false := by simp [h]
    have e2' : (Cal.addE (Cal.addN n k) (-k) == 0) = true := by simp [e2]
    have e1' : (12 * Cal.dY (Cal.addN n k) + Cal.dM (Cal.addN n k) - 12 * Cal.dY n - Cal.dM n == k) = true := by simpa using e1
    have e3' : (Cal.dY (Cal.addN (Cal.addN n k) (-k)) == Cal.dY n) = true := by simpa using e3
    have e4' : (Cal.dM (Cal.addN (Cal.addN n k) (-k)) == Cal.dM n) = true := by simpa using e4
    have e5' : (Cal.dD (Cal.addN (Cal.addN n k) (-k)) == Cal.dD (Cal.addN n k)) = true := by simpa using e5
    have l2' : (Cal.dD (Cal.addN n k) == Cal.dD n) = true ∨ (Cal.dD (Cal.addN n k) == Cal.dD n) = false ∧ 28 ≤ Cal.dD (Cal.addN n k) := by
      rcases l2 with a | a
      · left; simpa using a
      · by_cases b : Cal.dD (Cal.addN n k) = Cal.dD n
        · left; simpa using b
        · right; exact ⟨by simpa using b, a⟩
    clear h e1 l2 e2 e3 e4 e5 hN hn
    rcases l2' with l2 | ⟨l2, l3⟩
    all_goals
      go_enter Tryd.func6, Tryd.ntmps6
      go_wp2_with (first | (go_at_call 10; (with_reducible refine (awake _ hT).mono ?_); rintro e w1 ⟨rfl, hb⟩; have hT := Tab.below hT hb; have B := Below.trans B (hb.mono B.size); clear hb) | (go_at_call 21; (with_reducible refine (add_any _ _ _).mono ?_); rintro e w1 ⟨rfl, hb⟩; have hT := Tab.below hT hb; have B := Below.trans B (hb.mono B.size); clear hb) | (go_at_call 11; (with_reducible refine (date_any _ _).mono ?_); rintro e w1 ⟨rfl, hb⟩; have hT := Tab.below hT hb; have B := Below.trans B (hb.mono B.size); clear hb))
      go_ret
      exact ⟨rfl, B⟩
  · have z := Cal.addN_zero n k h
    have h' : (Cal.addE n k != 0) = true := by simp [h]
    clear h
    go_enter Tryd.func6, Tryd.ntmps6
    go_wp2_with (first | (go_at_call 10; (with_reducible refine (awake _ hT).mono ?_); rintro e w1 ⟨rfl, hb⟩; have hT := Tab.below hT hb; have B := Below.trans B (hb.mono B.size); clear hb) | (go_at_call 21; (with_reducible refine (add_any _ _ _).mono ?_); rintro e w1 ⟨rfl, hb⟩; have hT := Tab.below hT hb; have B := Below.trans B (hb.mono B.size); clear hb))
    go_ret
    exact ⟨rfl, B⟩
end Go.Proofs.YtdbigfdffphdgaaDoor
