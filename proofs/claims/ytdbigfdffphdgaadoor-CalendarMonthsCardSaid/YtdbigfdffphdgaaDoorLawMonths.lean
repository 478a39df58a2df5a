/- The walk of the law CalendarMonths. -/
import Derived.Test.YtdbigfdffphdgaaDoorCalM
namespace Go.Proofs.YtdbigfdffphdgaaDoor
open Go.RowKit
set_option maxHeartbeats 400000
theorem law_months (n k : Int) (w : World) (hT : Tab w) :
    Calls Tryd.prog 5 #[.int .i64 n, .int .i64 k] w fun e w' => e = .returned (.bool true) ∧ Below w.heap.size w w' := by
  have B := Below.refl w.heap.size w
  go_enter Tryd.func5, Tryd.ntmps5
  go_wp2_with (first | (go_at_call 10; (with_reducible refine (awake _ hT).mono ?_); rintro e w1 ⟨rfl, hb⟩; have hT := Tab.below hT hb; have B := Below.trans B (hb.mono B.size); clear hb) | (go_at_call 21; (with_reducible refine (add_any _ _ _).mono ?_); rintro e w1 ⟨rfl, hb⟩; have hT := Tab.below hT hb; have B := Below.trans B (hb.mono B.size); clear hb) | (go_at_call 22; (with_reducible refine (refadd_any _ _ _).mono ?_); rintro e w1 ⟨rfl, hb⟩; have hT := Tab.below hT hb; have B := Below.trans B (hb.mono B.size); clear hb))
  go_ret
  exact ⟨rfl, B⟩
end Go.Proofs.YtdbigfdffphdgaaDoor
