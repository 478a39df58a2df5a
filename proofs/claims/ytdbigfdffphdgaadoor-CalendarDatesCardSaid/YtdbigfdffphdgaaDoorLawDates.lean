/- The walks of the laws CalendarDates and CalendarDecides. -/
import Derived.Test.YtdbigfdffphdgaaDoorCalM
namespace Go.Proofs.YtdbigfdffphdgaaDoor
open Go.RowKit
set_option maxHeartbeats 800000
attribute [local go_sem ↓] ldPol ldEnt stEnt
attribute [local go_sem] isHead_mk headOf_mk cellsOfV_mk isAggV_mk row_new row_new2 row_new2' row_drew row_drewN allOne_nil allOne_cons one_int one_bool one_string one_pointer one_slice
theorem law_dates (day year month of_ : Int) (s : ByteArray) (hs : s.size ≤ 9223372036854775807) (w : World) (hT : Tab w) :
    Calls Tryd.prog 3 #[.int .i64 day, .int .i64 year, .int .i64 month, .int .i64 of_, .string s] w fun e w' => e = .returned (.bool true) ∧ Below w.heap.size w w' := by
  have B := Below.refl w.heap.size w
  by_cases h : s.size ≤ 20
  · go_enter Tryd.func3, Tryd.ntmps3
    go_wp2_with (first | (go_at_call 10; (with_reducible refine (awake _ hT).mono ?_); rintro e w1 ⟨rfl, hb⟩; have hT := Tab.below hT hb; have B := Below.trans B (hb.mono B.size); clear hb) | (go_at_call 11; (with_reducible refine (date_any _ _).mono ?_); rintro e w1 ⟨rfl, hb⟩; have hT := Tab.below hT hb; have B := Below.trans B (hb.mono B.size); clear hb) | (go_at_call 12; (with_reducible refine (refdate_any _ _).mono ?_); rintro e w1 ⟨rfl, hb⟩; have hT := Tab.below hT hb; have B := Below.trans B (hb.mono B.size); clear hb) | (go_at_call 13; (with_reducible refine (day_any _ _ _ _).mono ?_); rintro e w1 ⟨rfl, hb⟩; have hT := Tab.below hT hb; have B := Below.trans B (hb.mono B.size); clear hb) | (go_at_call 14; (with_reducible refine (refday_any _ _ _ _).mono ?_); rintro e w' ⟨rfl, rfl⟩) | (go_at_call 15; (with_reducible refine (parse_any _ _).mono ?_); rintro e w1 ⟨rfl, hb⟩; have hT := Tab.below hT hb; have B := Below.trans B (hb.mono B.size); clear hb) | (go_at_call 16; (with_reducible refine (refparse_any _ _).mono ?_); rintro e w1 ⟨rfl, hb⟩; have hT := Tab.below hT hb; have B := Below.trans B (hb.mono B.size); clear hb) | (go_at_call 17; (with_reducible refine (format_any _ _ hT).mono ?_); rintro e w1 ⟨rfl, hb⟩; have hT := Tab.below hT hb; have B := Below.trans B (hb.mono B.size); clear hb) | (go_at_call 18; (with_reducible refine (refformat_any _ _).mono ?_); rintro e w1 ⟨rfl, hb⟩; have hT := Tab.below hT hb; have B := Below.trans B (hb.mono B.size); clear hb) | (go_at_call 19; (with_reducible refine (weekday _ _).mono ?_); rintro e w' ⟨rfl, rfl⟩) | (go_at_call 20; (with_reducible refine (refweekday _ _).mono ?_); rintro e w' ⟨rfl, rfl⟩))
    go_ret
    exact ⟨rfl, B⟩
  · go_enter Tryd.func3, Tryd.ntmps3
    go_wp2_with (first | (go_at_call 10; (with_reducible refine (awake _ hT).mono ?_); rintro e w1 ⟨rfl, hb⟩; have hT := Tab.below hT hb; have B := Below.trans B (hb.mono B.size); clear hb))
    go_ret
    exact ⟨rfl, B⟩
end Go.Proofs.YtdbigfdffphdgaaDoor
