/- Contracts of the calendar's leaves: leap, first, isDay, lengths and their twins of the reference. -/
import Derived.Test.YtfmjeppajpiekaaGreatDoorChecked
import Derived.Test.YtfmjeppajpiekaaGreatDoorCal
import Derived.Test.YtfmjeppajpiekaaGreatDoorKit
namespace Go.Proofs.YtfmjeppajpiekaaGreatDoor
open Go.RowKit
set_option maxHeartbeats 400000

theorem calleap (y : Int) (w : World) (h0 : 0 ≤ y) (h1 : y ≤ 100000) :
    Calls Tryz.prog 258 #[.int .i64 y] w fun e w' => e = .returned (.bool (Cal.leap y)) ∧ w = w' := by
  go_enter Tryz.func258, Tryz.ntmps258
  go_wp2
  all_goals (go_ret; exact ⟨ret_bool (by simp [Cal.leap, *]), rfl⟩)

theorem refleap (y : Int) (w : World) (h0 : 0 ≤ y) (h1 : y ≤ 100000) :
    Calls Tryz.prog 283 #[.int .i64 y] w fun e w' => e = .returned (.bool (Cal.leap y)) ∧ w = w' := by
  go_enter Tryz.func283, Tryz.ntmps283
  go_wp2
  all_goals (go_ret; exact ⟨ret_bool (by simp [Cal.leap, *]), rfl⟩)

theorem isDay (y : Int) (w : World) :
    Calls Tryz.prog 170 #[.int .i64 y] w fun e w' => e = .returned (.bool (Cal.isDay y)) ∧ w = w' := by
  go_enter Tryz.func170, Tryz.ntmps170
  go_wp2
  all_goals (go_ret; exact ⟨ret_bool (by simp [Cal.isDay]; try omega), rfl⟩)

theorem refIsDay (y : Int) (w : World) :
    Calls Tryz.prog 66 #[.int .i64 y] w fun e w' => e = .returned (.bool (Cal.isDay y)) ∧ w = w' := by
  go_enter Tryz.func66, Tryz.ntmps66
  go_wp2
  all_goals (go_ret; exact ⟨ret_bool (by simp [Cal.isDay]; try omega), rfl⟩)

theorem first (y : Int) (w : World) (h0 : 2000 ≤ y) (h1 : y ≤ 100000) :
    Calls Tryz.prog 229 #[.int .i64 y] w fun e w' => e = .returned (.int .i64 (Cal.first y)) ∧ w = w' := by
  go_enter Tryz.func229, Tryz.ntmps229
  go_wp2
  go_ret
  exact ⟨ret_int (by simp only [Cal.first]), rfl⟩

theorem days (y m : Int) (w : World) (h0 : 0 ≤ y) (h1 : y ≤ 100000) :
    Calls Tryz.prog 275 #[.int .i64 y, .int .i64 m] w fun e w' => e = .returned (.int .i64 (Cal.days y m)) ∧ w = w' := by
  have k2 : (Cal.leap y = true ∧ Cal.lp y = 1) ∨ (Cal.leap y = false ∧ Cal.lp y = 0) := by unfold Cal.lp; cases Cal.leap y <;> simp
  rcases k2 with ⟨k, k2⟩ | ⟨k, k2⟩
  all_goals
    have K := Lib.hid k2
    clear k2
    go_enter Tryz.func275, Tryz.ntmps275
    go_wp2_with (go_at_call 283; refine (refleap _ _ h0 h1).mono ?_; rintro e w' ⟨rfl, rfl⟩)
    all_goals (go_ret; exact ⟨ret_int (by first | (simp [Cal.days, K.out, *]; done) | (have := K.out; simp_all [Cal.days]; done)), rfl⟩)

theorem lengths (y : Int) (w : World) (h0 : 0 ≤ y) (h1 : y ≤ 100000) :
    Calls Tryz.prog 230 #[.int .i64 y] w fun e w' => e = .returned (.agg #[.int .i64 31, .int .i64 (28 + Cal.lp y), .int .i64 31, .int .i64 30, .int .i64 31, .int .i64 30, .int .i64 31, .int .i64 31, .int .i64 30, .int .i64 31, .int .i64 30, .int .i64 31]) ∧ Below w.heap.size w w' := by
  go_enter Tryz.func230, Tryz.ntmps230
  go_wp2_with (go_at_call 258; refine (calleap _ _ h0 h1).mono ?_; rintro e w' ⟨rfl, rfl⟩)
  all_goals
    refine bodyPost_ret (v := .agg #[.int .i64 31, .int .i64 (28 + Cal.lp y), .int .i64 31, .int .i64 30, .int .i64 31, .int .i64 30, .int .i64 31, .int .i64 31, .int .i64 30, .int .i64 31, .int .i64 30, .int .i64 31]) (by simp [results, Tryz.results230, go_sem, Cal.lp, *]) rfl ⟨rfl, ?_⟩
    (repeat (first | exact Below.refl _ _ | assumption | (refine Below.drew ?_) | (refine Below.alloc ?_ (by simp) _) | (refine Below.setCell ?_ (by simp) _)))
end Go.Proofs.YtfmjeppajpiekaaGreatDoor
