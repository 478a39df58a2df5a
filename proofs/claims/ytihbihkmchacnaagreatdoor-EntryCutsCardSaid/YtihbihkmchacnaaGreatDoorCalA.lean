/- Contracts of the calendar's leaves: leap, first, isDay, lengths and their twins of the reference. -/
import Derived.Test.YtihbihkmchacnaaGreatDoorChecked
import Derived.Test.YtihbihkmchacnaaGreatDoorCal
import Derived.Test.YtihbihkmchacnaaGreatDoorKit
namespace Go.Proofs.YtihbihkmchacnaaGreatDoor
open Go.RowKit
set_option maxHeartbeats 400000

theorem calleap (y : Int) (w : World) (h0 : 0 ≤ y) (h1 : y ≤ 100000) :
    Calls Tryz.prog 238 #[.int .i64 y] w fun e w' => e = .returned (.bool (Cal.leap y)) ∧ w = w' := by
  go_enter Tryz.func238, Tryz.ntmps238
  go_wp2
  all_goals (go_ret; exact ⟨ret_bool (by simp [Cal.leap, *]), rfl⟩)

theorem refleap (y : Int) (w : World) (h0 : 0 ≤ y) (h1 : y ≤ 100000) :
    Calls Tryz.prog 260 #[.int .i64 y] w fun e w' => e = .returned (.bool (Cal.leap y)) ∧ w = w' := by
  go_enter Tryz.func260, Tryz.ntmps260
  go_wp2
  all_goals (go_ret; exact ⟨ret_bool (by simp [Cal.leap, *]), rfl⟩)

theorem isDay (y : Int) (w : World) :
    Calls Tryz.prog 153 #[.int .i64 y] w fun e w' => e = .returned (.bool (Cal.isDay y)) ∧ w = w' := by
  go_enter Tryz.func153, Tryz.ntmps153
  go_wp2
  all_goals (go_ret; exact ⟨ret_bool (by simp [Cal.isDay]; try omega), rfl⟩)

theorem refIsDay (y : Int) (w : World) :
    Calls Tryz.prog 55 #[.int .i64 y] w fun e w' => e = .returned (.bool (Cal.isDay y)) ∧ w = w' := by
  go_enter Tryz.func55, Tryz.ntmps55
  go_wp2
  all_goals (go_ret; exact ⟨ret_bool (by simp [Cal.isDay]; try omega), rfl⟩)

theorem first (y : Int) (w : World) (h0 : 2000 ≤ y) (h1 : y ≤ 100000) :
    Calls Tryz.prog 207 #[.int .i64 y] w fun e w' => e = .returned (.int .i64 (Cal.first y)) ∧ w = w' := by
  go_enter Tryz.func207, Tryz.ntmps207
  go_wp2
  go_ret
  exact ⟨ret_int (by simp only [Cal.first]), rfl⟩

theorem days (y m : Int) (w : World) (h0 : 0 ≤ y) (h1 : y ≤ 100000) :
    Calls Tryz.prog 253 #[.int .i64 y, .int .i64 m] w fun e w' => e = .returned (.int .i64 (Cal.days y m)) ∧ w = w' := by
  have k2 : (Cal.leap y = true ∧ Cal.lp y = 1) ∨ (Cal.leap y = false ∧ Cal.lp y = 0) := by unfold Cal.lp; cases Cal.leap y <;> simp
  rcases k2 with ⟨k, k2⟩ | ⟨k, k2⟩
  all_goals
    have K := Lib.hid k2
    clear k2
    go_enter Tryz.func253, Tryz.ntmps253
    go_wp2_with (go_at_call 260; refine (refleap _ _ h0 h1).mono ?_; rintro e w' ⟨rfl, rfl⟩)
    all_goals (go_ret; exact ⟨ret_int (by first | (simp [Cal.days, K.out, *]; done) | (have := K.out; simp_all [Cal.days]; done)), rfl⟩)

theorem lengths (y : Int) (w : World) (h0 : 0 ≤ y) (h1 : y ≤ 100000) :
    Calls Tryz.prog 208 #[.int .i64 y] w fun e w' => e = .returned (.agg #[.int .i64 31, .int .i64 (28 + Cal.lp y), .int .i64 31, .int .i64 30, .int .i64 31, .int .i64 30, .int .i64 31, .int .i64 31, .int .i64 30, .int .i64 31, .int .i64 30, .int .i64 31]) ∧ Below w.heap.size w w' := by
  go_enter Tryz.func208, Tryz.ntmps208
  go_wp2_with (go_at_call 238; refine (calleap _ _ h0 h1).mono ?_; rintro e w' ⟨rfl, rfl⟩)
  all_goals
    refine bodyPost_ret (v := .agg #[.int .i64 31, .int .i64 (28 + Cal.lp y), .int .i64 31, .int .i64 30, .int .i64 31, .int .i64 30, .int .i64 31, .int .i64 31, .int .i64 30, .int .i64 31, .int .i64 30, .int .i64 31]) (by simp [results, Tryz.results208, go_sem, Cal.lp, *]) rfl ⟨rfl, ?_⟩
    (repeat (first | exact Below.refl _ _ | assumption | (refine Below.drew ?_) | (refine Below.alloc ?_ (by simp) _) | (refine Below.setCell ?_ (by simp) _)))
end Go.Proofs.YtihbihkmchacnaaGreatDoor
