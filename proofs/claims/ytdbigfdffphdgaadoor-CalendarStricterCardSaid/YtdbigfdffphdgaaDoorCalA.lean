/- Contracts of the calendar's leaves: leap, first, isDay, lengths and their twins of the reference. -/
import Derived.Test.YtdbigfdffphdgaaDoorChecked
import Derived.Test.YtdbigfdffphdgaaDoorCal
import Derived.Test.YtdbigfdffphdgaaDoorKit
namespace Go.Proofs.YtdbigfdffphdgaaDoor
open Go.RowKit
set_option maxHeartbeats 400000

theorem calleap (y : Int) (w : World) (h0 : 0 ≤ y) (h1 : y ≤ 100000) :
    Calls Tryd.prog 44 #[.int .i64 y] w fun e w' => e = .returned (.bool (Cal.leap y)) ∧ w = w' := by
  go_enter Tryd.func44, Tryd.ntmps44
  go_wp2
  all_goals (go_ret; exact ⟨ret_bool (by simp [Cal.leap, *]), rfl⟩)

theorem refleap (y : Int) (w : World) (h0 : 0 ≤ y) (h1 : y ≤ 100000) :
    Calls Tryd.prog 45 #[.int .i64 y] w fun e w' => e = .returned (.bool (Cal.leap y)) ∧ w = w' := by
  go_enter Tryd.func45, Tryd.ntmps45
  go_wp2
  all_goals (go_ret; exact ⟨ret_bool (by simp [Cal.leap, *]), rfl⟩)

theorem isDay (y : Int) (w : World) :
    Calls Tryd.prog 30 #[.int .i64 y] w fun e w' => e = .returned (.bool (Cal.isDay y)) ∧ w = w' := by
  go_enter Tryd.func30, Tryd.ntmps30
  go_wp2
  all_goals (go_ret; exact ⟨ret_bool (by simp [Cal.isDay]; try omega), rfl⟩)

theorem refIsDay (y : Int) (w : World) :
    Calls Tryd.prog 33 #[.int .i64 y] w fun e w' => e = .returned (.bool (Cal.isDay y)) ∧ w = w' := by
  go_enter Tryd.func33, Tryd.ntmps33
  go_wp2
  all_goals (go_ret; exact ⟨ret_bool (by simp [Cal.isDay]; try omega), rfl⟩)

theorem first (y : Int) (w : World) (h0 : 2000 ≤ y) (h1 : y ≤ 100000) :
    Calls Tryd.prog 31 #[.int .i64 y] w fun e w' => e = .returned (.int .i64 (Cal.first y)) ∧ w = w' := by
  go_enter Tryd.func31, Tryd.ntmps31
  go_wp2
  go_ret
  exact ⟨ret_int (by simp only [Cal.first]), rfl⟩

theorem days (y m : Int) (w : World) (h0 : 0 ≤ y) (h1 : y ≤ 100000) :
    Calls Tryd.prog 34 #[.int .i64 y, .int .i64 m] w fun e w' => e = .returned (.int .i64 (Cal.days y m)) ∧ w = w' := by
  have k2 : (Cal.leap y = true ∧ Cal.lp y = 1) ∨ (Cal.leap y = false ∧ Cal.lp y = 0) := by unfold Cal.lp; cases Cal.leap y <;> simp
  rcases k2 with ⟨k, k2⟩ | ⟨k, k2⟩
  all_goals
    have K := Lib.hid k2
    clear k2
    go_enter Tryd.func34, Tryd.ntmps34
    go_wp2_with (go_at_call 45; refine (refleap _ _ h0 h1).mono ?_; rintro e w' ⟨rfl, rfl⟩)
    all_goals (go_ret; exact ⟨ret_int (by first | (simp [Cal.days, K.out, *]; done) | (have := K.out; simp_all [Cal.days]; done)), rfl⟩)

theorem lengths (y : Int) (w : World) (h0 : 0 ≤ y) (h1 : y ≤ 100000) :
    Calls Tryd.prog 32 #[.int .i64 y] w fun e w' => e = .returned (.agg #[.int .i64 31, .int .i64 (28 + Cal.lp y), .int .i64 31, .int .i64 30, .int .i64 31, .int .i64 30, .int .i64 31, .int .i64 31, .int .i64 30, .int .i64 31, .int .i64 30, .int .i64 31]) ∧ Below w.heap.size w w' := by
  go_enter Tryd.func32, Tryd.ntmps32
  go_wp2_with (go_at_call 44; refine (calleap _ _ h0 h1).mono ?_; rintro e w' ⟨rfl, rfl⟩)
  all_goals
    refine bodyPost_ret (v := .agg #[.int .i64 31, .int .i64 (28 + Cal.lp y), .int .i64 31, .int .i64 30, .int .i64 31, .int .i64 30, .int .i64 31, .int .i64 31, .int .i64 30, .int .i64 31, .int .i64 30, .int .i64 31]) (by simp [results, Tryd.results32, go_sem, Cal.lp, *]) rfl ⟨rfl, ?_⟩
    (repeat (first | exact Below.refl _ _ | assumption | (refine Below.drew ?_) | (refine Below.alloc ?_ (by simp) _) | (refine Below.setCell ?_ (by simp) _)))
end Go.Proofs.YtdbigfdffphdgaaDoor
