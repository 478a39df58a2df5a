/- Contracts of fits, Expired, reached (the program's and the reference's). -/
import Derived.Test.YtdbigfdffphdgaaDoorCalA
import Derived.Test.YtdbigfdffphdgaaDoorCalP
import Derived.BigQuiet
import Derived.Deep.QuietTactic
import Derived.RegionTactic
namespace Go.Proofs.YtdbigfdffphdgaaDoor
open Go.RowKit
set_option maxHeartbeats 800000

theorem fits (x0 x1 x2 x3 x4 x5 x6 x7 x8 x9 x10 x11 x12 x13 x14 x15 x16 x17 x18 x19 x23 x25 x26 x27 x28 x29 x30 x31 x32 : Value) (cr ex us : Int) (ar : Bool) (t : Int) (w : World) :
    Calls Tryd.prog 38 #[.agg #[x0, x1, x2, x3, x4, x5, x6, x7, x8, x9, x10, x11, x12, x13, x14, x15, x16, x17, x18, x19, .int .i64 cr, .int .i64 ex, .bool ar, x23, .int .i64 us, x25, x26, x27, x28, x29, x30, x31, x32], .int .i64 t] w fun e w' => e = .returned (.bool (Cal.fits cr us ex t)) ∧ Below w.heap.size w w' := by
  unfold Cal.fits
  cases h1 : Cal.isDay cr <;> cases h2 : Cal.isDay us <;> cases h3 : Cal.isDay ex <;> cases h4 : Cal.isDay t
  all_goals
    go_enter Tryd.func38, Tryd.ntmps38
    go_wp2_with (go_at_call 30; (with_reducible refine (isDay _ _).mono ?_); rintro e w' ⟨rfl, rfl⟩)
    go_ret
    exact ⟨rfl, by (repeat (first | exact Below.refl _ _ | assumption | (refine Below.drew ?_) | (refine Below.alloc ?_ (by simp) _) | (refine Below.setCell ?_ (by simp) _)))⟩

theorem reffits (x0 x1 x2 x3 x4 x5 x6 x7 x8 x9 x10 x11 x12 x13 x14 x15 x16 x17 x18 x19 x23 x25 x26 x27 x28 x29 x30 x31 x32 : Value) (cr ex us : Int) (ar : Bool) (t : Int) (w : World) :
    Calls Tryd.prog 39 #[.agg #[x0, x1, x2, x3, x4, x5, x6, x7, x8, x9, x10, x11, x12, x13, x14, x15, x16, x17, x18, x19, .int .i64 cr, .int .i64 ex, .bool ar, x23, .int .i64 us, x25, x26, x27, x28, x29, x30, x31, x32], .int .i64 t] w fun e w' => e = .returned (.bool (Cal.fits cr us ex t)) ∧ Below w.heap.size w w' := by
  unfold Cal.fits
  cases h1 : Cal.isDay cr <;> cases h2 : Cal.isDay us <;> cases h3 : Cal.isDay ex <;> cases h4 : Cal.isDay t
  all_goals
    go_enter Tryd.func39, Tryd.ntmps39
    go_wp2_with (go_at_call 33; (with_reducible refine (refIsDay _ _).mono ?_); rintro e w' ⟨rfl, rfl⟩)
    go_ret
    exact ⟨rfl, by (repeat (first | exact Below.refl _ _ | assumption | (refine Below.drew ?_) | (refine Below.alloc ?_ (by simp) _) | (refine Below.setCell ?_ (by simp) _)))⟩

theorem reached (a b : Int) (w : World) :
    Calls Tryd.prog 40 #[.int .i64 a, .int .i64 b] w fun e w' => e = .returned (.bool (Cal.reached a b)) ∧ w = w' := by
  go_enter Tryd.func40, Tryd.ntmps40
  go_wp2
  all_goals (go_ret; exact ⟨ret_bool (by simp [Cal.reached]; try omega), rfl⟩)

theorem refreached (a b : Int) (w : World) :
    Calls Tryd.prog 41 #[.int .i64 a, .int .i64 b] w fun e w' => e = .returned (.bool (Cal.reached a b)) ∧ w = w' := by
  go_enter Tryd.func41, Tryd.ntmps41
  go_wp2
  all_goals (go_ret; exact ⟨ret_bool (by simp [Cal.reached]; try omega), rfl⟩)

end Go.Proofs.YtdbigfdffphdgaaDoor
