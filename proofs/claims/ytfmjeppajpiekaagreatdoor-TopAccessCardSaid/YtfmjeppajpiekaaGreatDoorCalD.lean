/- Contracts of AddMonths and Weekday (the program's and the reference's). -/
import Derived.Test.YtfmjeppajpiekaaGreatDoorCalC
namespace Go.Proofs.YtfmjeppajpiekaaGreatDoor
open Go.RowKit
set_option maxHeartbeats 400000

theorem date_any (n : Int) (w : World) :
    Calls Tryz.prog 171 #[.int .i64 n] w fun e w' => e = .returned (.tuple #[.int .i64 (Cal.dY n), .int .i64 (Cal.dM n), .int .i64 (Cal.dD n)]) ∧ Below w.heap.size w w' := by
  cases h : Cal.isDay n with
  | true => exact date_yes n w h
  | false => have k := Cal.date_no n h; rw [k.1, k.2.1, k.2.2]; exact date_no n w h
theorem refdate_any (n : Int) (w : World) :
    Calls Tryz.prog 259 #[.int .i64 n] w fun e w' => e = .returned (.tuple #[.int .i64 (Cal.dY n), .int .i64 (Cal.dM n), .int .i64 (Cal.dD n)]) ∧ Below w.heap.size w w' := by
  cases h : Cal.isDay n with
  | true => exact refdate_yes n w h
  | false => have k := Cal.date_no n h; rw [k.1, k.2.1, k.2.2]; exact refdate_no n w h

end Go.Proofs.YtfmjeppajpiekaaGreatDoor
