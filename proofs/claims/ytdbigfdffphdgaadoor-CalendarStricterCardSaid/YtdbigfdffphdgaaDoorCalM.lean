/- The contract of awake. -/
import Derived.Test.YtdbigfdffphdgaaDoorCalG
import Derived.Test.YtdbigfdffphdgaaDoorCalK
import Derived.Test.YtdbigfdffphdgaaDoorCalL
import Derived.Test.YtdbigfdffphdgaaDoorCalQ
import Derived.Test.YtdbigfdffphdgaaDoorEnt
namespace Go.Proofs.YtdbigfdffphdgaaDoor
open Go.RowKit
set_option maxHeartbeats 4000000

theorem parse_any (s : ByteArray) (w : World) :
    Calls Tryd.prog 15 #[.string s] w fun e w' => e = .returned (.tuple #[.int .i64 (Cal.parseN s), .int .i64 (Cal.parseE s)]) ∧ Below w.heap.size w w' := by
  by_cases h : s.size = 10
  · exact parse_ten s w h
  · have k := Cal.parse_no s (by simp [Cal.syn, h])
    rw [k.1, k.2]; exact parse_len s w h
theorem refparse_any (s : ByteArray) (w : World) :
    Calls Tryd.prog 16 #[.string s] w fun e w' => e = .returned (.tuple #[.int .i64 (Cal.parseN s), .int .i64 (Cal.parseE s)]) ∧ Below w.heap.size w w' := by
  by_cases h : s.size = 10
  · exact refparse_ten s w h
  · have k := Cal.parse_no s (by simp [Cal.syn, h])
    rw [k.1, k.2]; exact refparse_len s w h

theorem aw_parse : Cal.parseN ⟨#[50, 48, 50, 54, 45, 49, 49, 45, 49, 54]⟩ = 9816 ∧ Cal.parseE ⟨#[50, 48, 50, 54, 45, 49, 49, 45, 49, 54]⟩ = 0 := by decide +kernel
theorem aw_add : Cal.addN 30 1 = 59 ∧ Cal.addE 30 1 = 0 := by decide +kernel
theorem aw_wday : Cal.wday 9816 = 0 := by decide +kernel
theorem aw_fmt : Cal.fmt 9816 = [50, 48, 50, 54, 45, 49, 49, 45, 49, 54] := by
  have h : Cal.isDay 9816 = true := by decide
  have d := Cal.date_is 9816 2026 11 16 h (by decide) (by decide)
  rw [Cal.fmt_yes _ h, d.1, d.2.1, d.2.2]; decide
theorem aw_next : nextF 0 10 0 0 100 0 false 100 = (110, true) := by decide +kernel
theorem aw_dec : Cal.dec 0 10 0 0 100 0 false 110 = 1 := by decide +kernel

attribute [local go_sem ↓] ldPol ldEnt stEnt
attribute [local go_sem] isHead_mk headOf_mk cellsOfV_mk isAggV_mk row_new row_new2 row_new2' row_drew row_drewN allOne_nil allOne_cons one_int one_bool one_string one_pointer one_slice

theorem awake (w : World) (hT : Tab w) :
    Calls Tryd.prog 10 #[] w fun e w' => e = .returned (.bool true) ∧ Below w.heap.size w w' := by
  have a1 := aw_parse
  have a2 := aw_add
  have a3 := aw_wday
  have a4 := aw_fmt
  have a5 := aw_next
  have a6 := aw_dec
  have B := Below.refl w.heap.size w
  go_enter Tryd.func10, Tryd.ntmps10
  go_wp2_with (first | (go_at_call 15; (with_reducible refine (parse_any _ _).mono ?_); rintro e w1 ⟨rfl, hb⟩; have hT := Tab.below hT hb; have B := Below.trans B (hb.mono B.size); clear hb) | (go_at_call 21; (with_reducible refine (add_any _ _ _).mono ?_); rintro e w1 ⟨rfl, hb⟩; have hT := Tab.below hT hb; have B := Below.trans B (hb.mono B.size); clear hb) | (go_at_call 27; (with_reducible refine (next_any _ _ _ _ _ _ _ _ _ _ _ _ _ _ _ _ _ _ _ _ _ _ _ _ _ _ _ _ _ _ _ _ _ _ _ _ _ _).mono ?_); rintro e w2 ⟨rfl, hb⟩; have X := (Below.refl w1.heap.size w1).alloc (Nat.le_refl _) _ |>.trans (hb.mono (by simp)); have R := row_below hb (row_new w1 _ _ _) (by simp); have hT := Tab.below hT X; have B := bt B X; clear hb X) | (go_at_call 19; (with_reducible refine (weekday _ _).mono ?_); rintro e w' ⟨rfl, rfl⟩) | (go_at_call 17; (with_reducible refine (format_any _ _ hT).mono ?_); rintro e w3 ⟨rfl, hb⟩; have R := row_below hb R (by simp); have B := bt B hb; clear hb) | (go_at_call 25; (with_reducible refine (decide_any _ _ _ _ _ _ _ _ _ _ _ _ _ _ _ _ _ _ _ _ _ _ _ _ _ _ _ _ _ _ _ _ _ _ _ _ _ _).mono ?_); rintro e w4 ⟨rfl, hb⟩; have B := bt B hb; clear hb))
  go_ret
  exact ⟨rfl, B⟩
end Go.Proofs.YtdbigfdffphdgaaDoor
