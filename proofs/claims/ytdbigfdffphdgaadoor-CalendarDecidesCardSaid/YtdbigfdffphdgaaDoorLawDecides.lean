/- The walk of the law CalendarDecides. -/
import Derived.Test.YtdbigfdffphdgaaDoorCalM
import Derived.Test.YtdbigfdffphdgaaDoorKit4
namespace Go.Proofs.YtdbigfdffphdgaaDoor
open Go.RowKit
set_option maxHeartbeats 1600000
attribute [local go_sem ↓] ldPol ldEnt stEnt
attribute [local go_sem] isHead_mk headOf_mk cellsOfV_mk isAggV_mk row_new row_new2 row_new2' row_drew row_drewN allOne_nil allOne_cons one_int one_bool one_string one_pointer one_slice
theorem keep2_out {w w1 : World} {g h : Nat} {cs ds : Array Value} (s : row w1 g = cs ∧ row w1 h = ds ∧ Below w.heap.size w w1) : Below w.heap.size w w1 := s.2.2
theorem law_decides (ke un ac : Int) (x0 x1 x2 x3 x4 x5 x6 x7 x8 x9 x10 x11 x12 x13 x14 x15 x16 x17 x18 x19 x23 x25 x26 x27 x28 x29 x30 x31 x32 : Value) (cr ex us : Int) (ar : Bool) (t : Int) (w : World) (hT : Tab w) :
    Calls Tryd.prog 7 #[.agg #[.int .i64 ke, .int .i64 un, .int .i64 ac], .agg #[x0, x1, x2, x3, x4, x5, x6, x7, x8, x9, x10, x11, x12, x13, x14, x15, x16, x17, x18, x19, .int .i64 cr, .int .i64 ex, .bool ar, x23, .int .i64 us, x25, x26, x27, x28, x29, x30, x31, x32], .int .i64 t] w fun e w' => e = .returned (.bool true) ∧ Below w.heap.size w w' := by
  have hT2 := fun A B : Obj => Tab.below hT (((Below.refl w.heap.size w).alloc (Nat.le_refl _) A).alloc (by simp) B)
  go_enter Tryd.func7, Tryd.ntmps7
  go_wp2_with (first | (go_at_call 10; (with_reducible refine (awake _ (hT2 _ _)).mono ?_); rintro e w1 ⟨rfl, hb⟩; have R1 := row_below hb (row_of (heap_alloc2_old w _ _)) (by simp); have R2 := row_below hb (row_of (heap_alloc2_new w _ _)) (by simp); have B := below2 hb; clear hb))
  have B' : Below w.heap.size w w1.drew := B.drew
  go_region_held3 (fun w' => row w' w.heap.size = #[.int .i64 ke, .int .i64 un, .int .i64 ac] ∧ row w' (w.heap.size + 1) = #[x0, x1, x2, x3, x4, x5, x6, x7, x8, x9, x10, x11, x12, x13, x14, x15, x16, x17, x18, x19, .int .i64 cr, .int .i64 ex, .bool ar, x23, .int .i64 us, x25, x26, x27, x28, x29, x30, x31, x32] ∧ Below w.heap.size w w')
    (first | exact ⟨R1, R2, B'⟩ | exact keep2 hb (by assumption) (by simp) (by simp))
    (first | (go_at_call 23; (with_reducible refine (expired _ _ _ _ _ _ _ _ _ _ _ _ _ _ _ _ _ _ _ _ _ _ _ _ _ _ _ _ _ _ _ _ _ _ _).mono ?_); rintro e w2 ⟨rfl, hb⟩) | (go_at_call 24; (with_reducible refine (refexpired _ _ _ _ _ _ _ _ _ _ _ _ _ _ _ _ _ _ _ _ _ _ _ _ _ _ _ _ _ _ _ _ _ _ _).mono ?_); rintro e w2 ⟨rfl, hb⟩) | (go_at_call 25; (with_reducible refine (decide_any _ _ _ _ _ _ _ _ _ _ _ _ _ _ _ _ _ _ _ _ _ _ _ _ _ _ _ _ _ _ _ _ _ _ _ _ _ _).mono ?_); rintro e w2 ⟨rfl, hb⟩) | (go_at_call 26; (with_reducible refine (refdecide_any _ _ _ _ _ _ _ _ _ _ _ _ _ _ _ _ _ _ _ _ _ _ _ _ _ _ _ _ _ _ _ _ _ _ _ _ _ _).mono ?_); rintro e w2 ⟨rfl, hb⟩))
  all_goals
    go_wp2
    go_ret
    exact ⟨rfl, keep2_out (by assumption)⟩
end Go.Proofs.YtdbigfdffphdgaaDoor
