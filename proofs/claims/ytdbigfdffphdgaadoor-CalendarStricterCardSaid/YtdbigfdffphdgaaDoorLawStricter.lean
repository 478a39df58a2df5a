/- The walk of the law CalendarStricter. -/
import Derived.Test.YtdbigfdffphdgaaDoorCalM
import Derived.Test.YtdbigfdffphdgaaDoorCalR
import Derived.Test.YtdbigfdffphdgaaDoorKit4
import Derived.Laws.EntriesVeiled
namespace Go.Proofs.YtdbigfdffphdgaaDoor
open Go.RowKit
set_option maxHeartbeats 1600000
attribute [local go_sem ↓] ldPol ldEnt stEnt
attribute [local go_sem] isHead_mk headOf_mk cellsOfV_mk isAggV_mk row_new row_new2 row_new2' row_drew row_drewN allOne_nil allOne_cons one_int one_bool one_string one_pointer one_slice
theorem below_alloc (w : World) (o : Obj) : Below w.heap.size w (w.alloc o) := (Below.refl _ _).alloc (Nat.le_refl _) _
theorem row3a (w : World) (a b c : Array Value) (s t u : TypeId) (h : 0 < a.size) : row (((w.alloc (.cells a s)).alloc (.cells b t)).alloc (.cells c u)) w.heap.size = a :=
  row_below (below_alloc _ _) (row_of (heap_alloc2_old w _ _)) h
theorem row3b (w : World) (a b c : Array Value) (s t u : TypeId) (h : 0 < b.size) : row (((w.alloc (.cells a s)).alloc (.cells b t)).alloc (.cells c u)) (w.heap.size + 1) = b :=
  row_below (below_alloc _ _) (row_of (heap_alloc2_new w _ _)) h
theorem row3c (w : World) (a b c : Array Value) (s t u : TypeId) : row (((w.alloc (.cells a s)).alloc (.cells b t)).alloc (.cells c u)) (w.heap.size + 1 + 1) = c := by
  have := row_of (heap_alloc2_new (w.alloc (.cells a s)) (.cells b t) (.cells c u))
  simpa using this
theorem below3a {w w1 : World} {A B C : Obj} (hb : Below (((w.alloc A).alloc B).alloc C).heap.size (((w.alloc A).alloc B).alloc C) w1) : Below w.heap.size w w1 :=
  ((((Below.refl _ _).alloc (Nat.le_refl _) _).alloc (by simp) _).alloc (by simp; omega) _).trans (hb.mono (by simp; omega))

theorem size3 {w w1 : World} {A B C : Obj} {n : Nat} (hb : Below n (((w.alloc A).alloc B).alloc C) w1) : w.heap.size + 1 + 1 < w1.heap.size := by
  have := hb.size; simp at this; omega
theorem strday (n : Int) (w : World) :
    Calls Tryd.prog 28 #[.int .i64 n] w fun e w' => e = .returned (.bool (Cal.isDay n)) ∧ w = w' := by
  go_enter Tryd.func28, Tryd.ntmps28
  go_wp2
  all_goals (go_ret; exact ⟨ret_bool (by simp [Cal.isDay]; try omega), rfl⟩)
theorem strfn (a b : Int) (bd : Nat) (w : World) (hc : w.cell? ⟨bd, 0, none⟩ = some (.func (.func 28) #[] #[])) :
    Calls Tryd.prog 29 #[.int .i64 a, .int .i64 b, .pointer (some ⟨bd, 0, none⟩)] w fun e w' => e = .returned (.bool (Cal.strict a b)) ∧ w = w' := by
  by_cases h1 : a = 0
  · have h1' : (a == 0) = true := by simpa using h1
    by_cases h2 : 0 ≤ b
    · cases h3 : Cal.isDay b
      · by_cases h4 : 0 < b
        · by_cases h5 : b ≤ a
          · exfalso; omega
          · have H := Lib.hid h1; clear h1
            go_enter Tryd.func29, Tryd.ntmps29
            go_wp2_with (go_at_call 28; (with_reducible refine (strday _ _).mono ?_); rintro e w' ⟨rfl, rfl⟩)
            go_ret
            exact ⟨ret_bool (by simp [Cal.strict, h3]; omega), rfl⟩
        · exfalso
          have : Cal.isDay b = true := (Cal.isDay_iff _).2 (by omega)
          rw [this] at h3; cases h3
      · have H := Lib.hid h1; clear h1
        go_enter Tryd.func29, Tryd.ntmps29
        go_wp2_with (go_at_call 28; (with_reducible refine (strday _ _).mono ?_); rintro e w' ⟨rfl, rfl⟩)
        go_ret
        exact ⟨ret_bool (by simp [Cal.strict, h3, H.out, h2]), rfl⟩
    · have h4 : ¬ 0 < b := by omega
      have H := Lib.hid h1; clear h1
      go_enter Tryd.func29, Tryd.ntmps29
      go_wp2_with (go_at_call 28; (with_reducible refine (strday _ _).mono ?_); rintro e w' ⟨rfl, rfl⟩)
      go_ret
      exact ⟨ret_bool (by simp [Cal.strict]; exact ⟨fun _ _ => by omega, fun _ => by omega⟩), rfl⟩
  · have h1' : (a == 0) = false := by simpa using h1
    by_cases h4 : 0 < b
    · by_cases h5 : b ≤ a
      all_goals
        go_enter Tryd.func29, Tryd.ntmps29
        go_wp2_with (go_at_call 28; (with_reducible refine (strday _ _).mono ?_); rintro e w' ⟨rfl, rfl⟩)
        go_ret
        exact ⟨ret_bool (by simp [Cal.strict, h1, h4, h5]), rfl⟩
    · go_enter Tryd.func29, Tryd.ntmps29
      go_wp2_with (go_at_call 28; (with_reducible refine (strday _ _).mono ?_); rintro e w' ⟨rfl, rfl⟩)
      go_ret
      exact ⟨ret_bool (by simp [Cal.strict, h1]; omega), rfl⟩

theorem law_stricter_out (ke un ac ke2 un2 ac2 : Int) (x0 x1 x2 x3 x4 x5 x6 x7 x8 x9 x10 x11 x12 x13 x14 x15 x16 x17 x18 x19 x23 x25 x26 x27 x28 x29 x30 x31 x32 : Value) (cr ex us : Int) (ar : Bool) (t u : Int) (w : World) (hT : Tab w) (h : ¬ (Cal.isDay t = true ∧ Cal.isDay u = true ∧ t ≤ u ∧ Cal.isDay ke = true ∧ Cal.isDay un = true ∧ Cal.isDay ac = true)) :
    Calls Tryd.prog 9 #[.agg #[.int .i64 ke, .int .i64 un, .int .i64 ac], .agg #[.int .i64 ke2, .int .i64 un2, .int .i64 ac2], .agg #[x0, x1, x2, x3, x4, x5, x6, x7, x8, x9, x10, x11, x12, x13, x14, x15, x16, x17, x18, x19, .int .i64 cr, .int .i64 ex, .bool ar, x23, .int .i64 us, x25, x26, x27, x28, x29, x30, x31, x32], .int .i64 t, .int .i64 u] w fun e w' => e = .returned (.bool true) ∧ Below w.heap.size w w' := by
  have H := Lib.hid h
  clear h
  have hT2 := fun A B C : Obj => Tab.below hT ((((Below.refl w.heap.size w).alloc (Nat.le_refl _) A).alloc (by simp) B).alloc (by simp; omega) C)
  cases c1 : Cal.isDay t
  · go_enter Tryd.func9, Tryd.ntmps9; go_wp2_with (first | (go_at_call 10; (with_reducible refine (awake _ (hT2 _ _ _)).mono ?_); rintro e w1 ⟨rfl, hb⟩; have R1 := row_below hb (row3a w _ _ _ _ _ _ (by simp)) (by simp); have R2 := row_below hb (row3b w _ _ _ _ _ _ (by simp)) (by simp); have R3 := row_below hb (row3c w _ _ _ _ _ _) (by simp); have P0 := cell_row R1 0 (.int .i64 ke) rfl; have P1 := cell_row R1 1 (.int .i64 un) rfl; have P2 := cell_row R1 2 (.int .i64 ac) rfl; have Q0 := cell_row R2 0 (.int .i64 ke2) rfl; have Q1 := cell_row R2 1 (.int .i64 un2) rfl; have Q2 := cell_row R2 2 (.int .i64 ac2) rfl; have B := below3a hb; have z2 := size3 hb; have z1 : w.heap.size + 1 < w1.heap.size := (by omega); have z0 : w.heap.size < w1.heap.size := (by omega); clear hb) | (go_at_call 28; (with_reducible refine (strday _ _).mono ?_); rintro e w' ⟨rfl, rfl⟩)); go_ret; exact ⟨rfl, by (have hzz := (B).size; (repeat (first | exact Below.refl _ _ | assumption | (refine Below.drew ?_) | (refine Below.alloc ?_ (by first | (simp; done) | (simp; omega) | omega) _) | (refine Below.setCell ?_ (by first | (simp; done) | (simp; omega) | omega) _))))⟩
  cases c2 : Cal.isDay u
  · go_enter Tryd.func9, Tryd.ntmps9; go_wp2_with (first | (go_at_call 10; (with_reducible refine (awake _ (hT2 _ _ _)).mono ?_); rintro e w1 ⟨rfl, hb⟩; have R1 := row_below hb (row3a w _ _ _ _ _ _ (by simp)) (by simp); have R2 := row_below hb (row3b w _ _ _ _ _ _ (by simp)) (by simp); have R3 := row_below hb (row3c w _ _ _ _ _ _) (by simp); have P0 := cell_row R1 0 (.int .i64 ke) rfl; have P1 := cell_row R1 1 (.int .i64 un) rfl; have P2 := cell_row R1 2 (.int .i64 ac) rfl; have Q0 := cell_row R2 0 (.int .i64 ke2) rfl; have Q1 := cell_row R2 1 (.int .i64 un2) rfl; have Q2 := cell_row R2 2 (.int .i64 ac2) rfl; have B := below3a hb; have z2 := size3 hb; have z1 : w.heap.size + 1 < w1.heap.size := (by omega); have z0 : w.heap.size < w1.heap.size := (by omega); clear hb) | (go_at_call 28; (with_reducible refine (strday _ _).mono ?_); rintro e w' ⟨rfl, rfl⟩)); go_ret; exact ⟨rfl, by (have hzz := (B).size; (repeat (first | exact Below.refl _ _ | assumption | (refine Below.drew ?_) | (refine Below.alloc ?_ (by first | (simp; done) | (simp; omega) | omega) _) | (refine Below.setCell ?_ (by first | (simp; done) | (simp; omega) | omega) _))))⟩
  by_cases c3 : u < t
  · go_enter Tryd.func9, Tryd.ntmps9; go_wp2_with (first | (go_at_call 10; (with_reducible refine (awake _ (hT2 _ _ _)).mono ?_); rintro e w1 ⟨rfl, hb⟩; have R1 := row_below hb (row3a w _ _ _ _ _ _ (by simp)) (by simp); have R2 := row_below hb (row3b w _ _ _ _ _ _ (by simp)) (by simp); have R3 := row_below hb (row3c w _ _ _ _ _ _) (by simp); have P0 := cell_row R1 0 (.int .i64 ke) rfl; have P1 := cell_row R1 1 (.int .i64 un) rfl; have P2 := cell_row R1 2 (.int .i64 ac) rfl; have Q0 := cell_row R2 0 (.int .i64 ke2) rfl; have Q1 := cell_row R2 1 (.int .i64 un2) rfl; have Q2 := cell_row R2 2 (.int .i64 ac2) rfl; have B := below3a hb; have z2 := size3 hb; have z1 : w.heap.size + 1 < w1.heap.size := (by omega); have z0 : w.heap.size < w1.heap.size := (by omega); clear hb) | (go_at_call 28; (with_reducible refine (strday _ _).mono ?_); rintro e w' ⟨rfl, rfl⟩)); go_ret; exact ⟨rfl, by (have hzz := (B).size; (repeat (first | exact Below.refl _ _ | assumption | (refine Below.drew ?_) | (refine Below.alloc ?_ (by first | (simp; done) | (simp; omega) | omega) _) | (refine Below.setCell ?_ (by first | (simp; done) | (simp; omega) | omega) _))))⟩
  cases c4 : Cal.isDay ke
  · go_enter Tryd.func9, Tryd.ntmps9; go_wp2_with (first | (go_at_call 10; (with_reducible refine (awake _ (hT2 _ _ _)).mono ?_); rintro e w1 ⟨rfl, hb⟩; have R1 := row_below hb (row3a w _ _ _ _ _ _ (by simp)) (by simp); have R2 := row_below hb (row3b w _ _ _ _ _ _ (by simp)) (by simp); have R3 := row_below hb (row3c w _ _ _ _ _ _) (by simp); have P0 := cell_row R1 0 (.int .i64 ke) rfl; have P1 := cell_row R1 1 (.int .i64 un) rfl; have P2 := cell_row R1 2 (.int .i64 ac) rfl; have Q0 := cell_row R2 0 (.int .i64 ke2) rfl; have Q1 := cell_row R2 1 (.int .i64 un2) rfl; have Q2 := cell_row R2 2 (.int .i64 ac2) rfl; have B := below3a hb; have z2 := size3 hb; have z1 : w.heap.size + 1 < w1.heap.size := (by omega); have z0 : w.heap.size < w1.heap.size := (by omega); clear hb) | (go_at_call 28; (with_reducible refine (strday _ _).mono ?_); rintro e w' ⟨rfl, rfl⟩)); go_ret; exact ⟨rfl, by (have hzz := (B).size; (repeat (first | exact Below.refl _ _ | assumption | (refine Below.drew ?_) | (refine Below.alloc ?_ (by first | (simp; done) | (simp; omega) | omega) _) | (refine Below.setCell ?_ (by first | (simp; done) | (simp; omega) | omega) _))))⟩
  cases c5 : Cal.isDay un
  · go_enter Tryd.func9, Tryd.ntmps9; go_wp2_with (first | (go_at_call 10; (with_reducible refine (awake _ (hT2 _ _ _)).mono ?_); rintro e w1 ⟨rfl, hb⟩; have R1 := row_below hb (row3a w _ _ _ _ _ _ (by simp)) (by simp); have R2 := row_below hb (row3b w _ _ _ _ _ _ (by simp)) (by simp); have R3 := row_below hb (row3c w _ _ _ _ _ _) (by simp); have P0 := cell_row R1 0 (.int .i64 ke) rfl; have P1 := cell_row R1 1 (.int .i64 un) rfl; have P2 := cell_row R1 2 (.int .i64 ac) rfl; have Q0 := cell_row R2 0 (.int .i64 ke2) rfl; have Q1 := cell_row R2 1 (.int .i64 un2) rfl; have Q2 := cell_row R2 2 (.int .i64 ac2) rfl; have B := below3a hb; have z2 := size3 hb; have z1 : w.heap.size + 1 < w1.heap.size := (by omega); have z0 : w.heap.size < w1.heap.size := (by omega); clear hb) | (go_at_call 28; (with_reducible refine (strday _ _).mono ?_); rintro e w' ⟨rfl, rfl⟩)); go_ret; exact ⟨rfl, by (have hzz := (B).size; (repeat (first | exact Below.refl _ _ | assumption | (refine Below.drew ?_) | (refine Below.alloc ?_ (by first | (simp; done) | (simp; omega) | omega) _) | (refine Below.setCell ?_ (by first | (simp; done) | (simp; omega) | omega) _))))⟩
  cases c6 : Cal.isDay ac
  · go_enter Tryd.func9, Tryd.ntmps9; go_wp2_with (first | (go_at_call 10; (with_reducible refine (awake _ (hT2 _ _ _)).mono ?_); rintro e w1 ⟨rfl, hb⟩; have R1 := row_below hb (row3a w _ _ _ _ _ _ (by simp)) (by simp); have R2 := row_below hb (row3b w _ _ _ _ _ _ (by simp)) (by simp); have R3 := row_below hb (row3c w _ _ _ _ _ _) (by simp); have P0 := cell_row R1 0 (.int .i64 ke) rfl; have P1 := cell_row R1 1 (.int .i64 un) rfl; have P2 := cell_row R1 2 (.int .i64 ac) rfl; have Q0 := cell_row R2 0 (.int .i64 ke2) rfl; have Q1 := cell_row R2 1 (.int .i64 un2) rfl; have Q2 := cell_row R2 2 (.int .i64 ac2) rfl; have B := below3a hb; have z2 := size3 hb; have z1 : w.heap.size + 1 < w1.heap.size := (by omega); have z0 : w.heap.size < w1.heap.size := (by omega); clear hb) | (go_at_call 28; (with_reducible refine (strday _ _).mono ?_); rintro e w' ⟨rfl, rfl⟩)); go_ret; exact ⟨rfl, by (have hzz := (B).size; (repeat (first | exact Below.refl _ _ | assumption | (refine Below.drew ?_) | (refine Below.alloc ?_ (by first | (simp; done) | (simp; omega) | omega) _) | (refine Below.setCell ?_ (by first | (simp; done) | (simp; omega) | omega) _))))⟩
  exact absurd ⟨c1, c2, by omega, c4, c5, c6⟩ H.out
end Go.Proofs.YtdbigfdffphdgaaDoor
