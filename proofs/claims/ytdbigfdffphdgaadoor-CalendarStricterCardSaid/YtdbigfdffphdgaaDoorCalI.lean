/- Contracts of Expired and Decide. -/
import Derived.Test.YtdbigfdffphdgaaDoorCalH
namespace Go.Proofs.YtdbigfdffphdgaaDoor
open Go.RowKit
set_option maxHeartbeats 800000

theorem expired (x0 x1 x2 x3 x4 x5 x6 x7 x8 x9 x10 x11 x12 x13 x14 x15 x16 x17 x18 x19 x23 x25 x26 x27 x28 x29 x30 x31 x32 : Value) (cr ex us : Int) (ar : Bool) (t : Int) (w : World) :
    Calls Tryd.prog 23 #[.agg #[x0, x1, x2, x3, x4, x5, x6, x7, x8, x9, x10, x11, x12, x13, x14, x15, x16, x17, x18, x19, .int .i64 cr, .int .i64 ex, .bool ar, x23, .int .i64 us, x25, x26, x27, x28, x29, x30, x31, x32], .int .i64 t] w fun e w' => e = .returned (.bool (Cal.expired cr us ex t)) ∧ Below w.heap.size w w' := by
  unfold Cal.expired
  cases h1 : Cal.fits cr us ex t
  · go_enter Tryd.func23, Tryd.ntmps23
    go_wp2_with (first | (with_reducible refine load_guard 43 ?_; refine wpList_load_rowG rfl 43 _ rfl _ rfl _ _ _ _ (heap_alloc_new _ _) Tryd.underlying43 rfl (by kernel_rfl) ?_) | (go_at_call 38; (with_reducible refine (fits _ _ _ _ _ _ _ _ _ _ _ _ _ _ _ _ _ _ _ _ _ _ _ _ _ _ _ _ _ _ _ _ _ _ _).mono ?_); rintro e w1 ⟨rfl, hb⟩))
    go_ret
    exact ⟨rfl, (Below.refl _ _).alloc (Nat.le_refl _) _ |>.trans (hb.mono (by simp))⟩
  · by_cases h2 : ex = 0
    · have h2' : (ex == 0) = true := by simpa using h2
      have H2 := Lib.hid h2
      clear h2
      go_enter Tryd.func23, Tryd.ntmps23
      go_wp2_with (first | (with_reducible refine load_guard 43 ?_; refine wpList_load_rowG rfl 43 _ rfl _ rfl _ _ _ _ (heap_alloc_new _ _) Tryd.underlying43 rfl (by kernel_rfl) ?_) | (go_at_call 38; (with_reducible refine (fits _ _ _ _ _ _ _ _ _ _ _ _ _ _ _ _ _ _ _ _ _ _ _ _ _ _ _ _ _ _ _ _ _ _ _).mono ?_); rintro e w1 ⟨rfl, hb⟩; have c21 : w1.cell? ⟨w.heap.size, 21, none⟩ = some (.int .i64 ex) := by rw [hb.cell (by simp)]; simp))
      go_ret
      exact ⟨ret_bool (by simp [H2.out]), (Below.refl _ _).alloc (Nat.le_refl _) _ |>.trans (hb.mono (by simp))⟩
    · have h2' : (ex == 0) = false := by simpa using h2
      have H2 := Lib.hid h2
      clear h2
      by_cases h3 : ex ≤ t
      all_goals
        go_enter Tryd.func23, Tryd.ntmps23
        go_wp2_with (first | (with_reducible refine load_guard 43 ?_; refine wpList_load_rowG rfl 43 _ rfl _ rfl _ _ _ _ (heap_alloc_new _ _) Tryd.underlying43 rfl (by kernel_rfl) ?_) | (go_at_call 38; (with_reducible refine (fits _ _ _ _ _ _ _ _ _ _ _ _ _ _ _ _ _ _ _ _ _ _ _ _ _ _ _ _ _ _ _ _ _ _ _).mono ?_); rintro e w1 ⟨rfl, hb⟩; have c21 : w1.cell? ⟨w.heap.size, 21, none⟩ = some (.int .i64 ex) := by rw [hb.cell (by simp)]; simp))
        go_ret
        exact ⟨ret_bool (by simp [H2.out, h3]), (Below.refl _ _).alloc (Nat.le_refl _) _ |>.trans (hb.mono (by simp))⟩

theorem refexpired (x0 x1 x2 x3 x4 x5 x6 x7 x8 x9 x10 x11 x12 x13 x14 x15 x16 x17 x18 x19 x23 x25 x26 x27 x28 x29 x30 x31 x32 : Value) (cr ex us : Int) (ar : Bool) (t : Int) (w : World) :
    Calls Tryd.prog 24 #[.agg #[x0, x1, x2, x3, x4, x5, x6, x7, x8, x9, x10, x11, x12, x13, x14, x15, x16, x17, x18, x19, .int .i64 cr, .int .i64 ex, .bool ar, x23, .int .i64 us, x25, x26, x27, x28, x29, x30, x31, x32], .int .i64 t] w fun e w' => e = .returned (.bool (Cal.expired cr us ex t)) ∧ Below w.heap.size w w' := by
  unfold Cal.expired
  cases h1 : Cal.fits cr us ex t
  · go_enter Tryd.func24, Tryd.ntmps24
    go_wp2_with (first | (with_reducible refine load_guard 43 ?_; refine wpList_load_rowG rfl 43 _ rfl _ rfl _ _ _ _ (heap_alloc_new _ _) Tryd.underlying43 rfl (by kernel_rfl) ?_) | (go_at_call 39; (with_reducible refine (reffits _ _ _ _ _ _ _ _ _ _ _ _ _ _ _ _ _ _ _ _ _ _ _ _ _ _ _ _ _ _ _ _ _ _ _).mono ?_); rintro e w1 ⟨rfl, hb⟩))
    go_ret
    exact ⟨rfl, (Below.refl _ _).alloc (Nat.le_refl _) _ |>.trans (hb.mono (by simp))⟩
  · by_cases h2 : ex = 0
    · have h2' : (ex == 0) = true := by simpa using h2
      have H2 := Lib.hid h2
      clear h2
      go_enter Tryd.func24, Tryd.ntmps24
      go_wp2_with (first | (with_reducible refine load_guard 43 ?_; refine wpList_load_rowG rfl 43 _ rfl _ rfl _ _ _ _ (heap_alloc_new _ _) Tryd.underlying43 rfl (by kernel_rfl) ?_) | (go_at_call 39; (with_reducible refine (reffits _ _ _ _ _ _ _ _ _ _ _ _ _ _ _ _ _ _ _ _ _ _ _ _ _ _ _ _ _ _ _ _ _ _ _).mono ?_); rintro e w1 ⟨rfl, hb⟩; have c21 : w1.cell? ⟨w.heap.size, 21, none⟩ = some (.int .i64 ex) := by rw [hb.cell (by simp)]; simp))
      go_ret
      exact ⟨ret_bool (by simp [H2.out]), (Below.refl _ _).alloc (Nat.le_refl _) _ |>.trans (hb.mono (by simp))⟩
    · have h2' : (ex == 0) = false := by simpa using h2
      have H2 := Lib.hid h2
      clear h2
      by_cases h3 : ex ≤ t
      all_goals
        go_enter Tryd.func24, Tryd.ntmps24
        go_wp2_with (first | (with_reducible refine load_guard 43 ?_; refine wpList_load_rowG rfl 43 _ rfl _ rfl _ _ _ _ (heap_alloc_new _ _) Tryd.underlying43 rfl (by kernel_rfl) ?_) | (go_at_call 39; (with_reducible refine (reffits _ _ _ _ _ _ _ _ _ _ _ _ _ _ _ _ _ _ _ _ _ _ _ _ _ _ _ _ _ _ _ _ _ _ _).mono ?_); rintro e w1 ⟨rfl, hb⟩; have c21 : w1.cell? ⟨w.heap.size, 21, none⟩ = some (.int .i64 ex) := by rw [hb.cell (by simp)]; simp))
        go_ret
        exact ⟨ret_bool (by simp [H2.out, h3]), (Below.refl _ _).alloc (Nat.le_refl _) _ |>.trans (hb.mono (by simp))⟩

end Go.Proofs.YtdbigfdffphdgaaDoor
