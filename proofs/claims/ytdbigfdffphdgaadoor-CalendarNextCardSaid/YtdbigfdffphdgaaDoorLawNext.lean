/- The walk of the law CalendarNext. -/
import Derived.Test.YtdbigfdffphdgaaDoorCalM
import Derived.Test.YtdbigfdffphdgaaDoorCalR
namespace Go.Proofs.YtdbigfdffphdgaaDoor
open Go.RowKit
set_option maxHeartbeats 1600000
attribute [local go_sem ↓] ldPol ldEnt stEnt
attribute [local go_sem] isHead_mk headOf_mk cellsOfV_mk isAggV_mk row_new row_new2 row_new2' row_drew row_drewN allOne_nil allOne_cons one_int one_bool one_string one_pointer one_slice
theorem next_cases (ke un ac cr us ex : Int) (ar : Bool) (t : Int) :
    (nextF ke un ac cr us ex ar t = (0, false) ∧ (t < 0 ∨ 65536 < t ∨ (0 ≤ t ∧ t ≤ 65536 ∧ Cal.dec ke un ac cr us ex ar 65536 = Cal.dec ke un ac cr us ex ar t))) ∨
    ∃ d, nextF ke un ac cr us ex ar t = (d, true) ∧ 0 ≤ t ∧ t < d ∧ d ≤ 65536 ∧ Cal.dec ke un ac cr us ex ar t < Cal.dec ke un ac cr us ex ar d ∧ ∀ k, t ≤ k → k < d → Cal.dec ke un ac cr us ex ar k = Cal.dec ke un ac cr us ex ar t := by
  unfold nextF
  by_cases h : Cal.isDay t = true
  · rw [if_pos h]
    obtain ⟨h0, h1⟩ := (Cal.isDay_iff t).1 h
    rcases Cal.srch_spec (fun d => Cal.dec ke un ac cr us ex ar d != Cal.dec ke un ac cr us ex ar t) (65537 - (t + 1)).toNat (t + 1) with ⟨a, b, c, e, g⟩ | ⟨a, b, c⟩
    · right
      generalize Cal.srch (fun d => Cal.dec ke un ac cr us ex ar d != Cal.dec ke un ac cr us ex ar t) (65537 - (t + 1)).toNat (t + 1) = r at *
      obtain ⟨d, ok⟩ := r
      simp only at a b c e g
      subst a
      have hd : Cal.isDay d = true := (Cal.isDay_iff _).2 (by omega)
      have m := Cal.dec_mono ke un ac cr us ex ar t d (by omega) hd
      have ne : Cal.dec ke un ac cr us ex ar d ≠ Cal.dec ke un ac cr us ex ar t := by simpa using e
      refine ⟨d, rfl, h0, by omega, by omega, by omega, fun k h1 h2 => ?_⟩
      by_cases e : k = t
      · rw [e]
      · have := g k (by omega) h2
        simpa using this
    · left
      generalize Cal.srch (fun d => Cal.dec ke un ac cr us ex ar d != Cal.dec ke un ac cr us ex ar t) (65537 - (t + 1)).toNat (t + 1) = r at *
      obtain ⟨d, ok⟩ := r
      simp only at a b
      subst a; subst b
      refine ⟨rfl, Or.inr (Or.inr ⟨h0, h1, ?_⟩)⟩
      by_cases e : t = 65536
      · rw [e]
      · have := c 65536 (by omega) (by omega)
        simpa using this
  · rw [if_neg h]
    left
    refine ⟨rfl, ?_⟩
    have : ¬ (0 ≤ t ∧ t ≤ 65536) := fun k => h ((Cal.isDay_iff t).2 k)
    omega

theorem law_next (ke un ac : Int) (x0 x1 x2 x3 x4 x5 x6 x7 x8 x9 x10 x11 x12 x13 x14 x15 x16 x17 x18 x19 x23 x25 x26 x27 x28 x29 x30 x31 x32 : Value) (cr ex us : Int) (ar : Bool) (t : Int) (w : World) (hT : Tab w) :
    Calls Tryd.prog 8 #[.agg #[.int .i64 ke, .int .i64 un, .int .i64 ac], .agg #[x0, x1, x2, x3, x4, x5, x6, x7, x8, x9, x10, x11, x12, x13, x14, x15, x16, x17, x18, x19, .int .i64 cr, .int .i64 ex, .bool ar, x23, .int .i64 us, x25, x26, x27, x28, x29, x30, x31, x32], .int .i64 t] w fun e w' => e = .returned (.bool true) ∧ Below w.heap.size w w' := by
  have hT2 := fun A B : Obj => Tab.below hT (((Below.refl w.heap.size w).alloc (Nat.le_refl _) A).alloc (by simp) B)
  rcases next_cases ke un ac cr us ex ar t with ⟨hN, hc⟩ | ⟨d, hN, t0, t1, t2, hgt, hall⟩
  · rcases hc with hc | hc | ⟨hc0, hc1, hc2⟩
    · go_enter Tryd.func8, Tryd.ntmps8
      go_wp2_with (first | (go_at_call 10; (with_reducible refine (awake _ (hT2 _ _)).mono ?_); rintro e w1 ⟨rfl, hb⟩; have R1 := row_below hb (row_of (heap_alloc2_old w _ _)) (by simp); have R2 := row_below hb (row_of (heap_alloc2_new w _ _)) (by simp); have B := below2 hb; clear hb) | (go_at_call 25; (with_reducible refine (decide_any _ _ _ _ _ _ _ _ _ _ _ _ _ _ _ _ _ _ _ _ _ _ _ _ _ _ _ _ _ _ _ _ _ _ _ _ _ _).mono ?_); rintro e w1 ⟨rfl, hb⟩; have R1 := row_below hb R1 (by simp); have R2 := row_below hb R2 (by simp); have B := bt B hb; clear hb) | (go_at_call 27; (with_reducible refine (next_any _ _ _ _ _ _ _ _ _ _ _ _ _ _ _ _ _ _ _ _ _ _ _ _ _ _ _ _ _ _ _ _ _ _ _ _ _ _).mono ?_); rintro e w1 ⟨rfl, hb⟩; have R1 := row_below hb R1 (by simp); have R2 := row_below hb R2 (by simp); have B := bt B hb; clear hb))
      go_ret
      exact ⟨rfl, B⟩
    · go_enter Tryd.func8, Tryd.ntmps8
      go_wp2_with (first | (go_at_call 10; (with_reducible refine (awake _ (hT2 _ _)).mono ?_); rintro e w1 ⟨rfl, hb⟩; have R1 := row_below hb (row_of (heap_alloc2_old w _ _)) (by simp); have R2 := row_below hb (row_of (heap_alloc2_new w _ _)) (by simp); have B := below2 hb; clear hb) | (go_at_call 25; (with_reducible refine (decide_any _ _ _ _ _ _ _ _ _ _ _ _ _ _ _ _ _ _ _ _ _ _ _ _ _ _ _ _ _ _ _ _ _ _ _ _ _ _).mono ?_); rintro e w1 ⟨rfl, hb⟩; have R1 := row_below hb R1 (by simp); have R2 := row_below hb R2 (by simp); have B := bt B hb; clear hb) | (go_at_call 27; (with_reducible refine (next_any _ _ _ _ _ _ _ _ _ _ _ _ _ _ _ _ _ _ _ _ _ _ _ _ _ _ _ _ _ _ _ _ _ _ _ _ _ _).mono ?_); rintro e w1 ⟨rfl, hb⟩; have R1 := row_below hb R1 (by simp); have R2 := row_below hb R2 (by simp); have B := bt B hb; clear hb))
      go_ret
      exact ⟨rfl, B⟩
    · go_enter Tryd.func8, Tryd.ntmps8
      go_wp2_with (first | (go_at_call 10; (with_reducible refine (awake _ (hT2 _ _)).mono ?_); rintro e w1 ⟨rfl, hb⟩; have R1 := row_below hb (row_of (heap_alloc2_old w _ _)) (by simp); have R2 := row_below hb (row_of (heap_alloc2_new w _ _)) (by simp); have B := below2 hb; clear hb) | (go_at_call 25; (with_reducible refine (decide_any _ _ _ _ _ _ _ _ _ _ _ _ _ _ _ _ _ _ _ _ _ _ _ _ _ _ _ _ _ _ _ _ _ _ _ _ _ _).mono ?_); rintro e w1 ⟨rfl, hb⟩; have R1 := row_below hb R1 (by simp); have R2 := row_below hb R2 (by simp); have B := bt B hb; clear hb) | (go_at_call 27; (with_reducible refine (next_any _ _ _ _ _ _ _ _ _ _ _ _ _ _ _ _ _ _ _ _ _ _ _ _ _ _ _ _ _ _ _ _ _ _ _ _ _ _).mono ?_); rintro e w1 ⟨rfl, hb⟩; have R1 := row_below hb R1 (by simp); have R2 := row_below hb R2 (by simp); have B := bt B hb; clear hb))
      go_ret
      exact ⟨rfl, B⟩
  · have HA := Lib.hid hall
    clear hall
    by_cases hm : t < d - 3000
    all_goals
      go_enter Tryd.func8, Tryd.ntmps8
      go_wp2_with (first | (go_at_call 10; (with_reducible refine (awake _ (hT2 _ _)).mono ?_); rintro e w1 ⟨rfl, hb⟩; have R1 := row_below hb (row_of (heap_alloc2_old w _ _)) (by simp); have R2 := row_below hb (row_of (heap_alloc2_new w _ _)) (by simp); have B := below2 hb; clear hb) | (go_at_call 25; (with_reducible refine (decide_any _ _ _ _ _ _ _ _ _ _ _ _ _ _ _ _ _ _ _ _ _ _ _ _ _ _ _ _ _ _ _ _ _ _ _ _ _ _).mono ?_); rintro e w1 ⟨rfl, hb⟩; have R1 := row_below hb R1 (by simp); have R2 := row_below hb R2 (by simp); have B := bt B hb; clear hb) | (go_at_call 27; (with_reducible refine (next_any _ _ _ _ _ _ _ _ _ _ _ _ _ _ _ _ _ _ _ _ _ _ _ _ _ _ _ _ _ _ _ _ _ _ _ _ _ _).mono ?_); rintro e w1 ⟨rfl, hb⟩; have R1 := row_below hb R1 (by simp); have R2 := row_below hb R2 (by simp); have B := bt B hb; clear hb))
      have R1' := Lib.hid R1
      have R2' := Lib.hid R2
      have B' := Lib.hid B
      go_loopw [10] (fun k wr => ∃ q : Int, t ≤ q ∧ q ≤ d ∧ k = .int .i64 q ∧ row wr w.heap.size = #[.int .i64 ke, .int .i64 un, .int .i64 ac] ∧ row wr (w.heap.size + 1) = #[x0, x1, x2, x3, x4, x5, x6, x7, x8, x9, x10, x11, x12, x13, x14, x15, x16, x17, x18, x19, .int .i64 cr, .int .i64 ex, .bool ar, x23, .int .i64 us, x25, x26, x27, x28, x29, x30, x31, x32] ∧ Below w.heap.size w wr) (fun k _ => (d - intOf k).toNat)
      case atStart => exact ⟨_, by omega, by omega, rfl, R1'.out, R2'.out, B'.out⟩
      case round =>
        clear R1 R2 B
        obtain ⟨q, q1, q2, rfl, R1, R2, B⟩ := hrel
        by_cases hq : q < d
        · have hdec := HA.out q q1 hq
          have hd' : (Cal.dec ke un ac cr us ex ar q != Cal.dec ke un ac cr us ex ar t) = false := by simp [hdec]
          clear hdec
          go_wp2_with (first | (go_at_call 10; (with_reducible refine (awake _ (hT2 _ _)).mono ?_); rintro e w1 ⟨rfl, hb⟩; have R1 := row_below hb (row_of (heap_alloc2_old w _ _)) (by simp); have R2 := row_below hb (row_of (heap_alloc2_new w _ _)) (by simp); have B := below2 hb; clear hb) | (go_at_call 25; (with_reducible refine (decide_any _ _ _ _ _ _ _ _ _ _ _ _ _ _ _ _ _ _ _ _ _ _ _ _ _ _ _ _ _ _ _ _ _ _ _ _ _ _).mono ?_); rintro e w1 ⟨rfl, hb⟩; have R1 := row_below hb R1 (by simp); have R2 := row_below hb R2 (by simp); have B := bt B hb; clear hb) | (go_at_call 27; (with_reducible refine (next_any _ _ _ _ _ _ _ _ _ _ _ _ _ _ _ _ _ _ _ _ _ _ _ _ _ _ _ _ _ _ _ _ _ _ _ _ _ _).mono ?_); rintro e w1 ⟨rfl, hb⟩; have R1 := row_below hb R1 (by simp); have R2 := row_below hb R2 (by simp); have B := bt B hb; clear hb))
          go_roundw
          case rel => exact ⟨q + 1, by omega, by omega, rfl, R1, R2, B⟩
          case measure => simp [intOf]; omega
        · go_wp2_with (first | (go_at_call 10; (with_reducible refine (awake _ (hT2 _ _)).mono ?_); rintro e w1 ⟨rfl, hb⟩; have R1 := row_below hb (row_of (heap_alloc2_old w _ _)) (by simp); have R2 := row_below hb (row_of (heap_alloc2_new w _ _)) (by simp); have B := below2 hb; clear hb) | (go_at_call 25; (with_reducible refine (decide_any _ _ _ _ _ _ _ _ _ _ _ _ _ _ _ _ _ _ _ _ _ _ _ _ _ _ _ _ _ _ _ _ _ _ _ _ _ _).mono ?_); rintro e w1 ⟨rfl, hb⟩; have R1 := row_below hb R1 (by simp); have R2 := row_below hb R2 (by simp); have B := bt B hb; clear hb) | (go_at_call 27; (with_reducible refine (next_any _ _ _ _ _ _ _ _ _ _ _ _ _ _ _ _ _ _ _ _ _ _ _ _ _ _ _ _ _ _ _ _ _ _ _ _ _ _).mono ?_); rintro e w1 ⟨rfl, hb⟩; have R1 := row_below hb R1 (by simp); have R2 := row_below hb R2 (by simp); have B := bt B hb; clear hb))
          go_ret
          exact ⟨rfl, B⟩
end Go.Proofs.YtdbigfdffphdgaaDoor
