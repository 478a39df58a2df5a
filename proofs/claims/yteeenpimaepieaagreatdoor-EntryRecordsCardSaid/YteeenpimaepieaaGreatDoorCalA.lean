/- Several texts in one: CalA CalB CalC CalD. -/
import Derived.Test.YteeenpimaepieaaGreatDoorChecked
import Derived.Test.YteeenpimaepieaaGreatDoorCal
import Derived.Test.YteeenpimaepieaaGreatDoorKit
section
/- Contracts of the calendar's leaves: leap, first, isDay, lengths and their twins of the reference. -/
namespace Go.Proofs.YteeenpimaepieaaGreatDoor
open Go.RowKit
set_option maxHeartbeats 400000

theorem calleap (y : Int) (w : World) (h0 : 0 ≤ y) (h1 : y ≤ 100000) :
    Calls Tryz.prog 282 #[.int .i64 y] w fun e w' => e = .returned (.bool (Cal.leap y)) ∧ w = w' := by
  go_enter Tryz.func282, Tryz.ntmps282
  go_wp2
  all_goals (go_ret; exact ⟨ret_bool (by simp [Cal.leap, *]), rfl⟩)

theorem refleap (y : Int) (w : World) (h0 : 0 ≤ y) (h1 : y ≤ 100000) :
    Calls Tryz.prog 313 #[.int .i64 y] w fun e w' => e = .returned (.bool (Cal.leap y)) ∧ w = w' := by
  go_enter Tryz.func313, Tryz.ntmps313
  go_wp2
  all_goals (go_ret; exact ⟨ret_bool (by simp [Cal.leap, *]), rfl⟩)

theorem isDay (y : Int) (w : World) :
    Calls Tryz.prog 166 #[.int .i64 y] w fun e w' => e = .returned (.bool (Cal.isDay y)) ∧ w = w' := by
  go_enter Tryz.func166, Tryz.ntmps166
  go_wp2
  all_goals (go_ret; exact ⟨ret_bool (by simp [Cal.isDay]; try omega), rfl⟩)

theorem refIsDay (y : Int) (w : World) :
    Calls Tryz.prog 66 #[.int .i64 y] w fun e w' => e = .returned (.bool (Cal.isDay y)) ∧ w = w' := by
  go_enter Tryz.func66, Tryz.ntmps66
  go_wp2
  all_goals (go_ret; exact ⟨ret_bool (by simp [Cal.isDay]; try omega), rfl⟩)

theorem first (y : Int) (w : World) (h0 : 2000 ≤ y) (h1 : y ≤ 100000) :
    Calls Tryz.prog 241 #[.int .i64 y] w fun e w' => e = .returned (.int .i64 (Cal.first y)) ∧ w = w' := by
  go_enter Tryz.func241, Tryz.ntmps241
  go_wp2
  go_ret
  exact ⟨ret_int (by simp only [Cal.first]), rfl⟩

theorem days (y m : Int) (w : World) (h0 : 0 ≤ y) (h1 : y ≤ 100000) :
    Calls Tryz.prog 304 #[.int .i64 y, .int .i64 m] w fun e w' => e = .returned (.int .i64 (Cal.days y m)) ∧ w = w' := by
  have k2 : (Cal.leap y = true ∧ Cal.lp y = 1) ∨ (Cal.leap y = false ∧ Cal.lp y = 0) := by unfold Cal.lp; cases Cal.leap y <;> simp
  rcases k2 with ⟨k, k2⟩ | ⟨k, k2⟩
  all_goals
    have K := Lib.hid k2
    clear k2
    go_enter Tryz.func304, Tryz.ntmps304
    go_wp2_with (go_at_call 313; refine (refleap _ _ h0 h1).mono ?_; rintro e w' ⟨rfl, rfl⟩)
    all_goals (go_ret; exact ⟨ret_int (by first | (simp [Cal.days, K.out, *]; done) | (have := K.out; simp_all [Cal.days]; done)), rfl⟩)

theorem lengths (y : Int) (w : World) (h0 : 0 ≤ y) (h1 : y ≤ 100000) :
    Calls Tryz.prog 242 #[.int .i64 y] w fun e w' => e = .returned (.agg #[.int .i64 31, .int .i64 (28 + Cal.lp y), .int .i64 31, .int .i64 30, .int .i64 31, .int .i64 30, .int .i64 31, .int .i64 31, .int .i64 30, .int .i64 31, .int .i64 30, .int .i64 31]) ∧ Below w.heap.size w w' := by
  go_enter Tryz.func242, Tryz.ntmps242
  go_wp2_with (go_at_call 282; refine (calleap _ _ h0 h1).mono ?_; rintro e w' ⟨rfl, rfl⟩)
  all_goals
    refine bodyPost_ret (v := .agg #[.int .i64 31, .int .i64 (28 + Cal.lp y), .int .i64 31, .int .i64 30, .int .i64 31, .int .i64 30, .int .i64 31, .int .i64 31, .int .i64 30, .int .i64 31, .int .i64 30, .int .i64 31]) (by simp [results, Tryz.results242, go_sem, Cal.lp, *]) rfl ⟨rfl, ?_⟩
    (repeat (first | exact Below.refl _ _ | assumption | (refine Below.drew ?_) | (refine Below.alloc ?_ (by simp) _) | (refine Below.setCell ?_ (by simp) _)))
end Go.Proofs.YteeenpimaepieaaGreatDoor

end
section
/- Contracts of Date (the program's and the reference's). -/
namespace Go.Proofs.YteeenpimaepieaaGreatDoor
open Go.RowKit
set_option maxHeartbeats 400000

theorem lens_index (y m : Int) (h0 : 0 ≤ m) (h1 : m < 12) (w : World) :
    (Instr.index 258 (.agg #[.int .i64 31, .int .i64 (28 + Cal.lp y), .int .i64 31, .int .i64 30, .int .i64 31, .int .i64 30, .int .i64 31, .int .i64 31, .int .i64 30, .int .i64 31, .int .i64 30, .int .i64 31]) (.int .i64 m)).run Tryz.prog w = .ok (.int .i64 (Cal.days y (m + 1))) w := by
  have i0 : (Instr.index 258 (.agg #[.int .i64 31, .int .i64 (28 + Cal.lp y), .int .i64 31, .int .i64 30, .int .i64 31, .int .i64 30, .int .i64 31, .int .i64 31, .int .i64 30, .int .i64 31, .int .i64 30, .int .i64 31]) (.int .i64 0)).run Tryz.prog w = .ok (.int .i64 (31)) w := by kernel_rfl
  have i1 : (Instr.index 258 (.agg #[.int .i64 31, .int .i64 (28 + Cal.lp y), .int .i64 31, .int .i64 30, .int .i64 31, .int .i64 30, .int .i64 31, .int .i64 31, .int .i64 30, .int .i64 31, .int .i64 30, .int .i64 31]) (.int .i64 1)).run Tryz.prog w = .ok (.int .i64 (28 + Cal.lp y)) w := by kernel_rfl
  have i2 : (Instr.index 258 (.agg #[.int .i64 31, .int .i64 (28 + Cal.lp y), .int .i64 31, .int .i64 30, .int .i64 31, .int .i64 30, .int .i64 31, .int .i64 31, .int .i64 30, .int .i64 31, .int .i64 30, .int .i64 31]) (.int .i64 2)).run Tryz.prog w = .ok (.int .i64 (31)) w := by kernel_rfl
  have i3 : (Instr.index 258 (.agg #[.int .i64 31, .int .i64 (28 + Cal.lp y), .int .i64 31, .int .i64 30, .int .i64 31, .int .i64 30, .int .i64 31, .int .i64 31, .int .i64 30, .int .i64 31, .int .i64 30, .int .i64 31]) (.int .i64 3)).run Tryz.prog w = .ok (.int .i64 (30)) w := by kernel_rfl
  have i4 : (Instr.index 258 (.agg #[.int .i64 31, .int .i64 (28 + Cal.lp y), .int .i64 31, .int .i64 30, .int .i64 31, .int .i64 30, .int .i64 31, .int .i64 31, .int .i64 30, .int .i64 31, .int .i64 30, .int .i64 31]) (.int .i64 4)).run Tryz.prog w = .ok (.int .i64 (31)) w := by kernel_rfl
  have i5 : (Instr.index 258 (.agg #[.int .i64 31, .int .i64 (28 + Cal.lp y), .int .i64 31, .int .i64 30, .int .i64 31, .int .i64 30, .int .i64 31, .int .i64 31, .int .i64 30, .int .i64 31, .int .i64 30, .int .i64 31]) (.int .i64 5)).run Tryz.prog w = .ok (.int .i64 (30)) w := by kernel_rfl
  have i6 : (Instr.index 258 (.agg #[.int .i64 31, .int .i64 (28 + Cal.lp y), .int .i64 31, .int .i64 30, .int .i64 31, .int .i64 30, .int .i64 31, .int .i64 31, .int .i64 30, .int .i64 31, .int .i64 30, .int .i64 31]) (.int .i64 6)).run Tryz.prog w = .ok (.int .i64 (31)) w := by kernel_rfl
  have i7 : (Instr.index 258 (.agg #[.int .i64 31, .int .i64 (28 + Cal.lp y), .int .i64 31, .int .i64 30, .int .i64 31, .int .i64 30, .int .i64 31, .int .i64 31, .int .i64 30, .int .i64 31, .int .i64 30, .int .i64 31]) (.int .i64 7)).run Tryz.prog w = .ok (.int .i64 (31)) w := by kernel_rfl
  have i8 : (Instr.index 258 (.agg #[.int .i64 31, .int .i64 (28 + Cal.lp y), .int .i64 31, .int .i64 30, .int .i64 31, .int .i64 30, .int .i64 31, .int .i64 31, .int .i64 30, .int .i64 31, .int .i64 30, .int .i64 31]) (.int .i64 8)).run Tryz.prog w = .ok (.int .i64 (30)) w := by kernel_rfl
  have i9 : (Instr.index 258 (.agg #[.int .i64 31, .int .i64 (28 + Cal.lp y), .int .i64 31, .int .i64 30, .int .i64 31, .int .i64 30, .int .i64 31, .int .i64 31, .int .i64 30, .int .i64 31, .int .i64 30, .int .i64 31]) (.int .i64 9)).run Tryz.prog w = .ok (.int .i64 (31)) w := by kernel_rfl
  have i10 : (Instr.index 258 (.agg #[.int .i64 31, .int .i64 (28 + Cal.lp y), .int .i64 31, .int .i64 30, .int .i64 31, .int .i64 30, .int .i64 31, .int .i64 31, .int .i64 30, .int .i64 31, .int .i64 30, .int .i64 31]) (.int .i64 10)).run Tryz.prog w = .ok (.int .i64 (30)) w := by kernel_rfl
  have i11 : (Instr.index 258 (.agg #[.int .i64 31, .int .i64 (28 + Cal.lp y), .int .i64 31, .int .i64 30, .int .i64 31, .int .i64 30, .int .i64 31, .int .i64 31, .int .i64 30, .int .i64 31, .int .i64 30, .int .i64 31]) (.int .i64 11)).run Tryz.prog w = .ok (.int .i64 (31)) w := by kernel_rfl
  have : m = 0 ∨ m = 1 ∨ m = 2 ∨ m = 3 ∨ m = 4 ∨ m = 5 ∨ m = 6 ∨ m = 7 ∨ m = 8 ∨ m = 9 ∨ m = 10 ∨ m = 11 := by omega
  rcases this with rfl | rfl | rfl | rfl | rfl | rfl | rfl | rfl | rfl | rfl | rfl | rfl
  · rw [i0]; simp [Cal.days]
  · rw [i1]; simp [Cal.days]
  · rw [i2]; simp [Cal.days]
  · rw [i3]; simp [Cal.days]
  · rw [i4]; simp [Cal.days]
  · rw [i5]; simp [Cal.days]
  · rw [i6]; simp [Cal.days]
  · rw [i7]; simp [Cal.days]
  · rw [i8]; simp [Cal.days]
  · rw [i9]; simp [Cal.days]
  · rw [i10]; simp [Cal.days]
  · rw [i11]; simp [Cal.days]

theorem date_no (n : Int) (w : World) (h : Cal.isDay n = false) :
    Calls Tryz.prog 167 #[.int .i64 n] w fun e w' => e = .returned (.tuple #[.int .i64 0, .int .i64 0, .int .i64 0]) ∧ Below w.heap.size w w' := by
  go_enter Tryz.func167, Tryz.ntmps167
  go_wp2_with (go_at_call 166; (with_reducible refine (isDay _ _).mono ?_); rintro e w' ⟨rfl, rfl⟩)
  go_ret3
  exact ⟨rfl, Below.refl _ _⟩

theorem date_yes (n : Int) (w : World) (h : Cal.isDay n = true) :
    Calls Tryz.prog 167 #[.int .i64 n] w fun e w' => e = .returned (.tuple #[.int .i64 (Cal.dY n), .int .i64 (Cal.dM n), .int .i64 (Cal.dD n)]) ∧ Below w.heap.size w w' := by
  obtain ⟨h0, h1⟩ := (Cal.isDay_iff n).1 h
  have g0 := Cal.first_guess n h0
  go_enter Tryz.func167, Tryz.ntmps167
  go_wp2_with (go_at_call 166; (with_reducible refine (isDay _ _).mono ?_); rintro e w' ⟨rfl, rfl⟩)
  go_loop [5] (fun t => ∃ y : Int, 2000 ≤ y ∧ y ≤ 2180 ∧ Cal.first y ≤ n ∧ t = .int .i64 y) (fun t => (3000 - intOf t).toNat)
  case atStart => exact ⟨_, by omega, by omega, g0, rfl⟩
  case round =>
    obtain ⟨y, hy1, hy2, hy3, rfl⟩ := hrel
    have f1 := Cal.first_bd y hy1 (by omega)
    have f2 := Cal.first_bd (y + 1) (by omega) (by omega)
    have f3 := Cal.first_succ y
    have f4 := Cal.lp_01 y
    have f5 := Cal.first_bd 2180 (by omega) (by omega)
    have F3 := Lib.hid f3
    clear f3 g0
    by_cases hc : Cal.first (y + 1) ≤ n
    · go_wp2_with (go_at_call 241; (with_reducible refine (first _ _ (by omega) (by omega)).mono ?_); rintro e w' ⟨rfl, rfl⟩)
      go_round
      case rel => 
        have : y ≠ 2180 := by
          rintro rfl
          have e : Cal.first (2180 + 1) = 66110 := by decide
          omega
        exact ⟨y + 1, by omega, by omega, hc, rfl⟩
      case measure => simp [intOf]; omega
    · go_wp2_with (first | (go_at_call 241; (with_reducible refine (first _ _ (by omega) (by omega)).mono ?_); rintro e w' ⟨rfl, rfl⟩) | (go_at_call 242; (with_reducible refine (lengths _ _ (by omega) (by omega)).mono ?_); rintro e w1 ⟨rfl, hb⟩))
      have v1 := Cal.cum_1 y
      have nn : Cal.isDay n = true := h
      have HB := Lib.hid hb; clear hb h
      go_loop [0, 27] (fun d k => ∃ m : Int, 0 ≤ m ∧ m ≤ 12 ∧ k = .int .i64 m ∧ 0 ≤ n - Cal.first y - Cal.cum y (m + 1) ∧ d = .int .i64 (n - Cal.first y - Cal.cum y (m + 1))) (fun _ k => (12 - intOf k).toNat)
      case atStart => exact ⟨0, by omega, by omega, rfl, by simp only [Int.zero_add, v1]; omega, by simp only [Int.zero_add, v1, Int.sub_zero]⟩
      case round =>
        obtain ⟨m, hm0, hm1, rfl, hr, rfl⟩ := hrel
        clear v1
        by_cases hm : m < 12
        · have hi := fun w => lens_index y m hm0 hm w
          have cs := Cal.cum_succ y (m + 1) (by omega) (by omega)
          have dl := Cal.days_lo y (m + 1)
          have cn := Cal.cum_nonneg y (m + 1) (by omega) (by omega)
          by_cases hd : n - Cal.first y - Cal.cum y (m + 1) < Cal.days y (m + 1)
          · have H := Lib.hid cs; clear cs
            go_wp2
            go_ret3
            have hdi := Cal.date_is n y (m + 1) (n - Cal.first y - Cal.cum y (m + 1) + 1) nn ⟨by omega, by omega, by omega, by omega⟩ (by unfold Cal.num; omega)
            exact ⟨ret3 hdi.1.symm hdi.2.1.symm hdi.2.2.symm, HB.out⟩
          · have H := Lib.hid cs; clear cs
            go_wp2
            go_round
            case rel => exact ⟨m + 1, by omega, by omega, rfl, by rw [H.out]; omega, by rw [H.out]; go_num⟩
            case measure => simp [intOf]; omega
        · exfalso
          obtain rfl : m = 12 := by omega
          have e : Cal.cum y (12 + 1) = 365 + Cal.lp y := Cal.cum_13 y
          have := F3.out
          omega

theorem refdate_no (n : Int) (w : World) (h : Cal.isDay n = false) :
    Calls Tryz.prog 283 #[.int .i64 n] w fun e w' => e = .returned (.tuple #[.int .i64 0, .int .i64 0, .int .i64 0]) ∧ Below w.heap.size w w' := by
  go_enter Tryz.func283, Tryz.ntmps283
  go_wp2_with (go_at_call 66; (with_reducible refine (refIsDay _ _).mono ?_); rintro e w' ⟨rfl, rfl⟩)
  go_ret3
  exact ⟨rfl, Below.refl _ _⟩

theorem year_bd (n y m : Int) (h : n ≤ 65536) (_h0 : 2000 ≤ y) (hm : 0 ≤ Cal.cum y m) (k : Cal.first y + Cal.cum y m ≤ n) : y ≤ 2179 := by
  rcases Int.lt_or_le 2179 y with c | c
  · have : Cal.first 2180 ≤ Cal.first y := by
      rcases Int.lt_or_le 2180 y with c' | c'
      · have := Cal.first_mono 2180 y c'; have := Cal.lp_01 2180; omega
      · have : y = 2180 := by omega
        rw [this]; omega
    have e : Cal.first 2180 = 65744 := by decide
    omega
  · exact c

theorem refdate_yes (n : Int) (w : World) (h : Cal.isDay n = true) :
    Calls Tryz.prog 283 #[.int .i64 n] w fun e w' => e = .returned (.tuple #[.int .i64 (Cal.dY n), .int .i64 (Cal.dM n), .int .i64 (Cal.dD n)]) ∧ Below w.heap.size w w' := by
  obtain ⟨h0, h1⟩ := (Cal.isDay_iff n).1 h
  go_enter Tryz.func283, Tryz.ntmps283
  go_wp2_with (go_at_call 66; (with_reducible refine (refIsDay _ _).mono ?_); rintro e w' ⟨rfl, rfl⟩)
  go_loop [0, 5, 6] (fun d a b => ∃ y m : Int, 2000 ≤ y ∧ 1 ≤ m ∧ m ≤ 12 ∧ Cal.first y + Cal.cum y m ≤ n ∧ a = .int .i64 y ∧ b = .int .i64 m ∧ d = .int .i64 (n - (Cal.first y + Cal.cum y m))) (fun d _ _ => (intOf d).toNat)
  case atStart =>
    have e : Cal.first 2000 + Cal.cum 2000 1 = 0 := by decide
    exact ⟨2000, 1, by omega, by omega, by omega, by omega, rfl, rfl, by rw [e, Int.sub_zero]⟩
  case round =>
    obtain ⟨y, m, hy, hm1, hm2, hn, rfl, rfl, rfl⟩ := hrel
    have c0 := Cal.cum_nonneg y m hm1 hm2
    have yb := year_bd n y m h1 hy c0 hn
    have f1 := Cal.first_bd y hy (by omega)
    have dl := Cal.days_lo y m
    have NN := Lib.hid h
    have cs := Lib.hid (Cal.cum_succ y m hm1 hm2)
    clear h
    by_cases hd : n - (Cal.first y + Cal.cum y m) < Cal.days y m
    · go_wp2_with (go_at_call 304; (with_reducible refine (days _ _ _ (by omega) (by omega)).mono ?_); rintro e w' ⟨rfl, rfl⟩)
      go_ret3
      have hdi := Cal.date_is n y m (n - (Cal.first y + Cal.cum y m) + 1) NN.out ⟨by omega, by omega, by omega, by omega⟩ (by unfold Cal.num; omega)
      exact ⟨ret3 hdi.1.symm hdi.2.1.symm hdi.2.2.symm, Below.refl _ _⟩
    · by_cases hm : m < 12
      · go_wp2_with (go_at_call 304; (with_reducible refine (days _ _ _ (by omega) (by omega)).mono ?_); rintro e w' ⟨rfl, rfl⟩)
        go_round
        case rel => 
          have e : n - (Cal.first y + Cal.cum y m) - Cal.days y m = n - (Cal.first y + Cal.cum y (m + 1)) := by rw [cs.out]; omega
          exact ⟨y, m + 1, by omega, by omega, by omega, by rw [cs.out]; omega, rfl, rfl, by rw [e]⟩
        case measure => simp [intOf]; omega
      · obtain rfl : m = 12 := by omega
        go_wp2_with (go_at_call 304; (with_reducible refine (days _ _ _ (by omega) (by omega)).mono ?_); rintro e w' ⟨rfl, rfl⟩)
        go_round
        case rel => 
          have e1 : Cal.cum y (12 + 1) = 365 + Cal.lp y := Cal.cum_13 y
          have e2 := Cal.cum_1 (y + 1)
          have e3 := Cal.first_succ y
          have e4 := cs.out
          have e : n - (Cal.first y + Cal.cum y 12) - Cal.days y 12 = n - (Cal.first (y + 1) + Cal.cum (y + 1) 1) := by omega
          exact ⟨y + 1, 1, by omega, by omega, by omega, by omega, rfl, rfl, by rw [e]⟩
        case measure => simp [intOf]; omega

theorem lens_get (y m : Int) (h0 : 1 ≤ m) (h1 : m ≤ 12) : ([.int .i64 31, .int .i64 (28 + Cal.lp y), .int .i64 31, .int .i64 30, .int .i64 31, .int .i64 30, .int .i64 31, .int .i64 31, .int .i64 30, .int .i64 31, .int .i64 30, .int .i64 31] : List Value)[m.toNat - 1]? = some (.int .i64 (Cal.days y m)) := by
  have : m = 1 ∨ m = 2 ∨ m = 3 ∨ m = 4 ∨ m = 5 ∨ m = 6 ∨ m = 7 ∨ m = 8 ∨ m = 9 ∨ m = 10 ∨ m = 11 ∨ m = 12 := by omega
  rcases this with rfl | rfl | rfl | rfl | rfl | rfl | rfl | rfl | rfl | rfl | rfl | rfl <;> simp [Cal.days]

theorem lens_at (y : Int) (k : Nat) (h1 : k < 12) : ([.int .i64 31, .int .i64 (28 + Cal.lp y), .int .i64 31, .int .i64 30, .int .i64 31, .int .i64 30, .int .i64 31, .int .i64 31, .int .i64 30, .int .i64 31, .int .i64 30, .int .i64 31] : List Value)[k]? = some (.int .i64 (Cal.days y (k + 1))) := by
  have := lens_get y (k + 1) (by omega) (by omega)
  have e : ((k : Int) + 1).toNat - 1 = k := by omega
  rwa [e] at this

end Go.Proofs.YteeenpimaepieaaGreatDoor

end
section
/- Contracts of the reference's Day. -/
namespace Go.Proofs.YteeenpimaepieaaGreatDoor
open Go.RowKit
set_option maxHeartbeats 400000

end Go.Proofs.YteeenpimaepieaaGreatDoor

end
section
/- Contracts of AddMonths and Weekday (the program's and the reference's). -/
namespace Go.Proofs.YteeenpimaepieaaGreatDoor
open Go.RowKit
set_option maxHeartbeats 400000

theorem date_any (n : Int) (w : World) :
    Calls Tryz.prog 167 #[.int .i64 n] w fun e w' => e = .returned (.tuple #[.int .i64 (Cal.dY n), .int .i64 (Cal.dM n), .int .i64 (Cal.dD n)]) ∧ Below w.heap.size w w' := by
  cases h : Cal.isDay n with
  | true => exact date_yes n w h
  | false => have k := Cal.date_no n h; rw [k.1, k.2.1, k.2.2]; exact date_no n w h
theorem refdate_any (n : Int) (w : World) :
    Calls Tryz.prog 283 #[.int .i64 n] w fun e w' => e = .returned (.tuple #[.int .i64 (Cal.dY n), .int .i64 (Cal.dM n), .int .i64 (Cal.dD n)]) ∧ Below w.heap.size w w' := by
  cases h : Cal.isDay n with
  | true => exact refdate_yes n w h
  | false => have k := Cal.date_no n h; rw [k.1, k.2.1, k.2.2]; exact refdate_no n w h

end Go.Proofs.YteeenpimaepieaaGreatDoor

end
