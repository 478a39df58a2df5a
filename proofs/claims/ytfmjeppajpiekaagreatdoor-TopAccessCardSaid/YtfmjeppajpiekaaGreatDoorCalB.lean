/- Contracts of Date (the program's and the reference's). -/
import Derived.Test.YtfmjeppajpiekaaGreatDoorCalA
namespace Go.Proofs.YtfmjeppajpiekaaGreatDoor
open Go.RowKit
set_option maxHeartbeats 400000

theorem lens_index (y m : Int) (h0 : 0 ≤ m) (h1 : m < 12) (w : World) :
    (Instr.index 241 (.agg #[.int .i64 31, .int .i64 (28 + Cal.lp y), .int .i64 31, .int .i64 30, .int .i64 31, .int .i64 30, .int .i64 31, .int .i64 31, .int .i64 30, .int .i64 31, .int .i64 30, .int .i64 31]) (.int .i64 m)).run Tryz.prog w = .ok (.int .i64 (Cal.days y (m + 1))) w := by
  have i0 : (Instr.index 241 (.agg #[.int .i64 31, .int .i64 (28 + Cal.lp y), .int .i64 31, .int .i64 30, .int .i64 31, .int .i64 30, .int .i64 31, .int .i64 31, .int .i64 30, .int .i64 31, .int .i64 30, .int .i64 31]) (.int .i64 0)).run Tryz.prog w = .ok (.int .i64 (31)) w := by kernel_rfl
  have i1 : (Instr.index 241 (.agg #[.int .i64 31, .int .i64 (28 + Cal.lp y), .int .i64 31, .int .i64 30, .int .i64 31, .int .i64 30, .int .i64 31, .int .i64 31, .int .i64 30, .int .i64 31, .int .i64 30, .int .i64 31]) (.int .i64 1)).run Tryz.prog w = .ok (.int .i64 (28 + Cal.lp y)) w := by kernel_rfl
  have i2 : (Instr.index 241 (.agg #[.int .i64 31, .int .i64 (28 + Cal.lp y), .int .i64 31, .int .i64 30, .int .i64 31, .int .i64 30, .int .i64 31, .int .i64 31, .int .i64 30, .int .i64 31, .int .i64 30, .int .i64 31]) (.int .i64 2)).run Tryz.prog w = .ok (.int .i64 (31)) w := by kernel_rfl
  have i3 : (Instr.index 241 (.agg #[.int .i64 31, .int .i64 (28 + Cal.lp y), .int .i64 31, .int .i64 30, .int .i64 31, .int .i64 30, .int .i64 31, .int .i64 31, .int .i64 30, .int .i64 31, .int .i64 30, .int .i64 31]) (.int .i64 3)).run Tryz.prog w = .ok (.int .i64 (30)) w := by kernel_rfl
  have i4 : (Instr.index 241 (.agg #[.int .i64 31, .int .i64 (28 + Cal.lp y), .int .i64 31, .int .i64 30, .int .i64 31, .int .i64 30, .int .i64 31, .int .i64 31, .int .i64 30, .int .i64 31, .int .i64 30, .int .i64 31]) (.int .i64 4)).run Tryz.prog w = .ok (.int .i64 (31)) w := by kernel_rfl
  have i5 : (Instr.index 241 (.agg #[.int .i64 31, .int .i64 (28 + Cal.lp y), .int .i64 31, .int .i64 30, .int .i64 31, .int .i64 30, .int .i64 31, .int .i64 31, .int .i64 30, .int .i64 31, .int .i64 30, .int .i64 31]) (.int .i64 5)).run Tryz.prog w = .ok (.int .i64 (30)) w := by kernel_rfl
  have i6 : (Instr.index 241 (.agg #[.int .i64 31, .int .i64 (28 + Cal.lp y), .int .i64 31, .int .i64 30, .int .i64 31, .int .i64 30, .int .i64 31, .int .i64 31, .int .i64 30, .int .i64 31, .int .i64 30, .int .i64 31]) (.int .i64 6)).run Tryz.prog w = .ok (.int .i64 (31)) w := by kernel_rfl
  have i7 : (Instr.index 241 (.agg #[.int .i64 31, .int .i64 (28 + Cal.lp y), .int .i64 31, .int .i64 30, .int .i64 31, .int .i64 30, .int .i64 31, .int .i64 31, .int .i64 30, .int .i64 31, .int .i64 30, .int .i64 31]) (.int .i64 7)).run Tryz.prog w = .ok (.int .i64 (31)) w := by kernel_rfl
  have i8 : (Instr.index 241 (.agg #[.int .i64 31, .int .i64 (28 + Cal.lp y), .int .i64 31, .int .i64 30, .int .i64 31, .int .i64 30, .int .i64 31, .int .i64 31, .int .i64 30, .int .i64 31, .int .i64 30, .int .i64 31]) (.int .i64 8)).run Tryz.prog w = .ok (.int .i64 (30)) w := by kernel_rfl
  have i9 : (Instr.index 241 (.agg #[.int .i64 31, .int .i64 (28 + Cal.lp y), .int .i64 31, .int .i64 30, .int .i64 31, .int .i64 30, .int .i64 31, .int .i64 31, .int .i64 30, .int .i64 31, .int .i64 30, .int .i64 31]) (.int .i64 9)).run Tryz.prog w = .ok (.int .i64 (31)) w := by kernel_rfl
  have i10 : (Instr.index 241 (.agg #[.int .i64 31, .int .i64 (28 + Cal.lp y), .int .i64 31, .int .i64 30, .int .i64 31, .int .i64 30, .int .i64 31, .int .i64 31, .int .i64 30, .int .i64 31, .int .i64 30, .int .i64 31]) (.int .i64 10)).run Tryz.prog w = .ok (.int .i64 (30)) w := by kernel_rfl
  have i11 : (Instr.index 241 (.agg #[.int .i64 31, .int .i64 (28 + Cal.lp y), .int .i64 31, .int .i64 30, .int .i64 31, .int .i64 30, .int .i64 31, .int .i64 31, .int .i64 30, .int .i64 31, .int .i64 30, .int .i64 31]) (.int .i64 11)).run Tryz.prog w = .ok (.int .i64 (31)) w := by kernel_rfl
  have : m = 0 ∨ m = 1 ∨ m = 2 ∨ m = 3 ∨ m = 4 ∨ m = 5 ∨ m = 6 ∨ m = 7 ∨ m = 8 ∨ m = 9 ∨ m = 10 ∨ m = 11 := by omega
  rcases this with rfl | rfl | rfl | rfl | rfl | rfl | rfl | rfl | rfl | rfl | rfl | rfl
  · rw [i0]; simp [Cal.days]
  · rw [i1]; simp [Cal.days]
  · rw [i2]; simp [Cal.days]
  · rw [i3]; simp [Cal.days]
  · rw [i4]; simp [Cal.days]
  · rw [i5]; simp [Cal.days]
  · rw [i6]; simp [Cal.days]
  · rw [i7]; simp [Cal.days]
  · rw [i8]; simp [Cal.days]
  · rw [i9]; simp [Cal.days]
  · rw [i10]; simp [Cal.days]
  · rw [i11]; simp [Cal.days]

theorem date_no (n : Int) (w : World) (h : Cal.isDay n = false) :
    Calls Tryz.prog 171 #[.int .i64 n] w fun e w' => e = .returned (.tuple #[.int .i64 0, .int .i64 0, .int .i64 0]) ∧ Below w.heap.size w w' := by
  go_enter Tryz.func171, Tryz.ntmps171
  go_wp2_with (go_at_call 170; (with_reducible refine (isDay _ _).mono ?_); rintro e w' ⟨rfl, rfl⟩)
  go_ret3
  exact ⟨rfl, Below.refl _ _⟩

theorem date_yes (n : Int) (w : World) (h : Cal.isDay n = true) :
    Calls Tryz.prog 171 #[.int .i64 n] w fun e w' => e = .returned (.tuple #[.int .i64 (Cal.dY n), .int .i64 (Cal.dM n), .int .i64 (Cal.dD n)]) ∧ Below w.heap.size w w' := by
  obtain ⟨h0, h1⟩ := (Cal.isDay_iff n).1 h
  have g0 := Cal.first_guess n h0
  go_enter Tryz.func171, Tryz.ntmps171
  go_wp2_with (go_at_call 170; (with_reducible refine (isDay _ _).mono ?_); rintro e w' ⟨rfl, rfl⟩)
  go_loop [5] (fun t => ∃ y : Int, 2000 ≤ y ∧ y ≤ 2180 ∧ Cal.first y ≤ n ∧ t = .int .i64 y) (fun t => (3000 - intOf t).toNat)
  case atStart => exact ⟨_, by omega, by omega, g0, rfl⟩
  case round =>
    obtain ⟨y, hy1, hy2, hy3, rfl⟩ := hrel
    have f1 := Cal.first_bd y hy1 (by omega)
    have f2 := Cal.first_bd (y + 1) (by omega) (by omega)
    have f3 := Cal.first_succ y
    have f4 := Cal.lp_01 y
    have f5 := Cal.first_bd 2180 (by omega) (by omega)
    have F3 := Lib.hid f3
    clear f3 g0
    by_cases hc : Cal.first (y + 1) ≤ n
    · go_wp2_with (go_at_call 229; (with_reducible refine (first _ _ (by omega) (by omega)).mono ?_); rintro e w' ⟨rfl, rfl⟩)
      go_round
      case rel => 
        have : y ≠ 2180 := by
          rintro rfl
          have e : Cal.first (2180 + 1) = 66110 := by decide
          omega
        exact ⟨y + 1, by omega, by omega, hc, rfl⟩
      case measure => simp [intOf]; omega
    · go_wp2_with (first | (go_at_call 229; (with_reducible refine (first _ _ (by omega) (by omega)).mono ?_); rintro e w' ⟨rfl, rfl⟩) | (go_at_call 230; (with_reducible refine (lengths _ _ (by omega) (by omega)).mono ?_); rintro e w1 ⟨rfl, hb⟩))
      have v1 := Cal.cum_1 y
      have nn : Cal.isDay n = true := h
      have HB := Lib.hid hb; clear hb h
      go_loop [0, 27] (fun d k => ∃ m : Int, 0 ≤ m ∧ m ≤ 12 ∧ k = .int .i64 m ∧ 0 ≤ n - Cal.first y - Cal.cum y (m + 1) ∧ d = .int .i64 (n - Cal.first y - Cal.cum y (m + 1))) (fun _ k => (12 - intOf k).toNat)
      case atStart => exact ⟨0, by omega, by omega, rfl, by simp only [Int.zero_add, v1]; omega, by simp only [Int.zero_add, v1, Int.sub_zero]⟩
      case round =>
        obtain ⟨m, hm0, hm1, rfl, hr, rfl⟩ := hrel
        clear v1
        by_cases hm : m < 12
        · have hi := fun w => lens_index y m hm0 hm w
          have cs := Cal.cum_succ y (m + 1) (by omega) (by omega)
          have dl := Cal.days_lo y (m + 1)
          have cn := Cal.cum_nonneg y (m + 1) (by omega) (by omega)
          by_cases hd : n - Cal.first y - Cal.cum y (m + 1) < Cal.days y (m + 1)
          · have H := Lib.hid cs; clear cs
            go_wp2
            go_ret3
            have hdi := Cal.date_is n y (m + 1) (n - Cal.first y - Cal.cum y (m + 1) + 1) nn ⟨by omega, by omega, by omega, by omega⟩ (by unfold Cal.num; omega)
            exact ⟨ret3 hdi.1.symm hdi.2.1.symm hdi.2.2.symm, HB.out⟩
          · have H := Lib.hid cs; clear cs
            go_wp2
            go_round
            case rel => exact ⟨m + 1, by omega, by omega, rfl, by rw [H.out]; omega, by rw [H.out]; go_num⟩
            case measure => simp [intOf]; omega
        · exfalso
          obtain rfl : m = 12 := by omega
          have e : Cal.cum y (12 + 1) = 365 + Cal.lp y := Cal.cum_13 y
          have := F3.out
          omega

theorem refdate_no (n : Int) (w : World) (h : Cal.isDay n = false) :
    Calls Tryz.prog 259 #[.int .i64 n] w fun e w' => e = .returned (.tuple #[.int .i64 0, .int .i64 0, .int .i64 0]) ∧ Below w.heap.size w w' := by
  go_enter Tryz.func259, Tryz.ntmps259
  go_wp2_with (go_at_call 66; (with_reducible refine (refIsDay _ _).mono ?_); rintro e w' ⟨rfl, rfl⟩)
  go_ret3
  exact ⟨rfl, Below.refl _ _⟩

theorem year_bd (n y m : Int) (h : n ≤ 65536) (_h0 : 2000 ≤ y) (hm : 0 ≤ Cal.cum y m) (k : Cal.first y + Cal.cum y m ≤ n) : y ≤ 2179 := by
  rcases Int.lt_or_le 2179 y with c | c
  · have : Cal.first 2180 ≤ Cal.first y := by
      rcases Int.lt_or_le 2180 y with c' | c'
      · have := Cal.first_mono 2180 y c'; have := Cal.lp_01 2180; omega
      · have : y = 2180 := by omega
        rw [this]; omega
    have e : Cal.first 2180 = 65744 := by decide
    omega
  · exact c

theorem refdate_yes (n : Int) (w : World) (h : Cal.isDay n = true) :
    Calls Tryz.prog 259 #[.int .i64 n] w fun e w' => e = .returned (.tuple #[.int .i64 (Cal.dY n), .int .i64 (Cal.dM n), .int .i64 (Cal.dD n)]) ∧ Below w.heap.size w w' := by
  obtain ⟨h0, h1⟩ := (Cal.isDay_iff n).1 h
  go_enter Tryz.func259, Tryz.ntmps259
  go_wp2_with (go_at_call 66; (with_reducible refine (refIsDay _ _).mono ?_); rintro e w' ⟨rfl, rfl⟩)
  go_loop [0, 5, 6] (fun d a b => ∃ y m : Int, 2000 ≤ y ∧ 1 ≤ m ∧ m ≤ 12 ∧ Cal.first y + Cal.cum y m ≤ n ∧ a = .int .i64 y ∧ b = .int .i64 m ∧ d = .int .i64 (n - (Cal.first y + Cal.cum y m))) (fun d _ _ => (intOf d).toNat)
  case atStart =>
    have e : Cal.first 2000 + Cal.cum 2000 1 = 0 := by decide
    exact ⟨2000, 1, by omega, by omega, by omega, by omega, rfl, rfl, by rw [e, Int.sub_zero]⟩
  case round =>
    obtain ⟨y, m, hy, hm1, hm2, hn, rfl, rfl, rfl⟩ := hrel
    have c0 := Cal.cum_nonneg y m hm1 hm2
    have yb := year_bd n y m h1 hy c0 hn
    have f1 := Cal.first_bd y hy (by omega)
    have dl := Cal.days_lo y m
    have NN := Lib.hid h
    have cs := Lib.hid (Cal.cum_succ y m hm1 hm2)
    clear h
    by_cases hd : n - (Cal.first y + Cal.cum y m) < Cal.days y m
    · go_wp2_with (go_at_call 275; (with_reducible refine (days _ _ _ (by omega) (by omega)).mono ?_); rintro e w' ⟨rfl, rfl⟩)
      go_ret3
      have hdi := Cal.date_is n y m (n - (Cal.first y + Cal.cum y m) + 1) NN.out ⟨by omega, by omega, by omega, by omega⟩ (by unfold Cal.num; omega)
      exact ⟨ret3 hdi.1.symm hdi.2.1.symm hdi.2.2.symm, Below.refl _ _⟩
    · by_cases hm : m < 12
      · go_wp2_with (go_at_call 275; (with_reducible refine (days _ _ _ (by omega) (by omega)).mono ?_); rintro e w' ⟨rfl, rfl⟩)
        go_round
        case rel => 
          have e : n - (Cal.first y + Cal.cum y m) - Cal.days y m = n - (Cal.first y + Cal.cum y (m + 1)) := by rw [cs.out]; omega
          exact ⟨y, m + 1, by omega, by omega, by omega, by rw [cs.out]; omega, rfl, rfl, by rw [e]⟩
        case measure => simp [intOf]; omega
      · obtain rfl : m = 12 := by omega
        go_wp2_with (go_at_call 275; (with_reducible refine (days _ _ _ (by omega) (by omega)).mono ?_); rintro e w' ⟨rfl, rfl⟩)
        go_round
        case rel => 
          have e1 : Cal.cum y (12 + 1) = 365 + Cal.lp y := Cal.cum_13 y
          have e2 := Cal.cum_1 (y + 1)
          have e3 := Cal.first_succ y
          have e4 := cs.out
          have e : n - (Cal.first y + Cal.cum y 12) - Cal.days y 12 = n - (Cal.first (y + 1) + Cal.cum (y + 1) 1) := by omega
          exact ⟨y + 1, 1, by omega, by omega, by omega, by omega, rfl, rfl, by rw [e]⟩
        case measure => simp [intOf]; omega

theorem lens_get (y m : Int) (h0 : 1 ≤ m) (h1 : m ≤ 12) : ([.int .i64 31, .int .i64 (28 + Cal.lp y), .int .i64 31, .int .i64 30, .int .i64 31, .int .i64 30, .int .i64 31, .int .i64 31, .int .i64 30, .int .i64 31, .int .i64 30, .int .i64 31] : List Value)[m.toNat - 1]? = some (.int .i64 (Cal.days y m)) := by
  have : m = 1 ∨ m = 2 ∨ m = 3 ∨ m = 4 ∨ m = 5 ∨ m = 6 ∨ m = 7 ∨ m = 8 ∨ m = 9 ∨ m = 10 ∨ m = 11 ∨ m = 12 := by omega
  rcases this with rfl | rfl | rfl | rfl | rfl | rfl | rfl | rfl | rfl | rfl | rfl | rfl <;> simp [Cal.days]

theorem lens_at (y : Int) (k : Nat) (h1 : k < 12) : ([.int .i64 31, .int .i64 (28 + Cal.lp y), .int .i64 31, .int .i64 30, .int .i64 31, .int .i64 30, .int .i64 31, .int .i64 31, .int .i64 30, .int .i64 31, .int .i64 30, .int .i64 31] : List Value)[k]? = some (.int .i64 (Cal.days y (k + 1))) := by
  have := lens_get y (k + 1) (by omega) (by omega)
  have e : ((k : Int) + 1).toNat - 1 = k := by omega
  rwa [e] at this

end Go.Proofs.YtfmjeppajpiekaaGreatDoor
