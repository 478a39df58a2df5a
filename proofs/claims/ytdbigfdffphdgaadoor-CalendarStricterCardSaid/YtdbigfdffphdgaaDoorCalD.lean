/- Contracts of AddMonths and Weekday (the program's and the reference's). -/
import Derived.Test.YtdbigfdffphdgaaDoorCalC
namespace Go.Proofs.YtdbigfdffphdgaaDoor
open Go.RowKit
set_option maxHeartbeats 400000

theorem date_any (n : Int) (w : World) :
    Calls Tryd.prog 11 #[.int .i64 n] w fun e w' => e = .returned (.tuple #[.int .i64 (Cal.dY n), .int .i64 (Cal.dM n), .int .i64 (Cal.dD n)]) ∧ Below w.heap.size w w' := by
  cases h : Cal.isDay n with
  | true => exact date_yes n w h
  | false => have k := Cal.date_no n h; rw [k.1, k.2.1, k.2.2]; exact date_no n w h
theorem refdate_any (n : Int) (w : World) :
    Calls Tryd.prog 12 #[.int .i64 n] w fun e w' => e = .returned (.tuple #[.int .i64 (Cal.dY n), .int .i64 (Cal.dM n), .int .i64 (Cal.dD n)]) ∧ Below w.heap.size w w' := by
  cases h : Cal.isDay n with
  | true => exact refdate_yes n w h
  | false => have k := Cal.date_no n h; rw [k.1, k.2.1, k.2.2]; exact refdate_no n w h

theorem weekday (n : Int) (w : World) :
    Calls Tryd.prog 19 #[.int .i64 n] w fun e w' => e = .returned (.int .i64 (Cal.wday n)) ∧ w = w' := by
  cases h : Cal.isDay n with
  | true =>
    have hh := (Cal.isDay_iff n).1 h
    go_enter Tryd.func19, Tryd.ntmps19
    go_wp2_with (go_at_call 30; (with_reducible refine (isDay _ _).mono ?_); rintro e w' ⟨rfl, rfl⟩)
    go_ret
    exact ⟨ret_int (by simp [Cal.wday, h]), rfl⟩
  | false =>
    go_enter Tryd.func19, Tryd.ntmps19
    go_wp2_with (go_at_call 30; (with_reducible refine (isDay _ _).mono ?_); rintro e w' ⟨rfl, rfl⟩)
    go_ret
    exact ⟨ret_int (by simp [Cal.wday, h]), rfl⟩
theorem refweekday (n : Int) (w : World) :
    Calls Tryd.prog 20 #[.int .i64 n] w fun e w' => e = .returned (.int .i64 (Cal.wday n)) ∧ w = w' := by
  cases h : Cal.isDay n with
  | true =>
    have hh := (Cal.isDay_iff n).1 h
    go_enter Tryd.func20, Tryd.ntmps20
    go_wp2_with (go_at_call 33; (with_reducible refine (refIsDay _ _).mono ?_); rintro e w' ⟨rfl, rfl⟩)
    go_ret
    exact ⟨ret_int (by simp [Cal.wday, h]), rfl⟩
  | false =>
    go_enter Tryd.func20, Tryd.ntmps20
    go_wp2_with (go_at_call 33; (with_reducible refine (refIsDay _ _).mono ?_); rintro e w' ⟨rfl, rfl⟩)
    go_ret
    exact ⟨ret_int (by simp [Cal.wday, h]), rfl⟩

theorem add_bad (n k : Int) (w : World) (h : ¬ (Cal.isDay n = true ∧ -3000 ≤ k ∧ k ≤ 3000)) :
    Calls Tryd.prog 21 #[.int .i64 n, .int .i64 k] w fun e w' => e = .returned (.tuple #[.int .i64 0, .int .i64 2]) ∧ Below w.heap.size w w' := by
  cases hn : Cal.isDay n with
  | true =>
    have hk : k < -3000 ∨ 3000 < k := by rw [hn] at h; simp at h; omega
    clear h
    rcases hk with hk | hk
    all_goals
      go_enter Tryd.func21, Tryd.ntmps21
      go_wp2_with (go_at_call 30; (with_reducible refine (isDay _ _).mono ?_); rintro e w' ⟨rfl, rfl⟩)
      go_ret2
      exact ⟨rfl, Below.refl _ _⟩
  | false =>
    clear h
    go_enter Tryd.func21, Tryd.ntmps21
    go_wp2_with (go_at_call 30; (with_reducible refine (isDay _ _).mono ?_); rintro e w' ⟨rfl, rfl⟩)
    go_ret2
    exact ⟨rfl, Below.refl _ _⟩
theorem refadd_bad (n k : Int) (w : World) (h : ¬ (Cal.isDay n = true ∧ -3000 ≤ k ∧ k ≤ 3000)) :
    Calls Tryd.prog 22 #[.int .i64 n, .int .i64 k] w fun e w' => e = .returned (.tuple #[.int .i64 0, .int .i64 2]) ∧ Below w.heap.size w w' := by
  cases hn : Cal.isDay n with
  | true =>
    have hk : k < -3000 ∨ 3000 < k := by rw [hn] at h; simp at h; omega
    clear h
    rcases hk with hk | hk
    all_goals
      go_enter Tryd.func22, Tryd.ntmps22
      go_wp2_with (go_at_call 33; (with_reducible refine (refIsDay _ _).mono ?_); rintro e w' ⟨rfl, rfl⟩)
      go_ret2
      exact ⟨rfl, Below.refl _ _⟩
  | false =>
    clear h
    go_enter Tryd.func22, Tryd.ntmps22
    go_wp2_with (go_at_call 33; (with_reducible refine (refIsDay _ _).mono ?_); rintro e w' ⟨rfl, rfl⟩)
    go_ret2
    exact ⟨rfl, Below.refl _ _⟩

theorem add_ok (n k : Int) (w : World) (h : Cal.isDay n = true) (h1 : -3000 ≤ k) (h2 : k ≤ 3000) :
    Calls Tryd.prog 21 #[.int .i64 n, .int .i64 k] w fun e w' => e = .returned (.tuple #[.int .i64 (Cal.addN n k), .int .i64 (Cal.addE n k)]) ∧ Below w.heap.size w w' := by
  have yr := Cal.dY_range n h
  obtain ⟨⟨m1, m2, d1, d2⟩, -⟩ := Cal.date_vld n h
  have mb := Cal.mon_bd n k h
  have hm := Lib.hid (show 12 * Cal.dY n + Cal.dM n - 1 + k = Cal.mon n k from rfl)
  have h' := Lib.hid h
  by_cases hy : (12 * Cal.dY n + Cal.dM n - 1 + k) / 12 < 2000
  · go_enter Tryd.func21, Tryd.ntmps21
    go_wp2_with (first | (go_at_call 30; (with_reducible refine (isDay _ _).mono ?_); rintro e w' ⟨rfl, rfl⟩) | (go_at_call 11; (with_reducible refine (date_any _ _).mono ?_); rintro e w1 ⟨rfl, hb⟩))
    go_ret2
    have dg := Cal.day_bad (Cal.mon n k / 12) (Cal.mon n k % 12 + 1) (min (Cal.dD n) (Cal.days (Cal.mon n k / 12) (Cal.mon n k % 12 + 1))) (by rw [hm.out] at hy; rintro ⟨_, _⟩; omega)
    have ag := Cal.add_good n k h h1 h2
    exact ⟨ret2 (by rw [ag.1, dg.1]) (by rw [ag.2, dg.2]), by (have hzz := (hb).size; (repeat (first | exact Below.refl _ _ | assumption | (refine Below.drew ?_) | (refine Below.alloc ?_ (by first | (simp; done) | (simp; omega) | omega) _) | (refine Below.setCell ?_ (by first | (simp; done) | (simp; omega) | omega) _))))⟩
  · have b1 : 0 ≤ (12 * Cal.dY n + Cal.dM n - 1 + k) % 12 := by omega
    have b2 : (12 * Cal.dY n + Cal.dM n - 1 + k) % 12 < 12 := by omega
    have li := fun w => lens_index ((12 * Cal.dY n + Cal.dM n - 1 + k) / 12) ((12 * Cal.dY n + Cal.dM n - 1 + k) % 12) b1 b2 w
    go_enter Tryd.func21, Tryd.ntmps21
    go_wp2_with (first | (go_at_call 30; (with_reducible refine (isDay _ _).mono ?_); rintro e w' ⟨rfl, rfl⟩) | (go_at_call 11; (with_reducible refine (date_any _ _).mono ?_); rintro e w1 ⟨rfl, hb⟩) | (go_at_call 32; (with_reducible refine (lengths _ _ (by omega) (by omega)).mono ?_); rintro e w2 ⟨rfl, hb2⟩) | (go_at_call 13; (with_reducible refine (day_any _ _ _ _).mono ?_); rintro e w3 ⟨rfl, hb3⟩))
    all_goals
      have ag := Cal.add_good n k h'.out h1 h2
      go_ret2
      refine ⟨ret2 ?_ ?_, bt (bt hb hb2) hb3⟩
      · rw [ag.1, ← hm.out, show min (Cal.dD n) (Cal.days ((12 * Cal.dY n + Cal.dM n - 1 + k) / 12) ((12 * Cal.dY n + Cal.dM n - 1 + k) % 12 + 1)) = _ from by first | exact Int.min_eq_left (by omega) | exact Int.min_eq_right (by omega)]
      · rw [ag.2, ← hm.out, show min (Cal.dD n) (Cal.days ((12 * Cal.dY n + Cal.dM n - 1 + k) / 12) ((12 * Cal.dY n + Cal.dM n - 1 + k) % 12 + 1)) = _ from by first | exact Int.min_eq_left (by omega) | exact Int.min_eq_right (by omega)]

theorem add_any (n k : Int) (w : World) :
    Calls Tryd.prog 21 #[.int .i64 n, .int .i64 k] w fun e w' => e = .returned (.tuple #[.int .i64 (Cal.addN n k), .int .i64 (Cal.addE n k)]) ∧ Below w.heap.size w w' := by
  by_cases h : Cal.isDay n = true ∧ -3000 ≤ k ∧ k ≤ 3000
  · exact add_ok n k w h.1 h.2.1 h.2.2
  · have ab := Cal.add_bad n k h
    rw [ab.1, ab.2]; exact add_bad n k w h

theorem refadd_ok (n k : Int) (w : World) (h : Cal.isDay n = true) (h1 : -3000 ≤ k) (h2 : k ≤ 3000) :
    Calls Tryd.prog 22 #[.int .i64 n, .int .i64 k] w fun e w' => e = .returned (.tuple #[.int .i64 (Cal.addN n k), .int .i64 (Cal.addE n k)]) ∧ Below w.heap.size w w' := by
  have yr := Cal.dY_range n h
  obtain ⟨⟨m1, m2, d1, d2⟩, -⟩ := Cal.date_vld n h
  have mb := Cal.mon_bd n k h
  go_enter Tryd.func22, Tryd.ntmps22
  go_wp2_with (first | (go_at_call 33; (with_reducible refine (refIsDay _ _).mono ?_); rintro e w' ⟨rfl, rfl⟩) | (go_at_call 12; (with_reducible refine (refdate_any _ _).mono ?_); rintro e w1 ⟨rfl, hb⟩))
  go_loop [1, 6, 7] (fun j a b => ∃ q y m : Int, -3000 ≤ q ∧ q ≤ 3000 ∧ 1 ≤ m ∧ m ≤ 12 ∧ 12 * y + m - 1 + q = Cal.mon n k ∧ j = .int .i64 q ∧ a = .int .i64 y ∧ b = .int .i64 m) (fun j _ _ => (intOf j).toNat)
  case atStart => exact ⟨k, Cal.dY n, Cal.dM n, h1, h2, m1, m2, rfl, rfl, rfl, rfl⟩
  case round =>
    obtain ⟨q, y, m, q1, q2, mm1, mm2, e, rfl, rfl, rfl⟩ := hrel
    have y1 : 1500 ≤ y := by omega
    have y2 : y ≤ 3000 := by omega
    have E := Lib.hid e
    clear e
    by_cases hq : 0 < q
    · by_cases hm : m < 12
      · go_wp2_with fail
        go_round
        case rel => exact ⟨q - 1, y, m + 1, by omega, by omega, by omega, by omega, by have := E.out; omega, rfl, rfl, rfl⟩
        case measure => simp [intOf]; omega
      · go_wp2_with fail
        go_round
        case rel => exact ⟨q - 1, y + 1, 1, by omega, by omega, by omega, by omega, by have := E.out; omega, rfl, rfl, rfl⟩
        case measure => simp [intOf]; omega
    · go_wp2_with fail
      go_loop [1, 6, 7] (fun j a b => ∃ q y m : Int, -3000 ≤ q ∧ q ≤ 0 ∧ 1 ≤ m ∧ m ≤ 12 ∧ 12 * y + m - 1 + q = Cal.mon n k ∧ j = .int .i64 q ∧ a = .int .i64 y ∧ b = .int .i64 m) (fun j _ _ => (-(intOf j)).toNat)
      case atStart => exact ⟨q, y, m, by omega, by omega, mm1, mm2, E.out, rfl, rfl, rfl⟩
      case round =>
        clear E y1 y2 mm1 mm2 q1 q2 hq
        obtain ⟨q, y, m, q1, q2, mm1, mm2, e, rfl, rfl, rfl⟩ := hrel
        have y1 : 1500 ≤ y := by omega
        have y2 : y ≤ 3000 := by omega
        have E := Lib.hid e
        clear e
        by_cases hq : q < 0
        · by_cases hm : 1 < m
          · go_wp2_with fail
            go_round
            case rel => exact ⟨q + 1, y, m - 1, by omega, by omega, by omega, by omega, by have := E.out; omega, rfl, rfl, rfl⟩
            case measure => simp [intOf]; omega
          · go_wp2_with fail
            go_round
            case rel => exact ⟨q + 1, y - 1, 12, by omega, by omega, by omega, by omega, by have := E.out; omega, rfl, rfl, rfl⟩
            case measure => simp [intOf]; omega
        · have HH := Lib.hid h
          clear h
          go_wp2_with (first | (go_at_call 34; (with_reducible refine (days _ _ _ (by omega) (by omega)).mono ?_); rintro e w' ⟨rfl, rfl⟩) | (go_at_call 14; (with_reducible refine (refday_any _ _ _ _).mono ?_); rintro e w' ⟨rfl, rfl⟩))
          all_goals
            have ag := Cal.add_good n k HH.out h1 h2
            have ey : Cal.mon n k / 12 = y := by have := E.out; omega
            have em : Cal.mon n k % 12 + 1 = m := by have := E.out; omega
            rw [ey, em] at ag
            go_ret2
            refine ⟨ret2 ?_ ?_, hb⟩
            · rw [ag.1, show min (Cal.dD n) (Cal.days y m) = _ from by first | exact Int.min_eq_left (by omega) | exact Int.min_eq_right (by omega)]
            · rw [ag.2, show min (Cal.dD n) (Cal.days y m) = _ from by first | exact Int.min_eq_left (by omega) | exact Int.min_eq_right (by omega)]

theorem refadd_any (n k : Int) (w : World) :
    Calls Tryd.prog 22 #[.int .i64 n, .int .i64 k] w fun e w' => e = .returned (.tuple #[.int .i64 (Cal.addN n k), .int .i64 (Cal.addE n k)]) ∧ Below w.heap.size w w' := by
  by_cases h : Cal.isDay n = true ∧ -3000 ≤ k ∧ k ≤ 3000
  · exact refadd_ok n k w h.1 h.2.1 h.2.2
  · have ab := Cal.add_bad n k h
    rw [ab.1, ab.2]; exact refadd_bad n k w h
end Go.Proofs.YtdbigfdffphdgaaDoor
