/- Contracts of the reference's Day. -/
import Derived.Test.YtdbigfdffphdgaaDoorCalB
namespace Go.Proofs.YtdbigfdffphdgaaDoor
open Go.RowKit
set_option maxHeartbeats 400000

theorem refday_badym (y m d : Int) (w : World) (h : ¬ (2000 ≤ y ∧ y ≤ 2179 ∧ 1 ≤ m ∧ m ≤ 12)) :
    Calls Tryd.prog 14 #[.int .i64 y, .int .i64 m, .int .i64 d] w fun e w' => e = .returned (.tuple #[.int .i64 0, .int .i64 2]) ∧ w = w' := by
  go_enter Tryd.func14, Tryd.ntmps14
  go_wp2_with fail
  all_goals (go_ret2; exact ⟨rfl, rfl⟩)

theorem refday_badd (y m d : Int) (w : World) (h1 : 2000 ≤ y) (h2 : y ≤ 2179) (h3 : 1 ≤ m) (h4 : m ≤ 12) (h : d < 1 ∨ Cal.days y m < d) :
    Calls Tryd.prog 14 #[.int .i64 y, .int .i64 m, .int .i64 d] w fun e w' => e = .returned (.tuple #[.int .i64 0, .int .i64 2]) ∧ w = w' := by
  rcases h with h | h
  · go_enter Tryd.func14, Tryd.ntmps14
    go_wp2_with (go_at_call 34; (with_reducible refine (days _ _ _ (by omega) (by omega)).mono ?_); rintro e w' ⟨rfl, rfl⟩)
    all_goals (go_ret2; exact ⟨rfl, rfl⟩)
  · have dl := Cal.days_lo y m
    go_enter Tryd.func14, Tryd.ntmps14
    go_wp2_with (go_at_call 34; (with_reducible refine (days _ _ _ (by omega) (by omega)).mono ?_); rintro e w' ⟨rfl, rfl⟩)
    all_goals (go_ret2; exact ⟨rfl, rfl⟩)

theorem refday_ok (y m d : Int) (w : World) (h1 : 2000 ≤ y) (h2 : y ≤ 2179) (h3 : 1 ≤ m) (h4 : m ≤ 12) (h5 : 1 ≤ d) (h6 : d ≤ Cal.days y m) :
    Calls Tryd.prog 14 #[.int .i64 y, .int .i64 m, .int .i64 d] w fun e w' => e = .returned (.tuple #[.int .i64 (Cal.dayN y m d), .int .i64 (Cal.dayE y m d)]) ∧ w = w' := by
  have dl := Cal.days_lo y m
  go_enter Tryd.func14, Tryd.ntmps14
  go_wp2_with (go_at_call 34; (with_reducible refine (days _ _ _ (by omega) (by omega)).mono ?_); rintro e w' ⟨rfl, rfl⟩)
  go_loop [8, 9, 10] (fun n a _ => ∃ c : Int, 2000 ≤ c ∧ c ≤ y + 1 ∧ a = .int .i64 c ∧ n = .int .i64 (if c ≤ y then d - 1 + Cal.first c else d - 1 + Cal.first y + Cal.cum y m)) (fun _ a _ => (y + 1 - intOf a).toNat)
  case atStart =>
    have e : Cal.first 2000 = 0 := by decide
    exact ⟨2000, by omega, by omega, rfl, by rw [if_pos h1, e, Int.add_zero]⟩
  case round =>
    obtain ⟨c, hc1, hc2, rfl, rfl⟩ := hrel
    obtain ⟨wo, rfl⟩ : ∃ wo : World, wo = w := ⟨_, rfl⟩
    have fc := Cal.first_bd c hc1 (by omega)
    have fy := Cal.first_bd y h1 (by omega)
    by_cases hcy : c ≤ y
    · rw [if_pos hcy]
      go_wp2_with (go_at_call 34; (with_reducible refine (days _ _ _ (by omega) (by omega)).mono ?_); rintro e w' ⟨rfl, rfl⟩)
      have c1 := Cal.cum_1 c
      go_loop [8, 10] (fun n b => ∃ q : Int, 1 ≤ q ∧ q ≤ 13 ∧ (c = y → q ≤ m) ∧ b = .int .i64 q ∧ n = .int .i64 (d - 1 + Cal.first c + Cal.cum c q)) (fun _ b => (13 - intOf b).toNat)
      case atStart => exact ⟨1, by omega, by omega, fun _ => by omega, rfl, by rw [c1, Int.add_zero]⟩
      case round =>
        obtain ⟨q, hq1, hq2, hq3, rfl, rfl⟩ := hrel
        have Q3 := Lib.hid hq3
        clear c1 hq3
        have cq := Cal.cum_le c q hq1 hq2
        have dq := Cal.days_lo c q
        by_cases hcl : c < y
        · by_cases hq : q ≤ 12
          · have cs := Lib.hid (Cal.cum_succ c q hq1 hq)
            go_wp2_with (go_at_call 34; (with_reducible refine (days _ _ _ (by omega) (by omega)).mono ?_); rintro e w' ⟨rfl, rfl⟩)
            go_round
            case rel => exact ⟨q + 1, by omega, by omega, fun _ => by omega, rfl, by rw [cs.out]; exact congrArg _ (by omega)⟩
            case measure => simp [intOf]; omega
          · have q13 := Lib.hid (show q = 13 by omega)
            go_wp2_with (go_at_call 34; (with_reducible refine (days _ _ _ (by omega) (by omega)).mono ?_); rintro e w' ⟨rfl, rfl⟩)
            go_round
            case rel =>
              have e1 := Cal.cum_13 c
              have e2 := Cal.first_succ c
              exact ⟨c + 1, by omega, by omega, rfl, by rw [if_pos (by omega), q13.out]; exact congrArg _ (by omega)⟩
            case measure => simp [intOf]; omega
        · have ec := Lib.hid (show c = y by omega)
          by_cases hq : q < m
          · have cs := Lib.hid (Cal.cum_succ c q hq1 (by omega))
            have hq12 : q ≤ 12 := by omega
            go_wp2_with (go_at_call 34; (with_reducible refine (days _ _ _ (by omega) (by omega)).mono ?_); rintro e w' ⟨rfl, rfl⟩)
            go_round
            case rel => exact ⟨q + 1, by omega, by omega, fun _ => by omega, rfl, by rw [cs.out]; exact congrArg _ (by omega)⟩
            case measure => simp [intOf]; omega
          · have eq := Lib.hid (show q = m by have := Q3.out ec.out; omega)
            have hq12 : q ≤ 12 := by have := eq.out; omega
            go_wp2_with (go_at_call 34; (with_reducible refine (days _ _ _ (by omega) (by omega)).mono ?_); rintro e w' ⟨rfl, rfl⟩)
            go_round
            case rel => exact ⟨c + 1, by omega, by omega, rfl, by rw [if_neg (by omega), eq.out, ec.out]⟩
            case measure => simp [intOf]; omega
    · rw [if_neg hcy]
      have cm := Cal.cum_le y m h3 (by omega)
      have H6 := Lib.hid h6
      clear h6
      by_cases hn : d - 1 + Cal.first y + Cal.cum y m ≤ 65536
      · have isd : Cal.isDay (d - 1 + Cal.first y + Cal.cum y m) = true := (Cal.isDay_iff _).2 (by omega)
        go_wp2_with (go_at_call 33; (with_reducible refine (refIsDay _ _).mono ?_); rintro e w' ⟨rfl, rfl⟩)
        go_ret2
        have dg := Cal.day_good y m d h1 h2 ⟨h3, h4, h5, H6.out⟩ (by unfold Cal.num; omega)
        exact ⟨ret2 (by rw [dg.1, Cal.num]; omega) dg.2.symm, rfl⟩
      · have isd : Cal.isDay (d - 1 + Cal.first y + Cal.cum y m) = false := (Cal.isDay_false _).2 (by omega)
        go_wp2_with (go_at_call 33; (with_reducible refine (refIsDay _ _).mono ?_); rintro e w' ⟨rfl, rfl⟩)
        go_ret2
        have dg := Cal.day_bad y m d (by unfold Cal.num; omega)
        exact ⟨ret2 dg.1.symm dg.2.symm, rfl⟩

/-- the reference's Day, for every date. -/
theorem refday_any (y m d : Int) (w : World) :
    Calls Tryd.prog 14 #[.int .i64 y, .int .i64 m, .int .i64 d] w fun e w' => e = .returned (.tuple #[.int .i64 (Cal.dayN y m d), .int .i64 (Cal.dayE y m d)]) ∧ w = w' := by
  by_cases h : 2000 ≤ y ∧ y ≤ 2179 ∧ 1 ≤ m ∧ m ≤ 12
  · obtain ⟨h1, h2, h3, h4⟩ := h
    by_cases h' : d < 1 ∨ Cal.days y m < d
    · have dg := Cal.day_bad y m d (by rintro ⟨_, _, ⟨_, _, _, _⟩, _⟩; omega)
      rw [dg.1, dg.2]; exact refday_badd y m d w h1 h2 h3 h4 h'
    · exact refday_ok y m d w h1 h2 h3 h4 (by omega) (by omega)
  · have dg := Cal.day_bad y m d (by rintro ⟨_, _, ⟨_, _, _, _⟩, _⟩; omega)
    rw [dg.1, dg.2]; exact refday_badym y m d w h
end Go.Proofs.YtdbigfdffphdgaaDoor
