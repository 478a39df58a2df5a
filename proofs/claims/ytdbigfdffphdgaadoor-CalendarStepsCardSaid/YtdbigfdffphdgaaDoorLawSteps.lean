/- The walk of the law CalendarSteps. -/
import Derived.Test.YtdbigfdffphdgaaDoorCalM
namespace Go.Proofs.YtdbigfdffphdgaaDoor
open Go.RowKit
set_option maxHeartbeats 800000
theorem law_steps_out (day other : Int) (w : World) (hT : Tab w) (h : day < 0 ∨ (0 ≤ day ∧ 65536 ≤ day) ∨ (0 ≤ day ∧ day < 65536 ∧ other < 0) ∨ (0 ≤ day ∧ day < 65536 ∧ 0 ≤ other ∧ 65536 < other)) :
    Calls Tryd.prog 4 #[.int .i64 day, .int .i64 other] w fun e w' => e = .returned (.bool true) ∧ Below w.heap.size w w' := by
  have B := Below.refl w.heap.size w
  rcases h with h | ⟨h1, h2⟩ | ⟨h1, h2, h3⟩ | ⟨h1, h2, h3, h4⟩
  all_goals
    go_enter Tryd.func4, Tryd.ntmps4
    go_wp2_with (first | (go_at_call 10; (with_reducible refine (awake _ hT).mono ?_); rintro e w1 ⟨rfl, hb⟩; have hT := Tab.below hT hb; have B := Below.trans B (hb.mono B.size); clear hb))
    go_ret
    exact ⟨rfl, B⟩
theorem wday_next (day : Int) (h0 : 0 ≤ day) (h1 : day < 65536) : 0 ≤ Cal.wday day ∧ Cal.wday day ≤ 6 ∧ Cal.wday (day + 1) = (Cal.wday day + 1) % 7 := by
  have a : Cal.isDay day = true := (Cal.isDay_iff _).2 (by omega)
  have b : Cal.isDay (day + 1) = true := (Cal.isDay_iff _).2 (by omega)
  unfold Cal.wday
  rw [if_pos a, if_pos b]; omega
theorem law_steps_in (day other : Int) (w : World) (hT : Tab w) (h1 : 0 ≤ day) (h2 : day < 65536) (h3 : 0 ≤ other) (h4 : other ≤ 65536) :
    Calls Tryd.prog 4 #[.int .i64 day, .int .i64 other] w fun e w' => e = .returned (.bool true) ∧ Below w.heap.size w w' := by
  have B := Below.refl w.heap.size w
  have a : Cal.isDay day = true := (Cal.isDay_iff _).2 (by omega)
  have b : Cal.isDay (day + 1) = true := (Cal.isDay_iff _).2 (by omega)
  have c : Cal.isDay other = true := (Cal.isDay_iff _).2 (by omega)
  obtain ⟨p1, p2⟩ := Cal.parse_fmt day a
  obtain ⟨q1, q2⟩ := Cal.day_date day a
  obtain ⟨w1, w2, w3⟩ := wday_next day h1 h2
  have yr := Cal.dY_range day a
  obtain ⟨⟨m1, m2, d1, d2⟩, -⟩ := Cal.date_vld day a
  have dl := Cal.days_lo (Cal.dY day) (Cal.dM day)
  have st := Cal.steps_next day a b
  have lt := Cal.fmt_less day other a c
  clear a b c
  unfold Cal.nextB at st
  simp only [Bool.or_eq_true, Bool.and_eq_true, beq_iff_eq, decide_eq_true_eq] at st
  have w3' : (Cal.wday (day + 1) == (Cal.wday day + 1) % 7) = true := by simp [w3]
  clear w3
  rcases st with (⟨⟨s1, s2⟩, s3⟩ | ⟨⟨⟨s1, s2⟩, s3⟩, s4⟩) | ⟨⟨⟨⟨s1, s2⟩, s3⟩, s4⟩, s5⟩
  · go_enter Tryd.func4, Tryd.ntmps4
    go_wp2_with (first | (go_at_call 10; (with_reducible refine (awake _ hT).mono ?_); rintro e w1 ⟨rfl, hb⟩; have hT := Tab.below hT hb; have B := Below.trans B (hb.mono B.size); clear hb) | (go_at_call 11; (with_reducible refine (date_any _ _).mono ?_); rintro e w1 ⟨rfl, hb⟩; have hT := Tab.below hT hb; have B := Below.trans B (hb.mono B.size); clear hb) | (go_at_call 13; (with_reducible refine (day_any _ _ _ _).mono ?_); rintro e w1 ⟨rfl, hb⟩; have hT := Tab.below hT hb; have B := Below.trans B (hb.mono B.size); clear hb) | (go_at_call 15; (with_reducible refine (parse_any _ _).mono ?_); rintro e w1 ⟨rfl, hb⟩; have hT := Tab.below hT hb; have B := Below.trans B (hb.mono B.size); clear hb) | (go_at_call 17; (with_reducible refine (format_any _ _ hT).mono ?_); rintro e w1 ⟨rfl, hb⟩; have hT := Tab.below hT hb; have B := Below.trans B (hb.mono B.size); clear hb) | (go_at_call 19; (with_reducible refine (weekday _ _).mono ?_); rintro e w' ⟨rfl, rfl⟩))
    go_ret
    exact ⟨rfl, B⟩
  · go_enter Tryd.func4, Tryd.ntmps4
    go_wp2_with (first | (go_at_call 10; (with_reducible refine (awake _ hT).mono ?_); rintro e w1 ⟨rfl, hb⟩; have hT := Tab.below hT hb; have B := Below.trans B (hb.mono B.size); clear hb) | (go_at_call 11; (with_reducible refine (date_any _ _).mono ?_); rintro e w1 ⟨rfl, hb⟩; have hT := Tab.below hT hb; have B := Below.trans B (hb.mono B.size); clear hb) | (go_at_call 13; (with_reducible refine (day_any _ _ _ _).mono ?_); rintro e w1 ⟨rfl, hb⟩; have hT := Tab.below hT hb; have B := Below.trans B (hb.mono B.size); clear hb) | (go_at_call 15; (with_reducible refine (parse_any _ _).mono ?_); rintro e w1 ⟨rfl, hb⟩; have hT := Tab.below hT hb; have B := Below.trans B (hb.mono B.size); clear hb) | (go_at_call 17; (with_reducible refine (format_any _ _ hT).mono ?_); rintro e w1 ⟨rfl, hb⟩; have hT := Tab.below hT hb; have B := Below.trans B (hb.mono B.size); clear hb) | (go_at_call 19; (with_reducible refine (weekday _ _).mono ?_); rintro e w' ⟨rfl, rfl⟩))
    go_ret
    exact ⟨rfl, B⟩
  · rw [s4, s5] at q1 q2
    go_enter Tryd.func4, Tryd.ntmps4
    go_wp2_with (first | (go_at_call 10; (with_reducible refine (awake _ hT).mono ?_); rintro e w1 ⟨rfl, hb⟩; have hT := Tab.below hT hb; have B := Below.trans B (hb.mono B.size); clear hb) | (go_at_call 11; (with_reducible refine (date_any _ _).mono ?_); rintro e w1 ⟨rfl, hb⟩; have hT := Tab.below hT hb; have B := Below.trans B (hb.mono B.size); clear hb) | (go_at_call 13; (with_reducible refine (day_any _ _ _ _).mono ?_); rintro e w1 ⟨rfl, hb⟩; have hT := Tab.below hT hb; have B := Below.trans B (hb.mono B.size); clear hb) | (go_at_call 15; (with_reducible refine (parse_any _ _).mono ?_); rintro e w1 ⟨rfl, hb⟩; have hT := Tab.below hT hb; have B := Below.trans B (hb.mono B.size); clear hb) | (go_at_call 17; (with_reducible refine (format_any _ _ hT).mono ?_); rintro e w1 ⟨rfl, hb⟩; have hT := Tab.below hT hb; have B := Below.trans B (hb.mono B.size); clear hb) | (go_at_call 19; (with_reducible refine (weekday _ _).mono ?_); rintro e w' ⟨rfl, rfl⟩))
    go_ret
    exact ⟨rfl, B⟩

theorem law_steps (day other : Int) (w : World) (hT : Tab w) :
    Calls Tryd.prog 4 #[.int .i64 day, .int .i64 other] w fun e w' => e = .returned (.bool true) ∧ Below w.heap.size w w' := by
  by_cases h : 0 ≤ day ∧ day < 65536 ∧ 0 ≤ other ∧ other ≤ 65536
  · exact law_steps_in day other w hT h.1 h.2.1 h.2.2.1 h.2.2.2
  · exact law_steps_out day other w hT (by omega)
end Go.Proofs.YtdbigfdffphdgaaDoor
