/- Plain laws of the calendar: months back and forth; decisions over time. -/
import Derived.Test.YtdbigfdffphdgaaDoorCalP
namespace Cal
theorem addE_ok (n k : Int) (h : addE n k = 0) : isDay n = true ∧ -3000 ≤ k ∧ k ≤ 3000 ∧ 2000 ≤ mon n k / 12 ∧ mon n k / 12 ≤ 2179 ∧
    num (mon n k / 12) (mon n k % 12 + 1) (min (dD n) (days (mon n k / 12) (mon n k % 12 + 1))) ≤ 65536 ∧ Vld (mon n k / 12) (mon n k % 12 + 1) (min (dD n) (days (mon n k / 12) (mon n k % 12 + 1))) ∧
    addN n k = num (mon n k / 12) (mon n k % 12 + 1) (min (dD n) (days (mon n k / 12) (mon n k % 12 + 1))) := by
  by_cases c : isDay n = true ∧ -3000 ≤ k ∧ k ≤ 3000
  · obtain ⟨c1, c2, c3⟩ := c
    have g := add_good n k c1 c2 c3
    by_cases d : 2000 ≤ mon n k / 12 ∧ mon n k / 12 ≤ 2179 ∧ Vld (mon n k / 12) (mon n k % 12 + 1) (min (dD n) (days (mon n k / 12) (mon n k % 12 + 1))) ∧ num (mon n k / 12) (mon n k % 12 + 1) (min (dD n) (days (mon n k / 12) (mon n k % 12 + 1))) ≤ 65536
    · obtain ⟨d1, d2, d3, d4⟩ := d
      have e := day_good _ _ _ d1 d2 d3 d4
      exact ⟨c1, c2, c3, d1, d2, d4, d3, by rw [g.1, e.1]⟩
    · have e := day_bad _ _ _ d
      rw [g.2, e.2] at h; cases h
  · rw [(add_bad n k c).2] at h; cases h
theorem addN_zero (n k : Int) (h : addE n k ≠ 0) : addN n k = 0 := by
  by_cases c : isDay n = true ∧ -3000 ≤ k ∧ k ≤ 3000
  · obtain ⟨c1, c2, c3⟩ := c
    have g := add_good n k c1 c2 c3
    rw [g.1]; rw [g.2] at h
    unfold dayN; unfold dayE at h
    split
    · rename_i k; rw [if_pos k] at h; exact absurd rfl h
    · rfl
  · exact (add_bad n k c).1
theorem first_nonneg (y : Int) (h : 2000 ≤ y) : 0 ≤ first y := by unfold first; omega
theorem num_nonneg (y m d : Int) (h : 2000 ≤ y) (v : Vld y m d) : 0 ≤ num y m d := by
  have := num_lo y m d v
  have := first_nonneg y h
  omega
theorem num_mono (y m d d' : Int) (h : d ≤ d') : num y m d ≤ num y m d' := by unfold num; omega
/-- what the law CalendarBack says of a day and a number of months -/
theorem back (n k : Int) (h : addE n k = 0) :
    isDay (addN n k) = true ∧ 12 * dY (addN n k) + dM (addN n k) - 12 * dY n - dM n = k ∧ dD (addN n k) ≤ dD n ∧ (dD (addN n k) = dD n ∨ 28 ≤ dD (addN n k)) ∧
    addE (addN n k) (-k) = 0 ∧ dY (addN (addN n k) (-k)) = dY n ∧ dM (addN (addN n k) (-k)) = dM n ∧ dD (addN (addN n k) (-k)) = dD (addN n k) := by
  obtain ⟨c1, c2, c3, d1, d2, d4, d3, e⟩ := addE_ok n k h
  have hN : isDay (addN n k) = true := by
    rw [isDay_iff, e]; exact ⟨num_nonneg _ _ _ d1 d3, d4⟩
  obtain ⟨f1, f2, f3⟩ := date_is (addN n k) _ _ _ hN d3 e.symm
  have dl := days_lo (mon n k / 12) (mon n k % 12 + 1)
  obtain ⟨v, hnum⟩ := date_vld n c1
  have yr := dY_range n c1
  have v' := v
  obtain ⟨m1, m2, v1, v2⟩ := v'
  have hm : 12 * dY (addN n k) + dM (addN n k) - 12 * dY n - dM n = k := by rw [f1, f2]; unfold mon; omega
  have hD1 : dD (addN n k) ≤ dD n := by rw [f3]; omega
  have hD2 : dD (addN n k) = dD n ∨ 28 ≤ dD (addN n k) := by rw [f3]; omega
  have hD3 : 1 ≤ dD (addN n k) := by rw [f3]; omega
  have hb : mon (addN n k) (-k) / 12 = dY n ∧ mon (addN n k) (-k) % 12 + 1 = dM n := by unfold mon; omega
  have hmin : min (dD (addN n k)) (days (dY n) (dM n)) = dD (addN n k) := by omega
  have g := add_good (addN n k) (-k) hN (by omega) (by omega)
  rw [hb.1, hb.2, hmin] at g
  have vv : Vld (dY n) (dM n) (dD (addN n k)) := ⟨m1, m2, hD3, by omega⟩
  have le : num (dY n) (dM n) (dD (addN n k)) ≤ 65536 := by
    have := num_mono (dY n) (dM n) _ _ hD1
    have := (isDay_iff n).1 c1
    omega
  have gg := day_good (dY n) (dM n) (dD (addN n k)) yr.1 yr.2 vv le
  have hK : isDay (addN (addN n k) (-k)) = true := by
    rw [isDay_iff, g.1, gg.1]; exact ⟨num_nonneg _ _ _ yr.1 vv, le⟩
  have q := date_is (addN (addN n k) (-k)) _ _ _ hK vv (by rw [g.1, gg.1])
  exact ⟨hN, hm, hD1, hD2, by rw [g.2, gg.2], q.1, q.2.1, q.2.2⟩

theorem reached_mono (l a b : Int) (h : a ≤ b) (k : reached l a = true) : reached l b = true := by
  simp only [reached, Bool.and_eq_true, decide_eq_true_eq] at *; omega
theorem expired_mono (cr us ex t t' : Int) (h : t ≤ t') (d : isDay t' = true) (k : expired cr us ex t = true) : expired cr us ex t' = true := by
  simp only [expired, fits, Bool.and_eq_true, Bool.or_eq_true, decide_eq_true_eq] at *
  obtain ⟨⟨⟨⟨a, b⟩, c⟩, _⟩, e⟩ := k
  exact ⟨⟨⟨⟨a, b⟩, c⟩, d⟩, by omega⟩
theorem dec_le2 (ke un ac cr us ex : Int) (ar : Bool) (t : Int) : 0 ≤ dec ke un ac cr us ex ar t ∧ dec ke un ac cr us ex ar t ≤ 2 := by
  unfold dec; split
  · split
    · omega
    · split <;> omega
  · omega
/-- decisions never fall with time -/
theorem dec_mono (ke un ac cr us ex : Int) (ar : Bool) (t t' : Int) (h : t ≤ t') (d : isDay t' = true) : dec ke un ac cr us ex ar t ≤ dec ke un ac cr us ex ar t' := by
  have b := dec_le2 ke un ac cr us ex ar t'
  unfold dec at *
  by_cases c : (policy ke un ac && fits cr us ex t) = true
  · rw [if_pos c]
    have c' : (policy ke un ac && fits cr us ex t') = true := by
      simp only [fits, Bool.and_eq_true] at *; exact ⟨c.1, ⟨c.2.1, d⟩⟩
    rw [if_pos c'] at *
    by_cases e : (expired cr us ex t && (reached ke (t - cr) || ar && reached ac (t - max cr us))) = true
    · rw [if_pos e]
      have e' : (expired cr us ex t' && (reached ke (t' - cr) || ar && reached ac (t' - max cr us))) = true := by
        simp only [Bool.and_eq_true, Bool.or_eq_true] at *
        refine ⟨expired_mono _ _ _ _ _ h d e.1, ?_⟩
        rcases e.2 with k | ⟨k1, k2⟩
        · exact Or.inl (reached_mono _ _ _ (by omega) k)
        · exact Or.inr ⟨k1, reached_mono _ _ _ (by omega) k2⟩
      rw [if_pos e']; omega
    · rw [if_neg e]
      by_cases f : (!ar && reached un (t - max cr us)) = true
      · rw [if_pos f]
        have f' : (!ar && reached un (t' - max cr us)) = true := by
          simp only [Bool.and_eq_true] at *
          exact ⟨f.1, reached_mono _ _ _ (by omega) f.2⟩
        rw [if_pos f']
        split <;> omega
      · rw [if_neg f]; omega
  · rw [if_neg c]; omega
/-- a policy with smaller numbers -/
def strict (a b : Int) : Bool := (decide (a = 0) && decide (0 ≤ b) && isDay b) || (decide (0 < b) && decide (b ≤ a))
theorem reached_strict (a b n : Int) (h : strict a b = true) (k : reached a n = true) : reached b n = true := by
  simp only [strict, reached, Bool.or_eq_true, Bool.and_eq_true, decide_eq_true_eq] at *; omega
theorem isDay_strict (a b : Int) (h : strict a b = true) (k : isDay a = true) : isDay b = true := by
  simp only [strict, Bool.or_eq_true, Bool.and_eq_true, decide_eq_true_eq, isDay_iff] at *; omega
theorem dec_strict (ke un ac ke' un' ac' cr us ex : Int) (ar : Bool) (t : Int) (h1 : strict ke ke' = true) (h2 : strict un un' = true) (h3 : strict ac ac' = true) :
    dec ke un ac cr us ex ar t ≤ dec ke' un' ac' cr us ex ar t := by
  have b := dec_le2 ke' un' ac' cr us ex ar t
  unfold dec at *
  by_cases c : (policy ke un ac && fits cr us ex t) = true
  · rw [if_pos c]
    have c' : (policy ke' un' ac' && fits cr us ex t) = true := by
      simp only [policy, Bool.and_eq_true] at *
      exact ⟨⟨⟨isDay_strict _ _ h1 c.1.1.1, isDay_strict _ _ h2 c.1.1.2⟩, isDay_strict _ _ h3 c.1.2⟩, c.2⟩
    rw [if_pos c'] at *
    by_cases e : (expired cr us ex t && (reached ke (t - cr) || ar && reached ac (t - max cr us))) = true
    · rw [if_pos e]
      have e' : (expired cr us ex t && (reached ke' (t - cr) || ar && reached ac' (t - max cr us))) = true := by
        simp only [Bool.and_eq_true, Bool.or_eq_true] at *
        refine ⟨e.1, ?_⟩
        rcases e.2 with k | ⟨k1, k2⟩
        · exact Or.inl (reached_strict _ _ _ h1 k)
        · exact Or.inr ⟨k1, reached_strict _ _ _ h3 k2⟩
      rw [if_pos e']; omega
    · rw [if_neg e]
      by_cases f : (!ar && reached un (t - max cr us)) = true
      · rw [if_pos f]
        have f' : (!ar && reached un' (t - max cr us)) = true := by
          simp only [Bool.and_eq_true] at *
          exact ⟨f.1, reached_strict _ _ _ h2 f.2⟩
        rw [if_pos f']
        split <;> omega
      · rw [if_neg f]; omega
  · rw [if_neg c]; omega
/-- what a search finds -/
theorem srch_spec (f : Int → Bool) : ∀ (k : Nat) (d : Int), ((srch f k d).2 = true ∧ d ≤ (srch f k d).1 ∧ (srch f k d).1 < d + k ∧ f (srch f k d).1 = true ∧ ∀ e, d ≤ e → e < (srch f k d).1 → f e = false) ∨
    ((srch f k d).2 = false ∧ (srch f k d).1 = 0 ∧ ∀ e, d ≤ e → e < d + k → f e = false)
  | 0, d => Or.inr ⟨rfl, rfl, fun e h1 h2 => by simp at h2; omega⟩
  | k + 1, d => by
    by_cases h : f d = true
    · left
      rw [srch, if_pos h]
      exact ⟨rfl, by simp, by simp; omega, h, fun e h1 h2 => by simp at h2; omega⟩
    · rw [srch, if_neg h]
      have hf : f d = false := by simpa using h
      rcases srch_spec f k (d + 1) with ⟨a, b, c, e, g⟩ | ⟨a, b, c⟩
      · left
        refine ⟨a, by omega, by omega, e, fun x h1 h2 => ?_⟩
        by_cases hx : x = d
        · rw [hx]; exact hf
        · exact g x (by omega) h2
      · right
        refine ⟨a, b, fun x h1 h2 => ?_⟩
        by_cases hx : x = d
        · rw [hx]; exact hf
        · exact c x (by omega) (by omega)
end Cal
