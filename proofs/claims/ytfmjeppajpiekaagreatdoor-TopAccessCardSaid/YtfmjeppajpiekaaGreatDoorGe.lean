/- Several texts in one: Ge Gf. -/
import Derived.Lib.Bytealg
section
/- Generations in plain words. No program in sight. -/
namespace Go.Proofs.YtfmjeppajpiekaaGreatDoor.Ge
/-- strictly increasing from above b, the last one at most m -/
def fits (b : Int) : List Int → Int → Bool
  | [], m => decide (b ≤ m)
  | n :: r, m => if n ≤ b then false else fits n r m
/-- each above the one before it, and at most m -/
def inc (b : Int) : List Int → Int → Bool
  | [], _ => true
  | n :: r, m => decide (b < n) && decide (n ≤ m) && inc n r m
theorem fits_le : ∀ (l : List Int) (b m : Int), fits b l m = true → b ≤ m
  | [], b, m, h => by simpa [fits] using h
  | n :: r, b, m, h => by
    rw [fits] at h
    split at h
    · cases h
    · have := fits_le r n m h; omega
theorem fits_inc : ∀ (l : List Int) (b m : Int), b ≤ m → fits b l m = inc b l m
  | [], b, m, h => by simp [fits, inc, h]
  | n :: r, b, m, h => by
    rw [fits, inc]
    by_cases h1 : n ≤ b
    · rw [if_pos h1, decide_eq_false (by omega)]; rfl
    · rw [if_neg h1, decide_eq_true (by omega)]
      by_cases h2 : n ≤ m
      · rw [decide_eq_true h2, fits_inc r n m h2]; rfl
      · rw [decide_eq_false h2]
        have : fits n r m = false := by rw [Bool.eq_false_iff]; intro h3; exact h2 (fits_le r n m h3)
        rw [this]; rfl
/-- what the reference asks at place i -/
def at_ (l : List Int) (m : Int) (i : Nat) : Bool := decide (1 ≤ l.getD i 0) && decide (l.getD i 0 ≤ m) && (decide (i = 0) || decide (l.getD (i - 1) 0 < l.getD i 0))
theorem inc_iff : ∀ (l : List Int) (b m : Int), inc b l m = true ↔ ∀ i, i < l.length → (if i = 0 then b else l.getD (i - 1) 0) < l.getD i 0 ∧ l.getD i 0 ≤ m
  | [], b, m => by simp [inc]
  | n :: r, b, m => by
    rw [inc, Bool.and_eq_true, Bool.and_eq_true, decide_eq_true_eq, decide_eq_true_eq, inc_iff r n m]
    constructor
    · rintro ⟨⟨h1, h2⟩, h3⟩ i hi
      cases i with
      | zero => exact ⟨by simpa using h1, by simpa using h2⟩
      | succ i =>
        have := h3 i (by simpa using hi)
        refine ⟨?_, by simpa using this.2⟩
        rw [if_neg (by omega)]
        cases i with
        | zero => simpa using this.1
        | succ i => simpa using this.1
    · intro h
      have h0 := h 0 (by simp)
      refine ⟨⟨by simpa using h0.1, by simpa using h0.2⟩, fun i hi => ?_⟩
      have h1 := h (i + 1) (by simpa using hi)
      rw [if_neg (by omega)] at h1
      refine ⟨?_, by simpa using h1.2⟩
      cases i with
      | zero => simpa using h1.1
      | succ i => simpa using h1.1
theorem inc_pos (l : List Int) (b m : Int) (h : inc b l m = true) : ∀ i, i < l.length → b < l.getD i 0 := by
  intro i
  induction i with
  | zero => intro hi; have := ((inc_iff l b m).1 h 0 hi).1; simpa using this
  | succ i ih =>
    intro hi
    have h1 := ((inc_iff l b m).1 h (i + 1) hi).1
    rw [if_neg (by omega)] at h1
    have := ih (by omega)
    simp only [Nat.add_sub_cancel] at h1
    omega
theorem at_inc (l : List Int) (m : Int) : (List.range l.length).all (at_ l m) = inc 0 l m := by
  rw [Bool.eq_iff_iff, List.all_eq_true, inc_iff]
  constructor
  · intro h i hi
    have h1 := h i (by simpa using hi)
    simp only [at_, Bool.and_eq_true, Bool.or_eq_true, decide_eq_true_eq] at h1
    refine ⟨?_, h1.1.2⟩
    split
    · omega
    · rcases h1.2 with h2 | h2
      · omega
      · exact h2
  · intro h i hi
    have hi' : i < l.length := by simpa using hi
    have h1 := h i hi'
    have h2 := inc_pos l 0 m ((inc_iff l 0 m).2 h) i hi'
    simp only [at_, Bool.and_eq_true, Bool.or_eq_true, decide_eq_true_eq]
    refine ⟨⟨by omega, h1.2⟩, ?_⟩
    by_cases e : i = 0
    · exact .inl e
    · rw [if_neg e] at h1; exact .inr h1.1
/-- the number for which a relative number stands; the error -/
def abs (last : Int) (ex : List Int) (rel : Int) : Int × Int :=
  if last < 0 ∨ 9999 < last ∨ inc 0 ex last = false then (0, 1)
  else if 0 < rel then (if 9999 - last < rel then (0, 8) else (last + rel, 0))
  else if rel ≤ -(ex.length : Int) then (0, 6) else (ex.getD (ex.length - 1 + rel).toNat 0, 0)
/-- one new generation: what goes, what remains -/
def cut (lim : Int) (em : Bool) (now : List Int) : Nat := if lim < (now.length : Int) then (if em then now.length - 1 else (now.length - lim).toNat) else 0
def goes (lim : Int) (em : Bool) (now : List Int) (n : Int) : List Int := (now ++ [n]).take (cut lim em (now ++ [n]))
def stays (lim : Int) (em : Bool) (now : List Int) (n : Int) : List Int := (now ++ [n]).drop (cut lim em (now ++ [n]))
theorem goes_stays (lim : Int) (em : Bool) (now : List Int) (n : Int) : goes lim em now n ++ stays lim em now n = now ++ [n] := by
  unfold goes stays; exact List.take_append_drop _ _
theorem cut_le (lim : Int) (em : Bool) (now : List Int) (n : Int) (hl : 1 ≤ lim) : cut lim em (now ++ [n]) ≤ now.length := by
  unfold cut
  simp only [List.length_append, List.length_singleton]
  split
  · split <;> omega
  · omega
theorem stays_eq (lim : Int) (em : Bool) (now : List Int) (n : Int) (hl : 1 ≤ lim) : stays lim em now n = now.drop (cut lim em (now ++ [n])) ++ [n] ∧ goes lim em now n = now.take (cut lim em (now ++ [n])) := by
  have h := cut_le lim em now n hl
  unfold stays goes
  exact ⟨List.drop_append_of_le_length h, List.take_append_of_le_length h⟩
end Go.Proofs.YtfmjeppajpiekaaGreatDoor.Ge

end
section
/- Several new generations, in plain words. No program in sight. -/
namespace Go.Proofs.YtfmjeppajpiekaaGreatDoor.Ge
/-- error, last, what there is, what has gone -/
def foldG (lim : Int) (em : Bool) : List Int → Int → List Int → List Int → Int × Int × List Int × List Int
  | [], last, now, gone => (0, last, now, gone)
  | n :: r, last, now, gone => if n < 1 ∨ 9999 < n then (2, 0, [], []) else if n ≤ last then (9, 0, [], []) else foldG lim em r n (stays lim em now n) (gone ++ goes lim em now n)
theorem cut_short (lim : Int) (em : Bool) (now : List Int) (n : Int) (h : (now.length : Int) + 1 ≤ lim) : cut lim em (now ++ [n]) = 0 := by
  unfold cut
  rw [if_neg (by simp; omega)]
theorem stays_short (lim : Int) (em : Bool) (now : List Int) (n : Int) (h : (now.length : Int) + 1 ≤ lim) : stays lim em now n = now ++ [n] := by
  unfold stays; rw [cut_short lim em now n h, List.drop_zero]
theorem goes_short (lim : Int) (em : Bool) (now : List Int) (n : Int) (h : (now.length : Int) + 1 ≤ lim) : goes lim em now n = [] := by
  unfold goes; rw [cut_short lim em now n h, List.take_zero]
theorem cut_all (lim : Int) (now : List Int) (n : Int) (h : lim < (now.length : Int) + 1) : cut lim true (now ++ [n]) = now.length := by
  unfold cut
  rw [if_pos (by simp; omega)]; simp
theorem cut_some (lim : Int) (now : List Int) (n : Int) (h : lim < (now.length : Int) + 1) : cut lim false (now ++ [n]) = ((now.length : Int) + 1 - lim).toNat := by
  unfold cut
  rw [if_pos (by simp; omega)]; simp
end Go.Proofs.YtfmjeppajpiekaaGreatDoor.Ge

end
