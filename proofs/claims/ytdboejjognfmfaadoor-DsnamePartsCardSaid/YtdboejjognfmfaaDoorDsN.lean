/- The reference's part in plain words: is it the same as nameQ and patQ? -/
import Derived.Test.YtdboejjognfmfaaDoorDsP
import Derived.Test.YtdboejjognfmfaaDoorDsM
namespace Go.Proofs.YtdboejjognfmfaaDoor.Ds
/-- what the reference asks at place j of a part -/
def okAt (st : Bool) (l : List UInt8) (j : Nat) : Bool := (up (l.getD j 0) || dg (l.getD j 0) || (st && decide ((l.getD j 0).toNat = 42))) && !(st && decide ((l.getD j 0).toNat = 42) && decide (0 < j) && decide ((l.getD (j - 1) 0).toNat = 42))
def partR (st : Bool) (l : List UInt8) : Bool := decide (1 ≤ l.length) && decide (l.length ≤ 8) && !dg (l.getD 0 0) && (List.range l.length).all (okAt st l)
def partE (st : Bool) (l : List UInt8) : Bool := (st && decide (l = [42, 42])) || partR st l
theorem star_eq (c : UInt8) : decide (c.toNat = 42) = decide (c = 42) := by
  congr 1; rw [eq_iff_iff, ← UInt8.toNat_inj]; rfl
theorem up_not_dg (c : UInt8) (h : up c = true) : dg c = false := by
  simp only [up, Bool.and_eq_true, decide_eq_true_eq] at h
  simp [dg]; omega
theorem star_not_dg (c : UInt8) (h : c.toNat = 42) : dg c = false := by simp [dg, h]
theorem range_all (n : Nat) (G : Nat → Bool) : (List.range n).all G = true ↔ ∀ j, j < n → G j = true := by simp
theorem ss_iff : ∀ l : List UInt8, ss l = true ↔ ∃ j, j + 1 < l.length ∧ (l.getD j 0).toNat = 42 ∧ (l.getD (j + 1) 0).toNat = 42
  | [] => by simp [ss]
  | [a] => by simp [ss]
  | a :: b :: r => by
    have ih := ss_iff (b :: r)
    rw [ss, Bool.or_eq_true, ih, Bool.and_eq_true, decide_eq_true_eq, decide_eq_true_eq]
    constructor
    · rintro (h | ⟨j, h1, h2, h3⟩)
      · exact ⟨0, by simp, h.1, h.2⟩
      · exact ⟨j + 1, by simp at h1 ⊢; omega, h2, h3⟩
    · rintro ⟨j, h1, h2, h3⟩
      cases j with
      | zero => exact .inl ⟨h2, h3⟩
      | succ j => exact .inr ⟨j, by simp at h1 ⊢; omega, h2, h3⟩
theorem partE_name (l : List UInt8) : partE false l = nameQ l := by
  unfold partE partR nameQ
  simp only [Bool.false_and, Bool.false_or]
  cases l with
  | nil => rfl
  | cons c r =>
    rw [Bool.eq_iff_iff]
    simp only [Bool.and_eq_true, decide_eq_true_eq, List.mem_range, qual, List.length_cons, Bool.not_eq_true', List.getD_cons_zero, List.all_eq_true]
    constructor
    · rintro ⟨⟨⟨_, h1⟩, h2⟩, h3⟩
      refine ⟨⟨by omega, ?_⟩, ?_⟩
      · have := h3 0 (by omega)
        simp [okAt, h2] at this; exact this
      · intro x hx
        obtain ⟨i, hi, rfl⟩ := List.getElem_of_mem hx
        have := h3 (i + 1) (by omega)
        simp [okAt, hi] at this
        simp [pl, this]
    · rintro ⟨⟨h1, h2⟩, h3⟩
      refine ⟨⟨⟨by omega, by omega⟩, up_not_dg c h2⟩, ?_⟩
      intro j hj
      cases j with
      | zero => simp [okAt, h2]
      | succ j =>
        have hj' : j < r.length := by omega
        have := h3 r[j] (List.getElem_mem hj')
        simp [okAt, hj']
        simpa [pl] using this
theorem partE_pat (l : List UInt8) : partE true l = patQ l := by
  unfold partE patQ
  rw [Bool.true_and]
  by_cases h : l = [42, 42]
  · simp [h]
  rw [decide_eq_false h, Bool.false_or, Bool.false_or]
  unfold partR
  cases l with
  | nil => rfl
  | cons c r =>
    rw [Bool.eq_iff_iff]
    simp only [Bool.and_eq_true, decide_eq_true_eq, List.mem_range, qual, List.length_cons, Bool.not_eq_true', List.getD_cons_zero, List.all_eq_true]
    constructor
    · rintro ⟨⟨⟨_, h1⟩, h2⟩, h3⟩
      refine ⟨⟨⟨by omega, ?_⟩, ?_⟩, ?_⟩
      · have := h3 0 (by omega)
        simp [okAt, h2] at this; simp [ups, this]
      · intro x hx
        obtain ⟨i, hi, rfl⟩ := List.getElem_of_mem hx
        have := h3 (i + 1) (by omega)
        have e : (c :: r).getD (i + 1) 0 = r[i] := by simp [hi]
        unfold okAt at this
        rw [e, Bool.and_eq_true] at this
        have h4 := this.1
        simpa [pls, pl] using h4
      · rw [Bool.eq_false_iff]
        intro hs
        obtain ⟨j, j1, j2, j3⟩ := (ss_iff _).1 hs
        have := h3 (j + 1) (by simpa using j1)
        unfold okAt at this
        rw [show j + 1 - 1 = j from rfl, j2, j3] at this
        simp at this
    · rintro ⟨⟨⟨h1, h2⟩, h3⟩, h4⟩
      refine ⟨⟨⟨by omega, by omega⟩, ?_⟩, ?_⟩
      · simp only [ups, Bool.or_eq_true, decide_eq_true_eq] at h2
        rcases h2 with h2 | h2
        · exact up_not_dg c h2
        · exact star_not_dg c h2
      · intro j hj
        have key : ¬ ((((c :: r).getD j 0).toNat = 42 ∧ 0 < j) ∧ ((c :: r).getD (j - 1) 0).toNat = 42) := by
          rintro ⟨⟨k1, k2⟩, k3⟩
          rw [Bool.eq_false_iff] at h4
          exact h4 ((ss_iff _).2 ⟨j - 1, by simp; omega, k3, by rw [Nat.sub_add_cancel k2]; exact k1⟩)
        have g : (up ((c :: r).getD j 0) || dg ((c :: r).getD j 0) || decide (((c :: r).getD j 0).toNat = 42)) = true := by
          cases j with
          | zero =>
            rw [List.getD_cons_zero]
            simp only [ups, Bool.or_eq_true, decide_eq_true_eq] at h2 ⊢
            rcases h2 with h2 | h2
            · exact .inl (.inl h2)
            · exact .inr h2
          | succ j =>
            have hj' : j < r.length := by omega
            have := h3 r[j] (List.getElem_mem hj')
            rw [show (c :: r).getD (j + 1) 0 = r[j] from by simp [hj']]
            simpa [pls, pl] using this
        unfold okAt
        simp only [Bool.true_and]
        rw [g, Bool.true_and, Bool.not_eq_true', Bool.eq_false_iff]
        simpa [Bool.and_eq_true] using key
/-- names and patterns by the reference's part -/
def validE (st : Bool) (s : List UInt8) : Bool := decide (1 ≤ s.length) && decide (s.length ≤ 31) && (pieces s).all (partE st)
theorem validE_name (s : List UInt8) : validE false s = name s := by
  unfold validE name
  congr 2; funext q; exact partE_name q
theorem validE_pat (s : List UInt8) : validE true s = pat s := by
  unfold validE pat
  congr 2; funext q; exact partE_pat q
theorem join_snoc (l : List (List UInt8)) (x : List UInt8) (h : l ≠ []) : Lib.join (l ++ [x]) [46] = Lib.join l [46] ++ [46] ++ x := by
  induction l with
  | nil => exact absurd rfl h
  | cons a r ih =>
    cases r with
    | nil => rw [List.cons_append, List.nil_append, join_cons2, Lib.join_one, Lib.join_one]
    | cons b r =>
      rw [List.cons_append, List.cons_append, join_cons2, join_cons2, ← List.cons_append, ih (by simp)]
      simp [List.append_assoc]
/-- what stands before the last full stop, and behind it -/
def front (s : List UInt8) : List UInt8 := Lib.join (pieces s).dropLast [46]
def last (s : List UInt8) : List UInt8 := (pieces s).getLastD []
/-- the generation's group and number -/
def gen (s : List UInt8) : Bool := group (front s) && !decide (num (last s) = 0)
end Go.Proofs.YtdboejjognfmfaaDoor.Ds
