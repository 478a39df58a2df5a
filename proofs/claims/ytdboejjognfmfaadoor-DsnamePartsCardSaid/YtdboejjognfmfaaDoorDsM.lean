/- Matching in plain words: an inductive reading of the table, its mirror image; pieces read from the end. -/
import Derived.Test.YtdboejjognfmfaaDoorDs
namespace Go.Proofs.YtdboejjognfmfaaDoor.Ds
/-- matching, as a relation -/
inductive M {α β : Type} (star : α → Bool) (one : α → β → Bool) : List α → List β → Prop
  | nil : M star one [] []
  | skip {a p l} : star a = true → M star one p l → M star one (a :: p) l
  | eat {a p b l} : star a = true → M star one (a :: p) l → M star one (a :: p) (b :: l)
  | one {a p b l} : star a = false → one a b = true → M star one p l → M star one (a :: p) (b :: l)
theorem mt_M {α β : Type} (star : α → Bool) (one : α → β → Bool) : ∀ (m : Nat) (p : List α) (l : List β), p.length + l.length ≤ m → (mt star one p l = true ↔ M star one p l) := by
  intro m
  induction m with
  | zero =>
    intro p l h
    cases p <;> cases l <;> simp at h
    simp [mt, M.nil]
  | succ m ih =>
    intro p l h
    cases p with
    | nil =>
      cases l with
      | nil => simp [mt, M.nil]
      | cons b l => simp only [mt, Bool.false_eq_true, false_iff]; intro h; cases h
    | cons a p =>
      cases l with
      | nil =>
        simp only [List.length_cons, List.length_nil] at h
        rw [mt, Bool.and_eq_true, ih p [] (by simp; omega)]
        constructor
        · rintro ⟨h1, h2⟩; exact .skip h1 h2
        · intro h; cases h with
          | skip h1 h2 => exact ⟨h1, h2⟩
      | cons b l =>
        simp only [List.length_cons] at h
        rw [mt]
        cases hs : star a
        · simp only [Bool.false_eq_true, if_false, Bool.and_eq_true]
          rw [ih p l (by omega)]
          constructor
          · rintro ⟨h1, h2⟩; exact .one hs h1 h2
          · intro h; cases h with
            | skip h1 h2 => rw [hs] at h1; cases h1
            | eat h1 h2 => rw [hs] at h1; cases h1
            | one h1 h2 h3 => exact ⟨h2, h3⟩
        · simp only [if_true, Bool.or_eq_true]
          rw [ih p (b :: l) (by simp; omega), ih (a :: p) l (by simp; omega)]
          constructor
          · rintro (h | h)
            · exact .skip hs h
            · exact .eat hs h
          · intro h; cases h with
            | skip h1 h2 => exact .inl h2
            | eat h1 h2 => exact .inr h2
            | one h1 h2 h3 => rw [hs] at h1; cases h1
theorem mt_iff {α β : Type} (star : α → Bool) (one : α → β → Bool) (p : List α) (l : List β) : mt star one p l = true ↔ M star one p l := mt_M star one _ p l (Nat.le_refl _)
theorem M_append {α β : Type} {star : α → Bool} {one : α → β → Bool} {p l} (h : M star one p l) {p' l'} (h' : M star one p' l') : M star one (p ++ p') (l ++ l') := by
  induction h with
  | nil => exact h'
  | skip h1 _ ih => exact .skip h1 ih
  | eat h1 _ ih => exact .eat h1 ih
  | one h1 h2 _ ih => exact .one h1 h2 ih
/-- a star stands for any list -/
theorem M_star {α β : Type} {star : α → Bool} {one : α → β → Bool} (a : α) (h : star a = true) : ∀ l : List β, M star one [a] l
  | [] => .skip h .nil
  | _ :: l => .eat h (M_star a h l)
theorem M_split {α β : Type} {star : α → Bool} {one : α → β → Bool} (p p' : List α) : ∀ (l : List β), M star one (p ++ p') l → ∃ l1 l2, l = l1 ++ l2 ∧ M star one p l1 ∧ M star one p' l2 := by
  intro l h
  generalize e : p ++ p' = q at h
  induction h generalizing p with
  | nil => 
    have := List.append_eq_nil_iff.1 e
    obtain ⟨rfl, rfl⟩ := this
    exact ⟨[], [], rfl, .nil, .nil⟩
  | @skip a q l h1 h2 ih =>
    cases p with
    | nil => exact ⟨[], l, rfl, .nil, by simp at e; rw [e]; exact .skip h1 h2⟩
    | cons c p =>
      simp only [List.cons_append, List.cons.injEq] at e
      obtain ⟨rfl, e⟩ := e
      obtain ⟨l1, l2, rfl, h3, h4⟩ := ih p e
      exact ⟨l1, l2, rfl, .skip h1 h3, h4⟩
  | @eat a q b l h1 h2 ih =>
    cases p with
    | nil => exact ⟨[], b :: l, rfl, .nil, by simp at e; rw [e]; exact .eat h1 h2⟩
    | cons c p =>
      have e' := e
      simp only [List.cons_append, List.cons.injEq] at e'
      obtain ⟨rfl, e'⟩ := e'
      obtain ⟨l1, l2, rfl, h3, h4⟩ := ih (c :: p) e
      exact ⟨b :: l1, l2, rfl, .eat h1 h3, h4⟩
  | @one a q b l h1 h2 h3 ih =>
    cases p with
    | nil => exact ⟨[], b :: l, rfl, .nil, by simp at e; rw [e]; exact .one h1 h2 h3⟩
    | cons c p =>
      simp only [List.cons_append, List.cons.injEq] at e
      obtain ⟨rfl, e⟩ := e
      obtain ⟨l1, l2, rfl, h4, h5⟩ := ih p e
      exact ⟨b :: l1, l2, rfl, .one h1 h2 h4, h5⟩
theorem M_one_inv {α β : Type} {star : α → Bool} {one : α → β → Bool} {a : α} (h : star a = false) {l : List β} (hm : M star one [a] l) : ∃ b, l = [b] ∧ one a b = true := by
  cases hm with
  | skip h1 _ => rw [h] at h1; cases h1
  | eat h1 _ => rw [h] at h1; cases h1
  | one _ h2 h3 => cases h3; exact ⟨_, rfl, h2⟩
/-- from the end: a star -/
theorem mt_snoc_star {α β : Type} (star : α → Bool) (one : α → β → Bool) (p : List α) (a : α) (h : star a = true) (l : List β) (b : β) :
    mt star one (p ++ [a]) (l ++ [b]) = (mt star one p (l ++ [b]) || mt star one (p ++ [a]) l) := by
  rw [Bool.eq_iff_iff, Bool.or_eq_true, mt_iff, mt_iff, mt_iff]
  constructor
  · intro hm
    obtain ⟨l1, l2, e, h1, h2⟩ := M_split _ _ _ hm
    rcases List.eq_nil_or_concat l2 with rfl | ⟨m, c, rfl⟩
    · simp at e; subst e; exact .inl h1
    · rw [List.concat_eq_append, ← List.append_assoc] at e
      obtain ⟨rfl, e2⟩ := List.append_inj' e rfl
      exact .inr (M_append h1 (M_star a h m))
  · rintro (hm | hm)
    · have := M_append hm (M_star (star := star) (one := one) a h []); simpa using this
    · obtain ⟨l1, l2, rfl, h1, h2⟩ := M_split _ _ _ hm
      rw [List.append_assoc]
      exact M_append h1 (M_star a h _)
theorem mt_snoc_nil {α β : Type} (star : α → Bool) (one : α → β → Bool) (p : List α) (a : α) :
    mt star one (p ++ [a]) [] = (star a && mt star one p []) := by
  rw [Bool.eq_iff_iff, Bool.and_eq_true, mt_iff, mt_iff]
  constructor
  · intro hm
    obtain ⟨l1, l2, e, h1, h2⟩ := M_split _ _ _ hm
    have := List.append_eq_nil_iff.1 e.symm
    obtain ⟨rfl, rfl⟩ := this
    cases h2 with
    | skip h3 _ => exact ⟨h3, h1⟩
  · rintro ⟨h, hm⟩
    have := M_append hm (M_star (star := star) (one := one) a h []); simpa using this
theorem mt_snoc_one {α β : Type} (star : α → Bool) (one : α → β → Bool) (p : List α) (a : α) (h : star a = false) (l : List β) (b : β) :
    mt star one (p ++ [a]) (l ++ [b]) = (mt star one p l && one a b) := by
  rw [Bool.eq_iff_iff, Bool.and_eq_true, mt_iff, mt_iff]
  constructor
  · intro hm
    obtain ⟨l1, l2, e, h1, h2⟩ := M_split _ _ _ hm
    obtain ⟨c, rfl, h3⟩ := M_one_inv h h2
    obtain ⟨rfl, e2⟩ := List.append_inj' e rfl
    have : c = b := by simpa using e2.symm
    subst this
    exact ⟨h1, h3⟩
  · rintro ⟨hm, h1⟩
    exact M_append hm (.one h h1 .nil)
theorem mt_nil_left {α β : Type} (star : α → Bool) (one : α → β → Bool) (l : List β) : mt star one [] l = decide (l = []) := by
  cases l <;> simp [mt]
/-- the row of the reference's table behind i parts: does the beginning of k elements match? -/
def fw {α β : Type} (star : α → Bool) (one : α → β → Bool) (p : List α) (l : List β) (i k : Nat) : Bool := mt star one (p.take i) (l.take k)
theorem fw_zero {α β : Type} (star : α → Bool) (one : α → β → Bool) (p : List α) (l : List β) (k : Nat) (hk : k ≤ l.length) : fw star one p l 0 k = decide (k = 0) := by
  unfold fw
  rw [List.take_zero, mt_nil_left]
  congr 1
  rw [List.take_eq_nil_iff]
  simp only [eq_iff_iff]
  constructor
  · rintro (h | h)
    · exact h
    · subst h; simpa using hk
  · exact .inl
theorem fw_star {α β : Type} (star : α → Bool) (one : α → β → Bool) (p : List α) (l : List β) (i k : Nat) (hi : i < p.length) (hk : k ≤ l.length) (h : star p[i] = true) :
    fw star one p l (i + 1) k = (fw star one p l i k || (decide (0 < k) && fw star one p l (i + 1) (k - 1))) := by
  unfold fw
  rw [List.take_succ_eq_append_getElem hi]
  cases k with
  | zero => rw [List.take_zero, mt_snoc_nil, h]; simp
  | succ k =>
    rw [List.take_succ_eq_append_getElem (by omega), mt_snoc_star _ _ _ _ h]
    simp
theorem fw_one {α β : Type} (star : α → Bool) (one : α → β → Bool) (p : List α) (l : List β) (i k : Nat) (hi : i < p.length) (hk : k < l.length) (h : star p[i] = false) :
    fw star one p l (i + 1) (k + 1) = (fw star one p l i k && one p[i] l[k]) := by
  unfold fw
  rw [List.take_succ_eq_append_getElem hi, List.take_succ_eq_append_getElem hk, mt_snoc_one _ _ _ _ h]
theorem fw_one0 {α β : Type} (star : α → Bool) (one : α → β → Bool) (p : List α) (l : List β) (i : Nat) (hi : i < p.length) (h : star p[i] = false) :
    fw star one p l (i + 1) 0 = false := by
  unfold fw
  rw [List.take_succ_eq_append_getElem hi, List.take_zero, mt_snoc_nil, h]; rfl
theorem fw_all {α β : Type} (star : α → Bool) (one : α → β → Bool) (p : List α) (l : List β) : fw star one p l p.length l.length = mt star one p l := by
  unfold fw; rw [List.take_of_length_le (Nat.le_refl _), List.take_of_length_le (Nat.le_refl _)]
/-- pieces from the end -/
theorem pieces_snoc (l : List UInt8) (c : UInt8) : pieces (l ++ [c]) = if c = 46 then pieces l ++ [[]] else (pieces l).dropLast ++ [(pieces l).getLastD [] ++ [c]] := by
  induction l with
  | nil => 
    simp only [List.nil_append, pieces]
    by_cases h : c = 46 <;> simp [h]
  | cons d r ih =>
    simp only [List.cons_append, pieces]
    by_cases hd : d = 46
    · rw [if_pos hd, if_pos hd, ih]
      have hne := pieces_ne r
      by_cases h : c = 46
      · simp [h]
      · rw [if_neg h, if_neg h]
        cases e : pieces r with
        | nil => exact absurd e hne
        | cons p ps => simp [List.getLastD]
    · rw [if_neg hd, if_neg hd, ih]
      have hne := pieces_ne r
      cases e : pieces r with
      | nil => exact absurd e hne
      | cons p ps =>
        by_cases h : c = 46
        · simp [h]
        · rw [if_neg h, if_neg h]
          cases ps with
          | nil => simp [List.getLastD]
          | cons q qs => simp [List.getLastD]
end Go.Proofs.YtdboejjognfmfaaDoor.Ds
