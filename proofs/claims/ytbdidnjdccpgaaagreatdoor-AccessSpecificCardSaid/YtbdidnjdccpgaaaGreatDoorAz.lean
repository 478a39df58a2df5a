/- Access in plain words: the most specific profile among profiles of different names, in any order. No program in sight. -/
import Derived.Test.YtbdidnjdccpgaaaGreatDoorRm
namespace Go.Proofs.YtbdidnjdccpgaaaGreatDoor
set_option maxHeartbeats 1600000
set_option maxRecDepth 8000
theorem hits_pat {n : List UInt8} {x : Ef} (h : hits n x = true) : Ds.pat (Ds.bl x.e.name) = true := by
  have := (hits_ok h).2.1
  unfold okQ at this
  simp only [Bool.and_eq_true] at this
  exact this.1
/-- what the best one is: it hits, and none that hits is ahead of it -/
theorem best_fold (n : List UInt8) : ∀ (l : List Ef) (o : Option Ef), (∀ y, o = some y → hits n y = true) →
    (l.foldl (bstep n) o = none → o = none ∧ ∀ y ∈ l, hits n y = false) ∧
    (∀ x, l.foldl (bstep n) o = some x → hits n x = true ∧ (∀ y, o = some y → 0 ≤ Ds.order (Ds.bl y.e.name) (Ds.bl x.e.name)) ∧ ∀ y ∈ l, hits n y = true → 0 ≤ Ds.order (Ds.bl y.e.name) (Ds.bl x.e.name))
  | [], o, ho => ⟨fun h => ⟨h, fun y hy => by cases hy⟩, fun x hx => ⟨ho x hx, fun y hy => by
      rw [List.foldl_nil] at hx; rw [hx] at hy; cases hy
      rw [(Ds.order_zero _ _ (hits_pat (ho x hx)) (hits_pat (ho x hx))).2 rfl]; exact Int.le_refl _, fun y hy => by cases hy⟩⟩
  | z :: l, o, ho => by
    rw [List.foldl_cons]
    have hz : ∀ y, bstep n o z = some y → hits n y = true := fun y hy => by
      unfold bstep at hy
      split at hy
      · rename_i c; cases hy; exact c.1
      · exact ho y hy
    obtain ⟨h1, h2⟩ := best_fold n l (bstep n o z) hz
    refine ⟨fun h => ?_, fun x hx => ?_⟩
    · obtain ⟨e, h3⟩ := h1 h
      unfold bstep at e
      split at e
      · cases e
      · rename_i c
        subst e
        refine ⟨rfl, fun y hy => ?_⟩
        rcases List.mem_cons.1 hy with rfl | hy
        · rw [Bool.eq_false_iff]; intro h; exact c ⟨h, rfl⟩
        · exact h3 y hy
    · obtain ⟨h3, h4, h5⟩ := h2 x hx
      have px := hits_pat h3
      have key : (∀ y, o = some y → 0 ≤ Ds.order (Ds.bl y.e.name) (Ds.bl x.e.name)) ∧ (hits n z = true → 0 ≤ Ds.order (Ds.bl z.e.name) (Ds.bl x.e.name)) := by
        unfold bstep at h4
        split at h4
        · rename_i c
          have hzx := h4 z rfl
          refine ⟨fun y hy => ?_, fun _ => hzx⟩
          subst hy
          have hah := c.2
          unfold ahead at hah
          simp only [decide_eq_true_eq] at hah
          have t := Ds.order_trans (Ds.bl x.e.name) (Ds.bl z.e.name) (Ds.bl y.e.name) px (hits_pat c.1) (hits_pat (ho y rfl)) (by rw [Ds.order_neg]; omega) (by omega)
          rw [Ds.order_neg]; omega
        · rename_i c
          refine ⟨h4, fun hzz => ?_⟩
          cases o with
          | none => exact absurd ⟨hzz, rfl⟩ c
          | some y =>
            have hyx := h4 y rfl
            have hah : ¬ Ds.order (Ds.bl z.e.name) (Ds.bl y.e.name) < 0 := fun h => c ⟨hzz, by unfold ahead; simp only [decide_eq_true_eq]; exact h⟩
            have t := Ds.order_trans (Ds.bl x.e.name) (Ds.bl y.e.name) (Ds.bl z.e.name) px (hits_pat (ho y rfl)) (hits_pat hzz) (by rw [Ds.order_neg]; omega) (by rw [Ds.order_neg]; omega)
            rw [Ds.order_neg]; omega
      refine ⟨h3, key.1, fun y hy => ?_⟩
      rcases List.mem_cons.1 hy with rfl | hy
      · exact key.2
      · exact h5 y hy
theorem best_none (n : List UInt8) (l : List Ef) (h : best n l = none) : ∀ y ∈ l, hits n y = false := ((best_fold n l none (fun _ h => by cases h)).1 h).2
theorem best_le (n : List UInt8) (l : List Ef) (x : Ef) (h : best n l = some x) : ∀ y ∈ l, hits n y = true → 0 ≤ Ds.order (Ds.bl y.e.name) (Ds.bl x.e.name) := ((best_fold n l none (fun _ h => by cases h)).2 x h).2.2
/-- those that hit, each name once, the first of its name -/
def dstep (n : List UInt8) (D : List Ef) (x : Ef) : List Ef := if hits n x = true ∧ D.any (fun y => decide (y.e.name = x.e.name)) = false then D ++ [x] else D
def dis (n : List UInt8) (l : List Ef) : List Ef := l.foldl (dstep n) []
theorem dis_snoc (n : List UInt8) (l : List Ef) (x : Ef) : dis n (l ++ [x]) = dstep n (dis n l) x := by unfold dis; rw [List.foldl_append]; rfl
theorem any_name (D : List Ef) (s : ByteArray) : D.any (fun y => decide (y.e.name = s)) = true ↔ ∃ y ∈ D, y.e.name = s := by simp [List.any_eq_true]
theorem rev_ind {α : Type} {P : List α → Prop} (h0 : P []) (h1 : ∀ l x, P l → P (l ++ [x])) (l : List α) : P l := by
  rw [← List.reverse_reverse l]
  induction l.reverse with
  | nil => exact h0
  | cons a r ih => rw [List.reverse_cons]; exact h1 _ _ ih
theorem dis_facts (n : List UInt8) (l : List Ef) : (∀ y ∈ dis n l, y ∈ l ∧ hits n y = true) ∧ (∀ y ∈ l, hits n y = true → ∃ z ∈ dis n l, z.e.name = y.e.name) ∧ (∀ y ∈ dis n l, ∀ z ∈ dis n l, y.e.name = z.e.name → y = z) ∧ ∀ x, best n l = some x → x ∈ dis n l := by
  induction l using rev_ind with
  | h0 => exact ⟨fun y h => (by cases h), fun y h _ => (by cases h), fun y h => (by cases h), fun x h => (by cases h)⟩
  | h1 l w ih =>
    obtain ⟨i1, i2, i3, i4⟩ := ih
    rw [dis_snoc, best_snoc]
    by_cases hc : hits n w = true ∧ (dis n l).any (fun y => decide (y.e.name = w.e.name)) = false
    · unfold dstep
      rw [if_pos hc]
      have hno : ∀ y ∈ dis n l, y.e.name ≠ w.e.name := fun y hy e => by
        have := (any_name (dis n l) w.e.name).2 ⟨y, hy, e⟩
        rw [hc.2] at this; cases this
      refine ⟨fun y hy => ?_, fun y hy hh => ?_, fun y hy z hz e => ?_, fun x hx => ?_⟩
      · rcases List.mem_append.1 hy with h | h
        · exact ⟨by simp [(i1 y h).1], (i1 y h).2⟩
        · rw [List.mem_singleton] at h; subst h; exact ⟨by simp, hc.1⟩
      · rcases List.mem_append.1 hy with h | h
        · obtain ⟨z, hz, e⟩ := i2 y h hh; exact ⟨z, by simp [hz], e⟩
        · rw [List.mem_singleton] at h; subst h; exact ⟨y, by simp, rfl⟩
      · rcases List.mem_append.1 hy with h | h <;> rcases List.mem_append.1 hz with k | k
        · exact i3 y h z k e
        · rw [List.mem_singleton] at k; subst k; exact absurd e (hno y h)
        · rw [List.mem_singleton] at h; subst h; exact absurd e.symm (hno z k)
        · rw [List.mem_singleton] at h k; rw [h, k]
      · unfold bstep at hx
        split at hx
        · cases hx; simp
        · exact List.mem_append_left _ (i4 x hx)
    · unfold dstep
      rw [if_neg hc]
      refine ⟨fun y hy => ⟨by simp [(i1 y hy).1], (i1 y hy).2⟩, fun y hy hh => ?_, i3, fun x hx => ?_⟩
      · rcases List.mem_append.1 hy with h | h
        · exact i2 y h hh
        · rw [List.mem_singleton] at h; subst h
          have : (dis n l).any (fun z => decide (z.e.name = y.e.name)) = true := by
            rcases Bool.eq_false_or_eq_true ((dis n l).any (fun z => decide (z.e.name = y.e.name))) with h | h
            · exact h
            · exact absurd ⟨hh, h⟩ hc
          exact (any_name _ _).1 this
      · unfold bstep at hx
        split at hx
        · rename_i c
          cases hx
          exfalso
          have : (dis n l).any (fun z => decide (z.e.name = w.e.name)) = true := by
            rcases Bool.eq_false_or_eq_true ((dis n l).any (fun z => decide (z.e.name = w.e.name))) with h | h
            · exact h
            · exact absurd ⟨c.1, h⟩ hc
          obtain ⟨z, hz, e⟩ := (any_name _ _).1 this
          cases hb : best n l with
          | none => have := best_none n l hb z (i1 z hz).1; rw [(i1 z hz).2] at this; cases this
          | some b =>
            have h0 := best_le n l b hb z (i1 z hz).1 (i1 z hz).2
            have ha := c.2
            rw [hb] at ha
            unfold ahead at ha
            simp only [decide_eq_true_eq] at ha
            rw [e] at h0; omega
        · exact i4 x hx
/-- any list of just those has the same best -/
theorem best_dis (n : List UInt8) (l m : List Ef) (h : ∀ y, y ∈ m ↔ y ∈ dis n l) : best n m = best n l := by
  obtain ⟨i1, i2, i3, i4⟩ := dis_facts n l
  cases hb : best n l with
  | none =>
    cases hm : best n m with
    | none => rfl
    | some y =>
      have hy := best_hit hm
      have := best_none n l hb y (i1 y ((h y).1 hy.1)).1
      rw [hy.2] at this; cases this
  | some x =>
    have hx := i4 x hb
    have hxh := (i1 x hx).2
    cases hm : best n m with
    | none => have := best_none n m hm x ((h x).2 hx); rw [hxh] at this; cases this
    | some y =>
      have hy := best_hit hm
      have h1 := best_le n m y hm x ((h x).2 hx) hxh
      have h2 := best_le n l x hb y (i1 y ((h y).1 hy.1)).1 hy.2
      rw [Ds.order_neg] at h2
      have h3 : Ds.order (Ds.bl x.e.name) (Ds.bl y.e.name) = 0 := by omega
      have h4 := (Ds.order_zero _ _ (hits_pat hxh) (hits_pat hy.2)).1 h3
      rw [i3 y ((h y).1 hy.1) x hx (Ds.bl_inj h4.symm)]
theorem lvl_best (l m : List Ef) (u : ByteArray) (gr : List ByteArray) (name : ByteArray) (h : best (Ds.bl name) l = best (Ds.bl name) m) : lvl l u gr name = lvl m u gr name := by
  unfold lvl; rw [h]
/-- the order of profiles with different patterns does not matter -/
theorem lvl_turned (l : List Ef) (k : Nat) (u : ByteArray) (gr : List ByteArray) (name : ByteArray) : lvl ((dis (Ds.bl name) l).drop k ++ (dis (Ds.bl name) l).take k) u gr name = lvl l u gr name :=
  lvl_best _ _ _ _ _ (best_dis _ _ _ fun y => by
    rw [List.mem_append, or_comm, ← List.mem_append, List.take_append_drop])
theorem dis_empty (n : List UInt8) (l : List Ef) (h : best n l = none) : dis n l = [] := by
  rcases hd : dis n l with _ | ⟨y, r⟩
  · rfl
  · have := (dis_facts n l).1 y (by rw [hd]; simp)
    have h2 := best_none n l h y this.1
    rw [this.2] at h2; cases h2
theorem dis_prefix (n : List UInt8) (l m : List Ef) : ∃ r, dis n (l ++ m) = dis n l ++ r := by
  induction m using rev_ind with
  | h0 => exact ⟨[], by simp⟩
  | h1 m x ih =>
    obtain ⟨r, hr⟩ := ih
    rw [← List.append_assoc, dis_snoc, hr]
    unfold dstep
    split
    · exact ⟨r ++ [x], by rw [List.append_assoc]⟩
    · exact ⟨r, rfl⟩
end Go.Proofs.YtbdidnjdccpgaaaGreatDoor
