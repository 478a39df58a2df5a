/- Plain words on the library's Split, Contains, ReplaceAll and Join at one byte. -/
import Derived.Test.YtlkfhlgngkgflaaGreatDoorDs
namespace Go.Proofs.YtlkfhlgngkgflaaGreatDoor.Ds
theorem index_cons (c d : UInt8) (r : List UInt8) : Lib.index (c :: r) [d] = if c = d then 0 else if Lib.index r [d] = -1 then -1 else Lib.index r [d] + 1 := by
  rw [Lib.index]
  simp only [List.isPrefixOf, Bool.and_true, beq_iff_eq]
  by_cases h : c = d
  · subst h; simp
  · rw [if_neg (fun e => h e.symm), if_neg h]
theorem index_nil1 (d : UInt8) : Lib.index [] [d] = -1 := by simp [Lib.index]
theorem count_nil1 (d : UInt8) : Lib.count [] [d] = 0 := Lib.count_miss (index_nil1 d)
theorem count_cons_hit (d : UInt8) (r : List UInt8) : Lib.count (d :: r) [d] = 1 + Lib.count r [d] := by
  have h : Lib.index (d :: r) [d] = (0 : Nat) := by rw [index_cons]; simp
  rw [Lib.count_hit (by simp) h]; simp
theorem count_cons_miss (c d : UInt8) (r : List UInt8) (hc : c ≠ d) : Lib.count (c :: r) [d] = Lib.count r [d] := by
  rcases Lib.index_spec r [d] with ⟨h, _⟩ | ⟨i, h, _⟩
  · rw [Lib.count_miss h, Lib.count_miss (by rw [index_cons, if_neg hc, if_pos h])]
  · have h' : Lib.index (c :: r) [d] = ((i + 1 : Nat) : Int) := by rw [index_cons, if_neg hc, if_neg (by omega), h]; rfl
    rw [Lib.count_hit (by simp) h, Lib.count_hit (by simp) h']; simp
theorem splitK_pieces (s : List UInt8) : Lib.splitK [46] 0 (Lib.count s [46]) s = pieces s := by
  induction s with
  | nil => rw [count_nil1]; rfl
  | cons c r ih =>
    by_cases hc : c = 46
    · subst hc
      rw [count_cons_hit, Nat.add_comm, Lib.splitK]
      have h : Lib.index (46 :: r) [46] = 0 := by rw [index_cons]; simp
      rw [h]
      simp [pieces, ih]
    · rw [count_cons_miss c 46 r hc]
      simp only [pieces, if_neg hc]
      rw [← ih]
      rcases Lib.index_spec r [46] with ⟨h, _⟩ | ⟨i, h, _⟩
      · rw [Lib.count_miss h]; rfl
      · have h' : Lib.index (c :: r) [46] = ((i + 1 : Nat) : Int) := by rw [index_cons, if_neg hc, if_neg (by omega), h]; rfl
        rw [Lib.count_hit (by simp) h, Nat.add_comm, Lib.splitK, Lib.splitK, h', h]
        have e1 : ((i : Int) == -1) = false := by simp
        have e2 : (((i + 1 : Nat) : Int) == -1) = false := by simp; omega
        simp only [e1, e2]
        simp [Int.toNat_natCast]
theorem count_eq (s : List UInt8) (d : UInt8) : Lib.count s [d] = s.count d := by
  induction s with
  | nil => rw [count_nil1]; rfl
  | cons c r ih =>
    by_cases hc : c = d
    · subst hc; rw [count_cons_hit, ih]; simp; omega
    · rw [count_cons_miss c d r hc, ih]
      have : (c == d) = false := by simpa using hc
      simp [List.count_cons, this]
theorem join_pieces (s : List UInt8) : Lib.join (pieces s) [46] = s := by
  unfold Lib.join
  induction s with
  | nil => rfl
  | cons c r ih =>
    simp only [pieces]
    split
    · rename_i e; subst e
      cases h : pieces r with
      | nil => exact absurd h (pieces_ne r)
      | cons p ps => rw [h] at ih; rw [← ih]; simp [List.intercalate]
    · cases h : pieces r with
      | nil => exact absurd h (pieces_ne r)
      | cons p ps =>
        rw [h] at ih
        simp only
        rw [← ih]
        cases ps <;> simp [List.intercalate]
theorem join_cons2 (a b : List UInt8) (r : List (List UInt8)) (sep : List UInt8) : Lib.join (a :: b :: r) sep = a ++ sep ++ Lib.join (b :: r) sep := by
  unfold Lib.join; simp [List.intercalate]
theorem join_take (xs : List (List UInt8)) (sep : List UInt8) : ∀ n, (Lib.join (xs.take n) sep).length ≤ (Lib.join xs sep).length := by
  induction xs with
  | nil => intro n; simp
  | cons a r ih =>
    intro n
    cases n with
    | zero => simp [Lib.join_nil]
    | succ n =>
      cases r with
      | nil => simp
      | cons b r =>
        cases n with
        | zero =>
          rw [List.take_succ_cons, List.take_zero, Lib.join_one, join_cons2]; simp
        | succ n =>
          have := ih (n + 1)
          rw [List.take_succ_cons] at this
          rw [List.take_succ_cons, List.take_succ_cons, join_cons2, join_cons2]
          simp only [List.length_append]; omega
theorem contains_ss (s : List UInt8) : Lib.contains s [42, 42] = ss s := by
  have key : ∀ s : List UInt8, decide (0 ≤ Lib.index s [42, 42]) = ss s := by
    intro s
    induction s with
    | nil => simp [Lib.index, ss]
    | cons a r ih =>
      rw [Lib.index]
      cases r with
      | nil => simp [Lib.index, ss, List.isPrefixOf]
      | cons b r =>
        simp only [ss, ← ih, List.isPrefixOf, Bool.and_true]
        have e : ∀ x : UInt8, (42 == x) = decide (x.toNat = 42) := by
          intro x
          rw [Bool.eq_iff_iff]; simp only [beq_iff_eq, decide_eq_true_eq]
          constructor
          · rintro rfl; rfl
          · intro h; exact UInt8.toNat_inj.1 h.symm
        rw [e a, e b]
        cases h : (decide (a.toNat = 42) && decide (b.toNat = 42))
        · have hi := Lib.index_ge (b :: r) [42, 42]
          simp only [Bool.false_eq_true, if_false, Bool.false_or]
          by_cases h1 : Lib.index (b :: r) [42, 42] = -1
          · simp [h1]
          · have h1' : (Lib.index (b :: r) [42, 42] == -1) = false := by simpa using h1
            simp only [h1', Bool.false_eq_true, if_false]
            rw [Bool.eq_iff_iff]; simp only [decide_eq_true_eq]; omega
        · simp
  exact key s
theorem replaceK_map (s : List UInt8) (d e : UInt8) : Lib.replaceK [d] [e] (Lib.count s [d]) s = s.map fun c => if c = d then e else c := by
  induction s with
  | nil => rw [count_nil1]; rfl
  | cons c r ih =>
    by_cases hc : c = d
    · subst hc
      rw [count_cons_hit, Nat.add_comm, Lib.replaceK]
      have h : Lib.index (c :: r) [c] = 0 := by rw [index_cons]; simp
      rw [h]
      simp [ih]
    · rw [count_cons_miss c d r hc]
      simp only [List.map_cons, if_neg hc]
      rw [← ih]
      rcases Lib.index_spec r [d] with ⟨h, _⟩ | ⟨i, h, _⟩
      · rw [Lib.count_miss h]; rfl
      · have h' : Lib.index (c :: r) [d] = ((i + 1 : Nat) : Int) := by rw [index_cons, if_neg hc, if_neg (by omega), h]; rfl
        rw [Lib.count_hit (by simp) h, Nat.add_comm, Lib.replaceK, Lib.replaceK, h', h]
        have e1 : ((i : Int) == -1) = false := by simp
        have e2 : (((i + 1 : Nat) : Int) == -1) = false := by simp; omega
        simp only [e1, e2]
        simp [Int.toNat_natCast]
theorem replaceAll_map (s : List UInt8) (d e : UInt8) (h : d ≠ e) : Lib.replaceAll s [d] [e] = s.map fun c => if c = d then e else c := by
  unfold Lib.replaceAll Lib.replace Lib.replaceNum
  have hb : (([d] : List UInt8) == [e]) = false := by
    rw [Bool.eq_false_iff]; intro h'; simp at h'; exact h h'
  rw [hb]
  simp only [Bool.false_eq_true, if_false]
  rw [if_pos (.inl (by decide)), replaceK_map]
theorem bl_eq (s : ByteArray) (l : List UInt8) : s = ⟨l.toArray⟩ ↔ bl s = l := by
  constructor
  · rintro rfl; exact bl_mk l
  · intro h; rw [← h, mk_bl]
theorem bl_beq (s : ByteArray) (l : List UInt8) (h : ¬ s = ⟨l.toArray⟩) : (s.toList == l) = false := by
  rw [ByteArray.toList_eq, Bool.eq_false_iff]
  intro e
  exact h ((bl_eq s l).2 (by simpa [bl] using e))
theorem qual_le (F G : UInt8 → Bool) (l : List UInt8) (h : qual F G l = true) : l.length ≤ 8 := by
  rcases Nat.lt_or_ge 8 l.length with h' | h'
  · rw [qual_len F G l (.inr h')] at h; cases h
  · exact h'
end Go.Proofs.YtlkfhlgngkgflaaGreatDoor.Ds
