/- Keys of entries, in plain words: letter, name, blanks; the name read from a key. No program in sight. -/
import Derived.Test.YteeenpimaepieaaGreatDoorDsK
namespace Go.Proofs.YteeenpimaepieaaGreatDoor.Ek
open Ds
/-- the letter of a kind -/
def letter (k : Int) : UInt8 := if k = 0 then 68 else if k = 1 then 71 else if k = 2 then 65 else if k = 3 then 67 else if k = 4 then 80 else 0
def isKind (k : Int) : Bool := decide (0 ≤ k) && decide (k ≤ 4)
def pad (n : List UInt8) : List UInt8 := n ++ List.replicate (31 - n.length) 32
def key (k : Int) (n : List UInt8) : List UInt8 := if isKind k = true ∧ n.length ≤ 31 then letter k :: pad n else []
/-- how many of the first n bytes remain when the blanks at their end go -/
def tlen (l : List UInt8) : Nat → Nat
  | 0 => 0
  | n + 1 => if l[n]? = some 32 then tlen l n else n + 1
def trim (l : List UInt8) : List UInt8 := l.take (tlen l l.length)
theorem tlen_le (l : List UInt8) : ∀ n, tlen l n ≤ n
  | 0 => Nat.le_refl _
  | n + 1 => by
    rw [tlen]; split
    · have := tlen_le l n; omega
    · omega
theorem tlen_yes (l : List UInt8) (n : Nat) (h : l[n]? = some 32) : tlen l (n + 1) = tlen l n := by rw [tlen, if_pos h]
theorem tlen_no (l : List UInt8) (n : Nat) (h : l[n]? ≠ some 32) : tlen l (n + 1) = n + 1 := by rw [tlen, if_neg h]
theorem tlen_app (n : List UInt8) (m : Nat) : tlen (n ++ List.replicate m 32) (n.length + m) = tlen n n.length := by
  have h0 : ∀ j, j ≤ n.length → tlen (n ++ List.replicate m 32) j = tlen n j := by
    intro j
    induction j with
    | zero => intro _; rfl
    | succ j ih =>
      intro hj
      rw [tlen, tlen, List.getElem?_append_left (by omega), ih (by omega)]
  have h1 : ∀ j, j ≤ m → tlen (n ++ List.replicate m 32) (n.length + j) = tlen n n.length := by
    intro j
    induction j with
    | zero => intro _; exact h0 _ (Nat.le_refl _)
    | succ j ih =>
      intro hj
      rw [← Nat.add_assoc, tlen_yes _ _ (by rw [List.getElem?_append_right (by omega), List.getElem?_replicate, if_pos (by omega)]), ih (by omega)]
  exact h1 m (Nat.le_refl _)
theorem tlen_plain (n : List UInt8) (h : 32 ∉ n) : tlen n n.length = n.length := by
  rcases n.eq_nil_or_concat with rfl | ⟨a, b, rfl⟩
  · rfl
  · rw [List.concat_eq_append] at h ⊢
    rw [List.length_append, List.length_singleton]
    refine tlen_no _ _ ?_
    rw [List.getElem?_append_right (Nat.le_refl _)]
    intro e
    simp at e
    subst e
    exact h (by simp)
theorem trim_pad (n : List UInt8) (h : 32 ∉ n) : trim (pad n) = n := by
  unfold trim pad
  rw [List.length_append, List.length_replicate, tlen_app, tlen_plain n h, List.take_left]
theorem pad_len (n : List UInt8) (h31 : n.length ≤ 31) : (pad n).length = 31 := by
  unfold pad; rw [List.length_append, List.length_replicate]; omega
theorem pieces_mem : ∀ (s : List UInt8) (c : UInt8), c ∈ s → c = 46 ∨ ∃ q ∈ pieces s, c ∈ q
  | [], c, h => by simp at h
  | d :: r, c, h => by
    by_cases e : d = 46
    · rcases List.mem_cons.1 h with rfl | h
      · exact Or.inl e
      · rcases pieces_mem r c h with h | ⟨q, hq, hc⟩
        · exact Or.inl h
        · refine Or.inr ⟨q, ?_, hc⟩
          rw [pieces, if_pos e]; exact List.mem_cons_of_mem _ hq
    · rw [pieces, if_neg e]
      rcases List.mem_cons.1 h with rfl | h
      · refine Or.inr ?_
        cases pieces r with
        | nil => exact ⟨[c], by simp, by simp⟩
        | cons p ps => exact ⟨c :: p, by simp, by simp⟩
      · rcases pieces_mem r c h with h | ⟨q, hq, hc⟩
        · exact Or.inl h
        · refine Or.inr ?_
          cases hp : pieces r with
          | nil => rw [hp] at hq; simp at hq
          | cons p ps =>
            rw [hp] at hq
            rcases List.mem_cons.1 hq with rfl | hq
            · exact ⟨d :: q, by simp, by simp [hc]⟩
            · exact ⟨q, by simp [hq], hc⟩
theorem pls_not32 (c : UInt8) (h : pls c = true) : c ≠ 32 := by
  rintro rfl
  revert h; decide
theorem pat_no32 (s : List UInt8) (h : pat s = true) : 32 ∉ s := by
  intro hm
  rcases pieces_mem s 32 hm with h1 | ⟨q, hq, hc⟩
  · exact absurd h1 (by decide)
  · exact pls_not32 _ (patQ_pls q ((pat_parts s).1 h |>.2 q hq) _ hc) rfl
theorem name_no32 (s : List UInt8) (h : name s = true) : 32 ∉ s := pat_no32 s (name_pat s h)
theorem key_yes (k : Int) (n : List UInt8) (hk : 0 ≤ k ∧ k ≤ 4) (h : n.length ≤ 31) : key k n = letter k :: pad n := by
  unfold key isKind; rw [if_pos (by simp; omega)]
theorem key_len (k : Int) (n : List UInt8) (hk : 0 ≤ k ∧ k ≤ 4) (h : n.length ≤ 31) : (key k n).length = 32 := by
  rw [key_yes k n hk h, List.length_cons, pad_len n h]
theorem letter_inj (k j : Int) (hk : 0 ≤ k ∧ k ≤ 4) (hj : 0 ≤ j ∧ j ≤ 4) (h : letter k = letter j) : k = j := by
  rcases (by omega : k = 0 ∨ k = 1 ∨ k = 2 ∨ k = 3 ∨ k = 4) with rfl | rfl | rfl | rfl | rfl <;>
  rcases (by omega : j = 0 ∨ j = 1 ∨ j = 2 ∨ j = 3 ∨ j = 4) with rfl | rfl | rfl | rfl | rfl <;> first | rfl | (revert h; decide)
theorem pad_inj (a b : List UInt8) (ha : pat a = true) (hb : pat b = true) (h : pad a = pad b) : a = b := by
  have := congrArg trim h
  rwa [trim_pad a (pat_no32 a ha), trim_pad b (pat_no32 b hb)] at this
theorem less_cons (c : UInt8) (a b : List UInt8) : Op.bytesLess (c :: a) (c :: b) = Op.bytesLess a b := by
  simp [Op.bytesLess]
end Go.Proofs.YteeenpimaepieaaGreatDoor.Ek
