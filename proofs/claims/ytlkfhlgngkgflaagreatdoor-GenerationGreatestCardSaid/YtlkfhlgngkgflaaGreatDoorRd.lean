/- The reader of the wire in plain words: its state is what is left, and its error. No program in sight. -/
import Derived.Test.YtlkfhlgngkgflaaGreatDoorWi
namespace Go.Proofs.YtlkfhlgngkgflaaGreatDoor.Rd
open Wi
def num (s : List UInt8 × Nat) : Nat × (List UInt8 × Nat) :=
  if s.2 = 0 then (if (dec 0 0 s.1).2 = 0 then ((dec 0 0 s.1).1, ([], 11)) else ((dec 0 0 s.1).1, (s.1.drop (dec 0 0 s.1).2, 0))) else (0, s)
def boo (s : List UInt8 × Nat) : Bool × (List UInt8 × Nat) :=
  if s.2 = 0 then (match s.1 with | [] => (false, ([], 11)) | b :: r => if 1 < b.toNat then (false, ([], 11)) else (decide (b.toNat = 1), (r, 0))) else (false, s)
def cnt (m : Nat) (s : List UInt8 × Nat) : Nat × (List UInt8 × Nat) :=
  if (num s).2.2 = 0 then (if m < (num s).1 then (0, ([], 8)) else num s) else (0, (num s).2)
def txt (m : Nat) (s : List UInt8 × Nat) : List UInt8 × (List UInt8 × Nat) :=
  if (cnt m s).2.2 = 0 then (if (cnt m s).2.1.length < (cnt m s).1 then ([], ([], 11)) else ((cnt m s).2.1.take (cnt m s).1, ((cnt m s).2.1.drop (cnt m s).1, 0))) else ([], (cnt m s).2)
def fin (s : List UInt8 × Nat) : Nat := if s.2 = 0 ∧ s.1 ≠ [] then 11 else s.2
theorem num_bad (s : List UInt8 × Nat) (h : s.2 ≠ 0) : num s = (0, s) := by unfold num; rw [if_neg h]
theorem num_none (s : List UInt8 × Nat) (h : s.2 = 0) (h0 : (dec 0 0 s.1).2 = 0) : num s = ((dec 0 0 s.1).1, ([], 11)) := by unfold num; rw [if_pos h, if_pos h0]
theorem num_some (s : List UInt8 × Nat) (h : s.2 = 0) (h0 : (dec 0 0 s.1).2 ≠ 0) : num s = ((dec 0 0 s.1).1, (s.1.drop (dec 0 0 s.1).2, 0)) := by unfold num; rw [if_pos h, if_neg h0]
theorem num_lt (s : List UInt8 × Nat) : (num s).1 < 2 ^ 64 := by
  have := dec_lt s.1 0 0 (by decide)
  unfold num
  split
  · split <;> exact this
  · exact Nat.two_pow_pos 64
theorem num_len (s : List UInt8 × Nat) : (num s).2.1.length ≤ s.1.length := by
  unfold num
  split
  · split
    · simp
    · simp
  · simp
theorem boo_len (s : List UInt8 × Nat) : (boo s).2.1.length ≤ s.1.length := by
  unfold boo
  split
  · rcases s with ⟨_ | ⟨b, r⟩, e⟩
    · simp
    · simp only; split <;> simp
  · simp
theorem cnt_len (m : Nat) (s : List UInt8 × Nat) : (cnt m s).2.1.length ≤ s.1.length := by
  have := num_len s
  unfold cnt
  split
  · split
    · simp
    · exact this
  · exact this
theorem cnt_le (m : Nat) (s : List UInt8 × Nat) : (cnt m s).1 ≤ m := by
  unfold cnt
  split
  · split
    · simp
    · omega
  · simp
theorem txt_len (m : Nat) (s : List UInt8 × Nat) : (txt m s).2.1.length ≤ s.1.length ∧ (txt m s).1.length ≤ m := by
  have := cnt_len m s
  have := cnt_le m s
  unfold txt
  split
  · split
    · simp
    · simp; omega
  · simp; omega
end Go.Proofs.YtlkfhlgngkgflaaGreatDoor.Rd
