/- What was written is read again, in plain words. No program in sight. -/
import Derived.Test.YtlkfhlgngkgflaaGreatDoorRd
namespace Go.Proofs.YtlkfhlgngkgflaaGreatDoor.Rd
open Wi
theorem num_enc (n : Nat) (r : List UInt8) (h : n < 2 ^ 64) : num (enc n ++ r, 0) = (n, (r, 0)) := by
  have hd := dec_enc0 n r h
  have hp := enc_pos n
  rw [num_some _ rfl (by simp only [hd]; omega)]
  simp only [hd, List.drop_left]
theorem boo_tb (y : Bool) (r : List UInt8) : boo ((if y then 1 else 0) :: r, 0) = (y, (r, 0)) := by
  cases y <;> rfl
theorem cnt_enc (m n : Nat) (r : List UInt8) (h : n ≤ m) (h2 : n < 2 ^ 64) : cnt m (enc n ++ r, 0) = (n, (r, 0)) := by
  unfold cnt
  rw [num_enc n r h2]
  simp only
  rw [if_pos trivial, if_neg (by omega)]
theorem txt_enc (m : Nat) (s r : List UInt8) (h : s.length ≤ m) (h2 : s.length < 2 ^ 64) : txt m (enc s.length ++ (s ++ r), 0) = (s, (r, 0)) := by
  unfold txt
  rw [cnt_enc m s.length (s ++ r) h h2]
  simp only
  rw [if_pos trivial, if_neg (by simp), List.take_left, List.drop_left]
end Go.Proofs.YtlkfhlgngkgflaaGreatDoor.Rd
