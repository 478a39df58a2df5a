/- Several new generations, in plain words. No program in sight. -/
import Derived.Test.YtlkfhlgngkgflaaGreatDoorGe
namespace Go.Proofs.YtlkfhlgngkgflaaGreatDoor.Ge
/-- error, last, what there is, what has gone -/
def foldG (lim : Int) (em : Bool) : List Int → Int → List Int → List Int → Int × Int × List Int × List Int
  | [], last, now, gone => (0, last, now, gone)
  | n :: r, last, now, gone => if n < 1 ∨ 9999 < n then (2, 0, [], []) else if n ≤ last then (9, 0, [], []) else foldG lim em r n (stays lim em now n) (gone ++ goes lim em now n)
theorem cut_short (lim : Int) (em : Bool) (now : List Int) (n : Int) (h : (now.length : Int) + 1 ≤ lim) : cut lim em (now ++ [n]) = 0 := by
  unfold cut
  rw [if_neg (by simp; omega)]
theorem stays_short (lim : Int) (em : Bool) (now : List Int) (n : Int) (h : (now.length : Int) + 1 ≤ lim) : stays lim em now n = now ++ [n] := by
  unfold stays; rw [cut_short lim em now n h, List.drop_zero]
theorem goes_short (lim : Int) (em : Bool) (now : List Int) (n : Int) (h : (now.length : Int) + 1 ≤ lim) : goes lim em now n = [] := by
  unfold goes; rw [cut_short lim em now n h, List.take_zero]
theorem cut_all (lim : Int) (now : List Int) (n : Int) (h : lim < (now.length : Int) + 1) : cut lim true (now ++ [n]) = now.length := by
  unfold cut
  rw [if_pos (by simp; omega)]; simp
theorem cut_some (lim : Int) (now : List Int) (n : Int) (h : lim < (now.length : Int) + 1) : cut lim false (now ++ [n]) = ((now.length : Int) + 1 - lim).toNat := by
  unfold cut
  rw [if_pos (by simp; omega)]; simp
end Go.Proofs.YtlkfhlgngkgflaaGreatDoor.Ge
