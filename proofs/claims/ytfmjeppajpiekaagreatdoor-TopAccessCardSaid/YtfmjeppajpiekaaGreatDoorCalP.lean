/- Plain words on the texts of days. -/
import Derived.Test.YtfmjeppajpiekaaGreatDoorCal
namespace Cal
/-- the text of a day -/
def fmt (n : Int) : List UInt8 := if isDay n = true then ld (dY n).toNat 4 ++ [45] ++ ld (dM n).toNat 2 ++ [45] ++ ld (dD n).toNat 2 else []
theorem fmt_no (n : Int) (h : isDay n = false) : fmt n = [] := by simp [fmt, h]
theorem fmt_yes (n : Int) (h : isDay n = true) : fmt n = ld (dY n).toNat 4 ++ [45] ++ ld (dM n).toNat 2 ++ [45] ++ ld (dD n).toNat 2 := by simp [fmt, h]
/-- the byte at a place, as a number; 0 behind the end -/
def at_ (s : ByteArray) (i : Nat) : Nat := if h : i < s.size then (s[i]).toNat else 0
theorem at_eq (s : ByteArray) (i : Nat) (h : i < s.size) : (s[i]).toNat = at_ s i := by simp [at_, h]
theorem at_lt (s : ByteArray) (i : Nat) : at_ s i ≤ 255 := by
  unfold at_; split
  · have := (s[i]).toNat_lt; omega
  · omega
/-- may the byte c stand at place i of the text of a day? -/
def okc (i c : Nat) : Bool := if i = 4 ∨ i = 7 then c == 45 else decide (48 ≤ c) && decide (c ≤ 57)
/-- the part to which place i belongs -/
def part (i : Nat) : Nat := if i ≤ 4 then 0 else if i ≤ 7 then 1 else 2
/-- the number of part p behind i places -/
def pv (s : ByteArray) (p : Nat) : Nat → Nat
  | 0 => 0
  | i + 1 => if i = 4 ∨ i = 7 then pv s p i else if part i = p then 10 * pv s p i + (at_ s i - 48) else pv s p i
def syn (s : ByteArray) : Bool := decide (s.size = 10) && (List.range 10).all fun i => okc i (at_ s i)
def parseN (s : ByteArray) : Int := if syn s = true then dayN (pv s 0 10) (pv s 1 10) (pv s 2 10) else 0
def parseE (s : ByteArray) : Int := if syn s = true then dayE (pv s 0 10) (pv s 1 10) (pv s 2 10) else 3
theorem pv_lt (s : ByteArray) (p i : Nat) (h : ∀ j, j < i → okc j (at_ s j) = true) : pv s p i < 10 ^ i := by
  induction i with
  | zero => simp [pv]
  | succ i ih =>
    have := ih (fun j hj => h j (by omega))
    rw [pv, Nat.pow_succ]
    split
    · omega
    · rename_i hn
      have := h i (by omega)
      simp only [okc, hn, if_false, Bool.and_eq_true, decide_eq_true_eq] at this
      split <;> omega
theorem ok_next (s : ByteArray) (i : Nat) (h : ∀ j, j < i → okc j (at_ s j) = true) (k : okc i (at_ s i) = true) : ∀ j, j < i + 1 → okc j (at_ s j) = true := by
  intro j hj
  by_cases e : j = i
  · subst e; exact k
  · exact h j (by omega)
theorem syn_not (s : ByteArray) (i : Nat) (hi : i < 10) (h : okc i (at_ s i) = false) : syn s = false := by
  unfold syn
  rw [Bool.and_eq_false_iff]
  right
  rw [List.all_eq_false]
  exact ⟨i, by simpa using hi, by simp [h]⟩
theorem syn_yes (s : ByteArray) (h : s.size = 10) (k : ∀ i, i < 10 → okc i (at_ s i) = true) : syn s = true := by
  unfold syn
  simp only [h, decide_true, Bool.true_and, List.all_eq_true, List.mem_range]
  exact k
theorem parse_no (s : ByteArray) (h : syn s = false) : parseN s = 0 ∧ parseE s = 3 := by simp [parseN, parseE, h]
theorem parse_yes (s : ByteArray) (h : syn s = true) : parseN s = dayN (pv s 0 10) (pv s 1 10) (pv s 2 10) ∧ parseE s = dayE (pv s 0 10) (pv s 1 10) (pv s 2 10) := by simp [parseN, parseE, h]
theorem pv_hyph (s : ByteArray) (p i : Nat) (h : i = 4 ∨ i = 7) : pv s p (i + 1) = pv s p i := by rw [pv, if_pos h]
theorem pv_same (s : ByteArray) (p i : Nat) (h : ¬ (i = 4 ∨ i = 7)) (hp : part i = p) : pv s p (i + 1) = 10 * pv s p i + (at_ s i - 48) := by rw [pv, if_neg h, if_pos hp]
theorem pv_other (s : ByteArray) (p i : Nat) (hp : part i ≠ p) : pv s p (i + 1) = pv s p i := by rw [pv]; simp [hp]
theorem part_0 (i : Nat) (h : i < 4) : part i = 0 := by unfold part; rw [if_pos (by omega)]
theorem part_1 (i : Nat) (h : 4 < i) (h' : i < 7) : part i = 1 := by unfold part; rw [if_neg (by omega), if_pos (by omega)]
theorem part_2 (i : Nat) (h : 7 < i) : part i = 2 := by unfold part; rw [if_neg (by omega), if_neg (by omega)]
theorem okc_h (i c : Nat) (h : i = 4 ∨ i = 7) : okc i c = true ↔ c = 45 := by simp [okc, h]
theorem okc_d (i c : Nat) (h : ¬ (i = 4 ∨ i = 7)) : okc i c = true ↔ 48 ≤ c ∧ c ≤ 57 := by simp [okc, h]
def reached (limit n : Int) : Bool := decide (0 < limit) && decide (limit ≤ n)
def fits (cr us ex t : Int) : Bool := isDay cr && isDay us && isDay ex && isDay t
def expired (cr us ex t : Int) : Bool := fits cr us ex t && (decide (ex = 0) || decide (ex ≤ t))
def policy (ke un ac : Int) : Bool := isDay ke && isDay un && isDay ac
def dec (ke un ac cr us ex : Int) (ar : Bool) (t : Int) : Int :=
  if (policy ke un ac && fits cr us ex t) = true then
    if (expired cr us ex t && (reached ke (t - cr) || ar && reached ac (t - max cr us))) = true then 2
    else if (!ar && reached un (t - max cr us)) = true then 1 else 0
  else 0
/-- the first number from d on, of k numbers, of which f is true -/
def srch (f : Int → Bool) : Nat → Int → Int × Bool
  | 0, _ => (0, false)
  | k + 1, d => if f d = true then (d, true) else srch f k (d + 1)
theorem srch_end (f : Int → Bool) (q : Int) (h : 65536 < q) : srch f (65537 - q).toNat q = (0, false) := by
  rw [show (65537 - q).toNat = 0 by omega]; rfl
theorem srch_yes (f : Int → Bool) (q : Int) (h : q ≤ 65536) (k : f q = true) : srch f (65537 - q).toNat q = (q, true) := by
  rw [show (65537 - q).toNat = (65537 - (q + 1)).toNat + 1 by omega, srch, if_pos k]
theorem srch_no (f : Int → Bool) (q : Int) (h : q ≤ 65536) (k : f q = false) : srch f (65537 - q).toNat q = srch f (65537 - (q + 1)).toNat (q + 1) := by
  rw [show (65537 - q).toNat = (65537 - (q + 1)).toNat + 1 by omega, srch, if_neg (by simp [k])]
end Cal
