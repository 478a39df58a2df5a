/- Plain laws of the calendar. -/
import Derived.Test.YtdbigfdffphdgaaDoorCalP
import GoSem.Op.String
namespace Cal
open Go (Op.bytesLess)
theorem date_next (n : Int) (h : isDay n = true) (h' : isDay (n + 1) = true) : dY (n + 1) = (nxt (dY n, dM n, dD n)).1 ∧ dM (n + 1) = (nxt (dY n, dM n, dD n)).2.1 ∧ dD (n + 1) = (nxt (dY n, dM n, dD n)).2.2 := by
  have v := date_vld n h
  have k := nxt_ok _ _ _ v.1
  exact date_is (n + 1) _ _ _ h' k.1 (by rw [k.2, v.2])
/-- the next day, as the law says it -/
def nextB (y m d a b c : Int) : Bool := (a == y && b == m && c == d + 1) || (a == y && b == m + 1 && c == 1 && decide (28 ≤ d)) || (a == y + 1 && b == 1 && c == 1 && m == 12 && d == 31)
theorem steps_next (n : Int) (h : isDay n = true) (h' : isDay (n + 1) = true) :
    nextB (dY n) (dM n) (dD n) (dY (n + 1)) (dM (n + 1)) (dD (n + 1)) = true := by
  obtain ⟨e1, e2, e3⟩ := date_next n h h'
  obtain ⟨⟨m1, m2, d1, d2⟩, -⟩ := date_vld n h
  have dl := days_lo (dY n) (dM n)
  rw [e1, e2, e3]
  unfold nextB
  by_cases c : dD n < days (dY n) (dM n)
  · simp [nxt, c]
  · by_cases c2 : dM n < 12
    · simp [nxt, c, c2]; omega
    · have e : dM n = 12 := by omega
      have ed : days (dY n) 12 = 31 := by simp [days]
      rw [e] at c d2
      simp [nxt, e, c]
      omega
theorem day_date (n : Int) (h : isDay n = true) : dayN (dY n) (dM n) (dD n) = n ∧ dayE (dY n) (dM n) (dD n) = 0 := by
  have v := date_vld n h
  have r := dY_range n h
  have g := day_good (dY n) (dM n) (dD n) r.1 r.2 v.1 (by rw [v.2]; exact ((isDay_iff n).1 h).2)
  exact ⟨by rw [g.1, v.2], g.2⟩
theorem dg_val (x : Nat) (h : x ≤ 9) : (UInt8.ofNat (48 + x)).toNat = 48 + x := by simp; omega
theorem parse10 (x0 x1 x2 x3 x4 x5 x6 x7 : Nat) (h : x0 ≤ 9 ∧ x1 ≤ 9 ∧ x2 ≤ 9 ∧ x3 ≤ 9 ∧ x4 ≤ 9 ∧ x5 ≤ 9 ∧ x6 ≤ 9 ∧ x7 ≤ 9) (s : ByteArray)
    (hs : s = ⟨#[UInt8.ofNat (48 + x0), UInt8.ofNat (48 + x1), UInt8.ofNat (48 + x2), UInt8.ofNat (48 + x3), 45, UInt8.ofNat (48 + x4), UInt8.ofNat (48 + x5), 45, UInt8.ofNat (48 + x6), UInt8.ofNat (48 + x7)]⟩) :
    syn s = true ∧ pv s 0 10 = 1000 * x0 + 100 * x1 + 10 * x2 + x3 ∧ pv s 1 10 = 10 * x4 + x5 ∧ pv s 2 10 = 10 * x6 + x7 := by
  obtain ⟨h0, h1, h2, h3, h4, h5, h6, h7⟩ := h
  have a0 : at_ s 0 = 48 + x0 := by subst hs; exact dg_val x0 h0
  have a1 : at_ s 1 = 48 + x1 := by subst hs; exact dg_val x1 h1
  have a2 : at_ s 2 = 48 + x2 := by subst hs; exact dg_val x2 h2
  have a3 : at_ s 3 = 48 + x3 := by subst hs; exact dg_val x3 h3
  have a4 : at_ s 4 = 45 := by subst hs; rfl
  have a5 : at_ s 5 = 48 + x4 := by subst hs; exact dg_val x4 h4
  have a6 : at_ s 6 = 48 + x5 := by subst hs; exact dg_val x5 h5
  have a7 : at_ s 7 = 45 := by subst hs; rfl
  have a8 : at_ s 8 = 48 + x6 := by subst hs; exact dg_val x6 h6
  have a9 : at_ s 9 = 48 + x7 := by subst hs; exact dg_val x7 h7
  have sz : s.size = 10 := by subst hs; rfl
  refine ⟨syn_yes s sz ?_, ?_, ?_, ?_⟩
  · intro i hi
    have : i = 0 ∨ i = 1 ∨ i = 2 ∨ i = 3 ∨ i = 4 ∨ i = 5 ∨ i = 6 ∨ i = 7 ∨ i = 8 ∨ i = 9 := by omega
    rcases this with rfl | rfl | rfl | rfl | rfl | rfl | rfl | rfl | rfl | rfl
    · rw [a0]; simp [okc]; omega
    · rw [a1]; simp [okc]; omega
    · rw [a2]; simp [okc]; omega
    · rw [a3]; simp [okc]; omega
    · rw [a4]; simp [okc]
    · rw [a5]; simp [okc]; omega
    · rw [a6]; simp [okc]; omega
    · rw [a7]; simp [okc]
    · rw [a8]; simp [okc]; omega
    · rw [a9]; simp [okc]; omega
  · simp [pv, part, a0, a1, a2, a3]; omega
  · simp [pv, part, a5, a6]
  · simp [pv, part, a8, a9]
theorem parse_fmt (n : Int) (h : isDay n = true) : parseN ⟨(fmt n).toArray⟩ = n ∧ parseE ⟨(fmt n).toArray⟩ = 0 := by
  have r := dY_range n h
  obtain ⟨⟨m1, m2, d1, d2⟩, hnum⟩ := date_vld n h
  have dl := days_lo (dY n) (dM n)
  have e : (fmt n).toArray = #[UInt8.ofNat (48 + (dY n).toNat / 10 ^ 3 % 10), UInt8.ofNat (48 + (dY n).toNat / 10 ^ 2 % 10), UInt8.ofNat (48 + (dY n).toNat / 10 ^ 1 % 10), UInt8.ofNat (48 + (dY n).toNat / 10 ^ 0 % 10), 45, UInt8.ofNat (48 + (dM n).toNat / 10 ^ 1 % 10), UInt8.ofNat (48 + (dM n).toNat / 10 ^ 0 % 10), 45, UInt8.ofNat (48 + (dD n).toNat / 10 ^ 1 % 10), UInt8.ofNat (48 + (dD n).toNat / 10 ^ 0 % 10)] := by
    rw [fmt_yes n h]; rfl
  have p := parse10 ((dY n).toNat / 10 ^ 3 % 10) ((dY n).toNat / 10 ^ 2 % 10) ((dY n).toNat / 10 ^ 1 % 10) ((dY n).toNat / 10 ^ 0 % 10) ((dM n).toNat / 10 ^ 1 % 10) ((dM n).toNat / 10 ^ 0 % 10) ((dD n).toNat / 10 ^ 1 % 10) ((dD n).toNat / 10 ^ 0 % 10) (by omega) ⟨(fmt n).toArray⟩ (by rw [e])
  have q := parse_yes _ p.1
  have g := day_date n h
  have ey : ((1000 * ((dY n).toNat / 10 ^ 3 % 10) + 100 * ((dY n).toNat / 10 ^ 2 % 10) + 10 * ((dY n).toNat / 10 ^ 1 % 10) + (dY n).toNat / 10 ^ 0 % 10 : Nat) : Int) = dY n := by omega
  have em : ((10 * ((dM n).toNat / 10 ^ 1 % 10) + (dM n).toNat / 10 ^ 0 % 10 : Nat) : Int) = dM n := by omega
  have ed : ((10 * ((dD n).toNat / 10 ^ 1 % 10) + (dD n).toNat / 10 ^ 0 % 10 : Nat) : Int) = dD n := by omega
  rw [p.2.1, p.2.2.1, p.2.2.2, ey, em, ed] at q
  exact ⟨by rw [q.1, g.1], by rw [q.2, g.2]⟩
theorem ld_less (n m j : Nat) (r r' : List UInt8) : Go.Op.bytesLess (ld n j ++ r) (ld m j ++ r') = if n % 10 ^ j = m % 10 ^ j then Go.Op.bytesLess r r' else decide (n % 10 ^ j < m % 10 ^ j) := by
  induction j with
  | zero => simp [ld, Nat.mod_one]
  | succ j ih =>
    have hp : 1 ≤ 10 ^ j := Nat.one_le_pow _ _ (by omega)
    have e : ∀ a : Nat, a % 10 ^ (j + 1) = 10 ^ j * (a / 10 ^ j % 10) + a % 10 ^ j := fun a => by
      rw [Nat.pow_succ, Nat.mod_mul, Nat.add_comm]
    have bn : n % 10 ^ j < 10 ^ j := Nat.mod_lt _ hp
    have bm : m % 10 ^ j < 10 ^ j := Nat.mod_lt _ hp
    rw [e n, e m]
    simp only [ld, List.cons_append, Go.Op.bytesLess, ih]
    generalize hx : n / 10 ^ j % 10 = x
    generalize hy : m / 10 ^ j % 10 = y
    generalize n % 10 ^ j = u at *
    generalize m % 10 ^ j = v at *
    generalize 10 ^ j = T at *
    have hx' : x ≤ 9 := by omega
    have hy' : y ≤ 9 := by omega
    clear hx hy e ih
    have lt : (UInt8.ofNat (48 + x) < UInt8.ofNat (48 + y)) ↔ x < y := by rw [UInt8.lt_iff_toNat_lt, dg_val x hx', dg_val y hy']; omega
    have eq : (UInt8.ofNat (48 + x) = UInt8.ofNat (48 + y)) ↔ x = y := by
      rw [← UInt8.toNat_inj, dg_val x hx', dg_val y hy']; omega
    rcases Nat.lt_trichotomy x y with h | h | h
    · have hm : T * x + T ≤ T * y := by rw [← Nat.mul_succ]; exact Nat.mul_le_mul_left _ h
      have h1 : UInt8.ofNat (48 + x) < UInt8.ofNat (48 + y) := lt.2 h
      rw [if_neg (show ¬ (T * x + u = T * y + v) by omega)]
      simp only [h1, decide_true, Bool.true_or]
      exact (decide_eq_true (show T * x + u < T * y + v by omega)).symm
    · subst h
      simp only [UInt8.lt_irrefl, decide_false, Bool.false_or, beq_self_eq_true, Bool.true_and]
      by_cases c : u = v
      · rw [if_pos c, if_pos (by omega)]
      · rw [if_neg c, if_neg (by omega)]; congr 1; exact propext (by omega)
    · have hm : T * y + T ≤ T * x := by rw [← Nat.mul_succ]; exact Nat.mul_le_mul_left _ h
      have h1 : ¬ UInt8.ofNat (48 + x) < UInt8.ofNat (48 + y) := fun c => by have := lt.1 c; omega
      have h2 : ¬ UInt8.ofNat (48 + x) = UInt8.ofNat (48 + y) := fun c => by have := eq.1 c; omega
      rw [if_neg (show ¬ (T * x + u = T * y + v) by omega)]
      simp only [h1, decide_false, Bool.false_or, beq_eq_false_iff_ne.2 h2, Bool.false_and]
      exact (decide_eq_false (show ¬ T * x + u < T * y + v by omega)).symm
theorem fmt_less (n m : Int) (h : isDay n = true) (k : isDay m = true) : Go.Op.bytesLess (fmt n) (fmt m) = decide (n < m) := by
  have r := dY_range n h
  have r' := dY_range m k
  obtain ⟨v, hn⟩ := date_vld n h
  obtain ⟨v', hm⟩ := date_vld m k
  have lx := lex_lt _ _ _ _ _ _ v v'
  rw [hn, hm] at lx
  obtain ⟨m1, m2, d1, d2⟩ := v
  obtain ⟨m1', m2', d1', d2'⟩ := v'
  have dl := days_lo (dY n) (dM n)
  have dl' := days_lo (dY m) (dM m)
  have e0 : ∀ a b : List UInt8, Go.Op.bytesLess ([45] ++ a) ([45] ++ b) = Go.Op.bytesLess a b := fun a b => by simp [Go.Op.bytesLess]
  rw [fmt_yes n h, fmt_yes m k]
  simp only [List.append_assoc]
  rw [ld_less, e0, ld_less, e0, show ld (dD n).toNat 2 = ld (dD n).toNat 2 ++ [] by simp, show ld (dD m).toNat 2 = ld (dD m).toNat 2 ++ [] by simp, ld_less]
  have z : Go.Op.bytesLess [] [] = false := rfl
  rw [z]
  rw [show decide (n < m) = decide (dY n < dY m ∨ dY n = dY m ∧ (dM n < dM m ∨ dM n = dM m ∧ dD n < dD m)) from decide_eq_decide.2 lx]
  split
  · split
    · split
      · symm; simp; omega
      · congr 1; exact propext (by omega)
    · congr 1; exact propext (by omega)
  · congr 1; exact propext (by omega)
end Cal
