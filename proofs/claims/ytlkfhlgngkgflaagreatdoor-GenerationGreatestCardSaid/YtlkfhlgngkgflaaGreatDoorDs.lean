/- Names of data sets, in plain words: bytes, qualifiers, names, patterns, matching. No program in sight. -/
import Derived.Lib.Replace
import Derived.Lib.Split
import Derived.Lib.Join
import Derived.Lib.Bytealg
namespace Go.Proofs.YtlkfhlgngkgflaaGreatDoor.Ds
/-- the bytes of a text -/
def bl (s : ByteArray) : List UInt8 := s.data.toList
theorem bl_length (s : ByteArray) : (bl s).length = s.size := Array.length_toList (xs := s.data)
theorem bl_get (s : ByteArray) (k : Nat) (h : k < s.size) : s[k] = (bl s)[k]'(by rw [bl_length]; exact h) := by simp [bl, ByteArray.getElem_eq_getElem_data]
theorem bl_mk (l : List UInt8) : bl ⟨l.toArray⟩ = l := by simp [bl]
theorem mk_bl (s : ByteArray) : (⟨(bl s).toArray⟩ : ByteArray) = s := by simp [bl]
theorem bl_inj {s t : ByteArray} (h : bl s = bl t) : s = t := by rw [← mk_bl s, h, mk_bl]

def up (c : UInt8) : Bool := decide (65 ≤ c.toNat) && decide (c.toNat ≤ 90)
def dg (c : UInt8) : Bool := decide (48 ≤ c.toNat) && decide (c.toNat ≤ 57)
def pl (c : UInt8) : Bool := up c || dg c
def ups (c : UInt8) : Bool := up c || decide (c.toNat = 42)
def pls (c : UInt8) : Bool := pl c || decide (c.toNat = 42)
/-- a text of 1 to 8 bytes of a class, of which the first is in another class -/
def qual (F G : UInt8 → Bool) : List UInt8 → Bool
  | [] => false
  | c :: r => decide (r.length ≤ 7) && F c && r.all G
/-- what remains to be asked at place k -/
def rest {α : Type} (G : α → Bool) (l : List α) (k : Nat) : Bool := (l.drop k).all G
theorem rest_next {α : Type} (G : α → Bool) (l : List α) (k : Nat) (h : k < l.length) : rest G l k = (G l[k] && rest G l (k + 1)) := by
  unfold rest; rw [List.drop_eq_getElem_cons h, List.all_cons]
theorem rest_end {α : Type} (G : α → Bool) (l : List α) (k : Nat) (h : l.length ≤ k) : rest G l k = true := by
  unfold rest; rw [List.drop_eq_nil_of_le h]; rfl
theorem qual_rest (F G : UInt8 → Bool) (l : List UInt8) (h : 0 < l.length) (h8 : l.length ≤ 8) (hF : F l[0] = true) : qual F G l = rest G l 1 := by
  cases l with
  | nil => simp at h
  | cons c r =>
    simp only [List.length_cons] at h8
    simp only [List.getElem_cons_zero] at hF
    simp [qual, rest, hF]; omega
theorem qual_len (F G : UInt8 → Bool) (l : List UInt8) (h : l.length < 1 ∨ 8 < l.length) : qual F G l = false := by
  cases l with
  | nil => rfl
  | cons c r =>
    simp only [List.length_cons] at h
    simp [qual]; omega
theorem qual_head (F G : UInt8 → Bool) (l : List UInt8) (h : 0 < l.length) (hF : F l[0] = false) : qual F G l = false := by
  cases l with
  | nil => rfl
  | cons c r =>
    simp only [List.getElem_cons_zero] at hF
    simp [qual, hF]
/-- the parts between full stops -/
def pieces : List UInt8 → List (List UInt8)
  | [] => [[]]
  | c :: r => if c = 46 then [] :: pieces r else match pieces r with
    | [] => [[c]]
    | p :: ps => (c :: p) :: ps
theorem pieces_ne (l : List UInt8) : pieces l ≠ [] := by
  cases l with
  | nil => simp [pieces]
  | cons c r =>
    simp only [pieces]
    split
    · simp
    · split <;> simp
theorem pieces_len (l : List UInt8) : (pieces l).length = l.count 46 + 1 := by
  induction l with
  | nil => rfl
  | cons c r ih =>
    simp only [pieces]
    split
    · rename_i e; subst e; simp [ih]
    · rename_i e
      have e' : (c == 46) = false := by simpa using e
      have := pieces_ne r
      cases h : pieces r with
      | nil => exact absurd h this
      | cons p ps => rw [h] at ih; simp [List.count_cons, e'] at ih ⊢; omega
/-- does a text have two stars next to each other? -/
def ss : List UInt8 → Bool
  | a :: b :: r => (decide (a.toNat = 42) && decide (b.toNat = 42)) || ss (b :: r)
  | _ => false
def nameQ (q : List UInt8) : Bool := qual up pl q
def patQ (q : List UInt8) : Bool := decide (q = [42, 42]) || qual ups pls q && !ss q
def name (s : List UInt8) : Bool := decide (1 ≤ s.length) && decide (s.length ≤ 31) && (pieces s).all nameQ
def pat (s : List UInt8) : Bool := decide (1 ≤ s.length) && decide (s.length ≤ 31) && (pieces s).all patQ
/-- the four bytes of a qualifier that may be digits; the number of the first k of them -/
def mid (q : List UInt8) : List UInt8 := (q.drop 1).take 4
def nv (q : List UInt8) (k : Nat) : Nat := ((mid q).take k).foldl (fun n c => 10 * n + (c.toNat - 48)) 0
/-- the number of a qualifier of the form of generations, or 0 -/
def num (q : List UInt8) : Nat := if q.length = 8 ∧ q[0]? = some 71 ∧ q.drop 5 = [86, 48, 48] ∧ rest dg (mid q) 0 = true then nv q 4 else 0
theorem mid_length (q : List UInt8) (h : q.length = 8) : (mid q).length = 4 := by simp [mid, h]
theorem mid_get (q : List UInt8) (h : q.length = 8) (k : Nat) (hk : k < 4) : (mid q)[k]'(by rw [mid_length q h]; exact hk) = q[k + 1]'(by omega) := by
  simp only [mid, List.getElem_take, List.getElem_drop]
  congr 1; omega
theorem nv_next (q : List UInt8) (h : q.length = 8) (k : Nat) (hk : k < 4) : nv q (k + 1) = 10 * nv q k + ((q[k + 1]'(by omega)).toNat - 48) := by
  unfold nv
  rw [List.take_succ_eq_append_getElem (by rw [mid_length q h]; exact hk), List.foldl_append, mid_get q h k hk]
  rfl
theorem nv_bound (q : List UInt8) : ∀ k, nv q k ≤ 10000000000 ∧ (k ≤ 4 → nv q k ≤ 300 * 10 ^ k) := by
  have key : ∀ (l : List UInt8) (a : Nat), l.foldl (fun n c => 10 * n + (c.toNat - 48)) a ≤ (a + 30) * 10 ^ l.length := by
    intro l
    induction l with
    | nil => intro a; simp
    | cons c r ih =>
      intro a
      have h := ih (10 * a + (c.toNat - 48))
      have hc : c.toNat < 256 := c.toNat_lt
      simp only [List.foldl_cons, List.length_cons, Nat.pow_succ]
      refine Nat.le_trans h ?_
      have : 10 * a + (c.toNat - 48) + 30 ≤ (a + 30) * 10 := by omega
      calc (10 * a + (c.toNat - 48) + 30) * 10 ^ r.length ≤ (a + 30) * 10 * 10 ^ r.length := Nat.mul_le_mul_right _ this
        _ = (a + 30) * (10 ^ r.length * 10) := by rw [Nat.mul_assoc, Nat.mul_comm 10]
  intro k
  have h := key ((mid q).take k) 0
  have hl : ((mid q).take k).length ≤ 4 := by simp [mid]; omega
  have hp : 10 ^ ((mid q).take k).length ≤ 10 ^ 4 := Nat.pow_le_pow_right (by omega) hl
  refine ⟨?_, ?_⟩
  · unfold nv; omega
  · intro _
    have : 10 ^ ((mid q).take k).length ≤ 10 ^ k := Nat.pow_le_pow_right (by omega) (by simp; omega)
    unfold nv; omega
theorem dg_bounds (c : UInt8) (h : dg c = true) : 48 ≤ c.toNat ∧ c.toNat ≤ 57 := by simpa [dg] using h
def group (s : List UInt8) : Bool := name s && decide (s.length ≤ 22) && (pieces s).all fun q => decide (num q = 0)
/-- matching of parts: star tells whether a part stands for any number of elements, one whether it matches an element -/
def mt {α β : Type} (star : α → Bool) (one : α → β → Bool) : List α → List β → Bool
  | [], [] => true
  | [], _ :: _ => false
  | a :: p, [] => star a && mt star one p []
  | a :: p, b :: l => if star a then mt star one p (b :: l) || mt star one (a :: p) l else one a b && mt star one p l
termination_by p l => p.length + l.length
/-- the table of all ends -/
def tab (S : Nat → Bool) (O : Nat → Nat → Bool) (p n : Nat) (r c : Nat) : Bool :=
  if r < p then
    if S r = true then tab S O p n (r + 1) c || (if c < n then tab S O p n r (c + 1) else false)
    else if c < n then tab S O p n (r + 1) (c + 1) && O r c else false
  else decide (c = n)
termination_by (p - r) + (n - c)
theorem tab_end (S : Nat → Bool) (O : Nat → Nat → Bool) (p n r c : Nat) (h : p ≤ r) : tab S O p n r c = decide (c = n) := by
  rw [tab, if_neg (by omega)]
theorem tab_star (S : Nat → Bool) (O : Nat → Nat → Bool) (p n r c : Nat) (h : r < p) (hs : S r = true) : tab S O p n r c = (tab S O p n (r + 1) c || (decide (c < n) && tab S O p n r (c + 1))) := by
  rw [tab, if_pos h, if_pos hs]
  by_cases hc : c < n <;> simp [hc]
theorem tab_one (S : Nat → Bool) (O : Nat → Nat → Bool) (p n r c : Nat) (h : r < p) (hs : S r = false) : tab S O p n r c = (decide (c < n) && tab S O p n (r + 1) (c + 1) && O r c) := by
  rw [tab, if_pos h, if_neg (by simp [hs])]
  by_cases hc : c < n <;> simp [hc]
theorem tab_mt {α β : Type} (star : α → Bool) (one : α → β → Bool) (P : List α) (L : List β) (S : Nat → Bool) (O : Nat → Nat → Bool) (hS : ∀ i (h : i < P.length), S i = star P[i]) (hO : ∀ i k (h : i < P.length) (h' : k < L.length), O i k = one P[i] L[k]) :
    ∀ (m r c : Nat), (P.length - r) + (L.length - c) ≤ m → c ≤ L.length → tab S O P.length L.length r c = mt star one (P.drop r) (L.drop c) := by
  intro m
  induction m with
  | zero =>
    intro r c h hc
    rw [tab_end _ _ _ _ _ _ (by omega), List.drop_eq_nil_of_le (by omega), List.drop_eq_nil_of_le (by omega)]
    have : c = L.length := by omega
    simp [mt, this]
  | succ m ih =>
    intro r c h hc
    rcases Nat.lt_or_ge r P.length with hr | hr
    · rw [List.drop_eq_getElem_cons hr]
      rcases Nat.lt_or_ge c L.length with hl | hl
      · rw [List.drop_eq_getElem_cons hl, mt]
        cases hs : star P[r]
        · rw [tab_one _ _ _ _ _ _ hr (by rw [hS r hr]; exact hs), ih _ _ (by omega) (by omega), hO r c hr hl]
          simp [hl, Bool.and_comm]
        · rw [tab_star _ _ _ _ _ _ hr (by rw [hS r hr]; exact hs), ih _ _ (by omega) (by omega), ih _ _ (by omega) (by omega)]
          rw [List.drop_eq_getElem_cons hr, List.drop_eq_getElem_cons hl]
          simp [hl]
      · rw [List.drop_eq_nil_of_le (as := L) (by omega), mt]
        cases hs : star P[r]
        · rw [tab_one _ _ _ _ _ _ hr (by rw [hS r hr]; exact hs)]
          rw [decide_eq_false (by omega)]; rfl
        · rw [tab_star _ _ _ _ _ _ hr (by rw [hS r hr]; exact hs), ih _ _ (by omega) (by omega), List.drop_eq_nil_of_le (as := L) (by omega)]
          rw [decide_eq_false (p := c < L.length) (by omega)]; simp
    · rw [tab_end _ _ _ _ _ _ hr, List.drop_eq_nil_of_le hr]
      rcases Nat.lt_or_ge c L.length with hl | hl
      · rw [List.drop_eq_getElem_cons hl, mt]
        have : c ≠ L.length := by omega
        simp [this]
      · rw [List.drop_eq_nil_of_le (by omega), mt]
        have : c = L.length := by omega
        simp [this]
def mtQ (q s : List UInt8) : Bool := mt (fun c => decide (c = 42)) (fun c d => decide (c = d)) q s
def mtP (p l : List (List UInt8)) : Bool := mt (fun q => decide (q = [42, 42])) mtQ p l
def match_ (p s : List UInt8) : Bool := pat p && name s && mtP (pieces p) (pieces s)
/-- the text by which a pattern is ordered -/
def keyQ (q : List UInt8) : List UInt8 := if q = [42, 42] then [255] else q.map fun c => if c = 42 then 254 else c
def key (p : List UInt8) : List UInt8 := Lib.join ((pieces p).map keyQ) [46]
def order (a b : List UInt8) : Int := if pat a && pat b then Lib.compareBytes (key a) (key b) else 0
def first (n : Int) (s : List UInt8) : List UInt8 := if name s then Lib.join ((pieces s).take n.toNat) [46] else []
end Go.Proofs.YtlkfhlgngkgflaaGreatDoor.Ds
