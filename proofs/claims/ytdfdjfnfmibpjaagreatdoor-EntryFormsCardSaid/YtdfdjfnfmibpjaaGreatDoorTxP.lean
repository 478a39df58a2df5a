/- The lines of an entry, in plain words. No program in sight. -/
import Derived.Test.YtdfdjfnfmibpjaaGreatDoorEc
import Derived.Test.YtdfdjfnfmibpjaaGreatDoorCal
import Derived.Lib.Join
namespace Go.Proofs.YtdfdjfnfmibpjaaGreatDoor
set_option maxRecDepth 8000
/-- a line -/
def lnB (word val : ByteArray) : ByteArray := ((⟨#[32, 32]⟩ : ByteArray) ++ word ++ ⟨#[32]⟩) ++ val
/-- the line of a field, if it has a value -/
def ln (word val : ByteArray) : List ByteArray := if val.size = 0 then [] else [lnB word val]
def nmB (n : Int) : ByteArray := if n = 0 then ⟨#[]⟩ else ⟨(Lib.itoa n).toArray⟩
def dtB (n : Int) : ByteArray := if n = 0 then ⟨#[]⟩ else ⟨(Cal.fmt n).toArray⟩
def ysB (b : Bool) : ByteArray := if b = true then ⟨#[121, 101, 115]⟩ else ⟨#[]⟩
def kindsW : List ByteArray := [⟨#[100, 97, 116, 97]⟩, ⟨#[103, 114, 111, 117, 112]⟩, ⟨#[97, 108, 105, 97, 115]⟩, ⟨#[99, 97, 116, 97, 108, 111, 103]⟩, ⟨#[112, 114, 111, 102, 105, 108, 101]⟩]
def orgW : List ByteArray := [⟨#[115, 101, 113, 117, 101, 110, 116, 105, 97, 108]⟩, ⟨#[101, 110, 116, 114, 121]⟩, ⟨#[114, 101, 108, 97, 116, 105, 118, 101]⟩, ⟨#[107, 101, 121, 101, 100]⟩]
def fmtW : List ByteArray := [⟨#[]⟩, ⟨#[118, 97, 114, 105, 97, 98, 108, 101]⟩, ⟨#[115, 112, 97, 110, 110, 101, 100]⟩]
def levW : List ByteArray := [⟨#[110, 111, 110, 101]⟩, ⟨#[114, 101, 97, 100]⟩, ⟨#[117, 112, 100, 97, 116, 101]⟩, ⟨#[97, 108, 116, 101, 114]⟩]
def numW : List ByteArray := [⟨#[108, 101, 110, 103, 116, 104]⟩, ⟨#[98, 108, 111, 99, 107]⟩, ⟨#[107, 101, 121, 97, 116]⟩, ⟨#[107, 101, 121, 108, 101, 110, 103, 116, 104]⟩, ⟨#[105, 110, 116, 101, 114, 118, 97, 108]⟩, ⟨#[97, 114, 101, 97]⟩, ⟨#[102, 114, 101, 101, 105, 110, 116, 101, 114, 118, 97, 108]⟩, ⟨#[102, 114, 101, 101, 97, 114, 101, 97]⟩, ⟨#[98, 97, 115, 101]⟩, ⟨#[97, 108, 116, 97, 116]⟩, ⟨#[97, 108, 116, 108, 101, 110, 103, 116, 104]⟩]
def atW (l : List ByteArray) (n : Int) : ByteArray := l.getD n.toNat ⟨#[]⟩
def numT (e : En) : List Int := [e.d3, e.d4, e.d5, e.d6, e.d7, e.d8, e.d9, e.d10, e.d11, e.d12, e.d13]
/-- the lines of the first k numbers -/
def nsT (e : En) (ts : List ByteArray) : Nat → List ByteArray
  | 0 => ts
  | k + 1 => nsT e ts k ++ ln (numW.getD k ⟨#[]⟩) (nmB ((numT e).getD k 0))
def altB (l : List Int) : ByteArray := ⟨(Lib.join (l.map Lib.itoa) [32]).toArray⟩
def grB (g : Gr) : ByteArray := (((if g.2.1 = true then ⟨#[103, 114, 111, 117, 112, 32]⟩ else ⟨#[117, 115, 101, 114, 32]⟩) ++ g.1) ++ ⟨#[32]⟩) ++ atW levW g.2.2
/-- the lines of the first k grants -/
def gsT (l : List Gr) (ts : List ByteArray) : Nat → List ByteArray
  | 0 => ts
  | k + 1 => gsT l ts k ++ ln ⟨#[103, 114, 97, 110, 116]⟩ (grB (l.getD k (⟨#[]⟩, false, 0)))
def hdB (e : En) : ByteArray := (atW kindsW e.kind ++ ⟨#[32]⟩) ++ e.name
def txD0 (e : En) (ts : List ByteArray) : List ByteArray := ts ++ ln ⟨#[105, 100]⟩ (nmB e.d0) ++ ln ⟨#[111, 114, 103, 97, 110, 105, 115, 97, 116, 105, 111, 110]⟩ (atW orgW e.d1) ++ ln ⟨#[102, 111, 114, 109, 97, 116]⟩ (atW fmtW e.d2)
def txD1 (e : En) (ts : List ByteArray) : List ByteArray := ts ++ ln ⟨#[117, 110, 105, 113, 117, 101]⟩ (ysB e.uq) ++ ln ⟨#[99, 108, 97, 115, 115]⟩ (nmB e.cls) ++ ln ⟨#[118, 111, 108, 117, 109, 101]⟩ e.vol ++ ln ⟨#[111, 119, 110, 101, 114]⟩ e.own ++ ln ⟨#[99, 114, 101, 97, 116, 101, 100]⟩ (dtB e.cr) ++ ln ⟨#[101, 120, 112, 105, 114, 101, 115]⟩ (dtB e.ex) ++ ln ⟨#[97, 114, 99, 104, 105, 118, 101, 100]⟩ (ysB e.ar)
def txD2 (e : En) (l : List Int) (ts : List ByteArray) : List ByteArray := ts ++ ln ⟨#[97, 108, 116, 101, 114, 110, 97, 116, 101, 115]⟩ (altB l) ++ ln ⟨#[117, 115, 101, 100]⟩ (dtB e.used)
def txData (e : En) (l : List Int) (ts : List ByteArray) : List ByteArray := txD2 e l (txD1 e (nsT e (txD0 e ts) 11))
def txGroup (e : En) : List ByteArray := [hdB e] ++ ln ⟨#[108, 105, 109, 105, 116]⟩ (nmB e.lim) ++ ln ⟨#[108, 97, 115, 116]⟩ (nmB e.last) ++ ln ⟨#[101, 109, 112, 116, 121]⟩ (ysB e.em) ++ ln ⟨#[111, 119, 110, 101, 114]⟩ e.owner
def txAlias (e : En) : List ByteArray := [hdB e] ++ ln ⟨#[116, 97, 114, 103, 101, 116]⟩ e.target
def txCat (e : En) : List ByteArray := [hdB e] ++ ln ⟨#[99, 97, 116, 97, 108, 111, 103]⟩ (nmB e.cat)
def txProf (e : En) (g : List Gr) : List ByteArray := gsT g ([hdB e] ++ ln ⟨#[108, 101, 118, 101, 108]⟩ (atW levW e.lev) ++ ln ⟨#[111, 119, 110, 101, 114]⟩ e.owner) g.length
/-- the lines of a valid entry -/
def txX (x : Fu) : List ByteArray :=
  if x.1.kind = 0 then txData x.1 x.2.1 [hdB x.1] else if x.1.kind = 1 then txGroup x.1 else if x.1.kind = 2 then txAlias x.1 else if x.1.kind = 3 then txCat x.1 else txProf x.1 x.2.2
theorem ln_len (w v : ByteArray) : (ln w v).length ≤ 1 := by unfold ln; split <;> simp
theorem nsT_len (e : En) (ts : List ByteArray) : ∀ k, (nsT e ts k).length ≤ ts.length + k
  | 0 => by simp [nsT]
  | k + 1 => by
    have h1 := nsT_len e ts k
    have h2 := ln_len (numW.getD k ⟨#[]⟩) (nmB ((numT e).getD k 0))
    rw [nsT, List.length_append]; omega
theorem gsT_len (l : List Gr) (ts : List ByteArray) : ∀ k, (gsT l ts k).length ≤ ts.length + k
  | 0 => by simp [gsT]
  | k + 1 => by
    have h1 := gsT_len l ts k
    have h2 := ln_len ⟨#[103, 114, 97, 110, 116]⟩ (grB (l.getD k (⟨#[]⟩, false, 0)))
    rw [gsT, List.length_append]; omega
theorem nsT_app (e : En) (a ts : List ByteArray) : ∀ k, nsT e (a ++ ts) k = a ++ nsT e ts k
  | 0 => rfl
  | k + 1 => by rw [nsT, nsT, nsT_app e a ts k, List.append_assoc]
theorem txData_app (e : En) (l : List Int) (a ts : List ByteArray) : txData e l (a ++ ts) = a ++ txData e l ts := by
  unfold txData txD2 txD1 txD0
  simp only [List.append_assoc, nsT_app]
/-- a bound of a list's length, read off its form -/
class LenLe (ts : List ByteArray) (k : outParam Nat) : Prop where
  h : ts.length ≤ k
instance : LenLe [] 0 := ⟨Nat.le_refl _⟩
instance (x : ByteArray) : LenLe [x] 1 := ⟨Nat.le_refl _⟩
instance (w v : ByteArray) : LenLe (ln w v) 1 := ⟨ln_len w v⟩
instance (ts us : List ByteArray) (k m : Nat) [h : LenLe ts k] [g : LenLe us m] : LenLe (ts ++ us) (k + m) := ⟨by rw [List.length_append]; exact Nat.add_le_add h.h g.h⟩
instance (e : En) (ts : List ByteArray) (k n : Nat) [h : LenLe ts k] : LenLe (nsT e ts n) (k + n) := ⟨Nat.le_trans (nsT_len e ts n) (Nat.add_le_add_right h.h n)⟩
instance (e : En) (ts : List ByteArray) (k : Nat) [h : LenLe ts k] : LenLe (txD0 e ts) (k + 1 + 1 + 1) := ⟨by unfold txD0; exact LenLe.h⟩
instance (e : En) (ts : List ByteArray) (k : Nat) [h : LenLe ts k] : LenLe (txD1 e ts) (k + 1 + 1 + 1 + 1 + 1 + 1 + 1) := ⟨by unfold txD1; exact LenLe.h⟩
theorem dec_size : ∀ n : Nat, 1 ≤ n → ∃ J, 10 ^ J ≤ n ∧ n < 10 ^ (J + 1) := fun n => by
  induction n using Nat.strongRecOn with
  | ind n ih =>
    intro h
    by_cases h10 : n < 10
    · exact ⟨0, by omega, by omega⟩
    · obtain ⟨J, h1, h2⟩ := ih (n / 10) (by omega) (by omega)
      refine ⟨J + 1, ?_, ?_⟩
      · rw [Nat.pow_succ]; omega
      · rw [Nat.pow_succ]; omega
theorem dec_le {n J : Nat} (h : 10 ^ J ≤ n) (hn : n ≤ 1099511627776) : J ≤ 12 := by
  rcases Nat.lt_or_ge 12 J with h1 | h1
  · have := Nat.pow_le_pow_right (n := 10) (by decide) h1
    omega
  · exact h1
structure DF (e : En) (l : List Int) : Prop where
  d0 : 0 ≤ e.d0 ∧ e.d0 ≤ 1099511627776
  d1 : 0 ≤ e.d1 ∧ e.d1 ≤ 3
  d2 : 0 ≤ e.d2 ∧ e.d2 ≤ 2
  ns : ∀ n ∈ numT e, 0 ≤ n ∧ n ≤ 1099511627776
  cls : 0 ≤ e.cls ∧ e.cls ≤ 3
  vol : e.vol.size ≤ 31
  own : e.own.size ≤ 31
  cr : Cal.isDay e.cr = true
  ex : Cal.isDay e.ex = true
  us : Cal.isDay e.used = true
  al : ∀ n ∈ l, 1 ≤ n ∧ n ≤ 1099511627776
  l4 : l.length ≤ 4
theorem DF.of {e : En} {l : List Int} (h : Vp.dat e l = true) : DF e l := by
  unfold Vp.dat at h
  simp only [Bool.and_eq_true, decide_eq_true_eq] at h
  obtain ⟨h1, h2, h3, h4, h5, h6, h7, h8, h9, h10⟩ := h
  have q3 := rng_mem _ _ _ h3 e.d0 (by simp)
  have o1 := own_len _ h7
  have o2 := own_len _ h8
  rw [Ds.bl_length] at o1 o2
  unfold Vp.days at h9
  simp only [List.all_cons, List.all_nil, Bool.and_true, Bool.and_eq_true] at h9
  refine ⟨⟨by omega, q3.2⟩, rng_mem _ _ _ h4 _ (by simp), rng_mem _ _ _ h5 _ (by simp), rng_mem _ _ _ h2, rng_mem _ _ _ h6 _ (by simp), o1, o2, h9.1, h9.2.1, h9.2.2, fun n hn => ?_, h10⟩
  obtain ⟨i, hi, rfl⟩ := List.getElem_of_mem hn
  have := rest_all h1 i hi
  unfold Vp.altAt at this
  simp only [Bool.and_eq_true, decide_eq_true_eq] at this
  rw [List.getD_eq_getElem?_getD, List.getElem?_eq_getElem hi, Option.getD_some] at this
  exact this.1
theorem numT_at {e : En} {l : List Int} (h : DF e l) (k : Nat) : 0 ≤ (numT e).getD k 0 ∧ (numT e).getD k 0 ≤ 1099511627776 := by
  rw [List.getD_eq_getElem?_getD]
  rcases Nat.lt_or_ge k (numT e).length with h1 | h1
  · rw [List.getElem?_eq_getElem h1]; exact h.ns _ (List.getElem_mem h1)
  · rw [List.getElem?_eq_none h1]; decide
theorem join_snocG (sep x : List UInt8) : ∀ l : List (List UInt8), l ≠ [] → Lib.join (l ++ [x]) sep = Lib.join l sep ++ sep ++ x
  | [], h => absurd rfl h
  | a :: r, _ => by
    rw [List.cons_append, Lib.join_cons, Lib.join_cons]
    simp [Lib.joinTail, List.append_assoc]
/-- the text of the first k alternates -/
def altS (l : List Int) : Nat → ByteArray
  | 0 => ⟨#[]⟩
  | k + 1 => (if 0 < k then altS l k ++ ⟨#[32]⟩ else altS l k) ++ ⟨(Lib.itoa (l.getD k 0)).toArray⟩
theorem altS_eq (l : List Int) : ∀ k, k ≤ l.length → Ds.bl (altS l k) = Lib.join ((l.take k).map Lib.itoa) [32]
  | 0, _ => by simp [altS, Ds.bl, Lib.join]
  | k + 1, h => by
    have ih := altS_eq l k (by omega)
    have e : l.getD k 0 = l[k] := by rw [List.getD_eq_getElem?_getD, List.getElem?_eq_getElem (by omega), Option.getD_some]
    rw [altS, e, List.take_succ_eq_append_getElem (by omega), List.map_append]
    by_cases h0 : 0 < k
    · rw [if_pos h0, List.map_singleton, join_snocG _ _ _ (fun h9 => by have := congrArg List.length h9; rw [List.length_map, List.length_take] at this; simp only [List.length_nil] at this; omega), ← ih]
      simp [Ds.bl]
    · obtain rfl : k = 0 := by omega
      simp [altS, Ds.bl, Lib.join_one]
theorem altS_all (l : List Int) : altS l l.length = altB l := by
  apply Ds.bl_inj
  rw [altS_eq l _ (Nat.le_refl _), List.take_length]
  unfold altB
  rw [Ds.bl_mk]
theorem altS_size {e : En} {l : List Int} (h : DF e l) (hi : ∀ n : Int, 1 ≤ n → n ≤ 1099511627776 → (Lib.itoa n).length ≤ 13) : ∀ k, k ≤ l.length → (altS l k).size ≤ 14 * k
  | 0, _ => Nat.le_refl 0
  | k + 1, hk => by
    have ih := altS_size h hi k (by omega)
    have e : l.getD k 0 = l[k] := by rw [List.getD_eq_getElem?_getD, List.getElem?_eq_getElem (by omega), Option.getD_some]
    have := h.al l[k] (List.getElem_mem _)
    have := hi l[k] this.1 this.2
    rw [altS, e, ByteArray.size_append, show (⟨(Lib.itoa l[k]).toArray⟩ : ByteArray).size = (Lib.itoa l[k]).length from List.size_toArray]
    split
    · rw [ByteArray.size_append, show (⟨#[32]⟩ : ByteArray).size = 1 from rfl]; omega
    · omega
end Go.Proofs.YtdfdjfnfmibpjaaGreatDoor
