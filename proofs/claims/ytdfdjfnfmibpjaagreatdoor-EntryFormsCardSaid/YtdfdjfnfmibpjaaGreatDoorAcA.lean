/- Several texts in one: Ax Es Rg ApG AcA. -/
import Derived.Test.YtdfdjfnfmibpjaaGreatDoorEc
import Derived.Test.YtdfdjfnfmibpjaaGreatDoorDsK
import Derived.Test.YtdfdjfnfmibpjaaGreatDoorSaC
import Derived.Test.YtdfdjfnfmibpjaaGreatDoorKit
import Derived.Deep.RegionHeld3
import Derived.Test.YtdfdjfnfmibpjaaGreatDoorGeA
import Derived.Maps.AppendAt
import Derived.Lib.SliceRun
import Derived.Test.YtdfdjfnfmibpjaaGreatDoorRsA
import Derived.Test.YtdfdjfnfmibpjaaGreatDoorDsH
import Derived.Test.YtdfdjfnfmibpjaaGreatDoorDsW
import Derived.Deep.QuietTactic
import Derived.BigQuiet
section
/- Access in plain words: the most specific profile, the level; levels that rise. No program in sight. -/
namespace Go.Proofs.YtdfdjfnfmibpjaaGreatDoor
set_option maxHeartbeats 1600000
set_option maxRecDepth 8000
/-- an entry of a list: its fields, how many alternates, how many grants, the grants -/
structure Ef where
  e : En
  n1 : Nat
  n2 : Nat
  gs : List Gr
def okQ (x : Ef) : Bool := Ds.pat (Ds.bl x.e.name) && (Vp.prof x.e x.gs && (sameE (onlyP x.e) x.e [] [] x.gs x.gs && decide (x.n1 = 0)))
theorem okQ_okX (x : Ef) (l : List Int) (hk : x.e.kind = 4) (hl : l.length = x.n1) : okX (x.e, l, x.gs) = okQ x := by
  unfold okX okQ okP
  simp only
  rw [if_neg (by omega), if_neg (by omega), if_neg (by omega), if_neg (by omega), if_pos hk]
  by_cases h0 : x.n1 = 0
  · obtain rfl : l = [] := List.eq_nil_of_length_eq_zero (by omega)
    rw [decide_eq_true h0, Bool.and_true, Bool.and_assoc]
  · rw [decide_eq_false h0, Bool.and_false, Bool.and_false, Bool.and_false]
    have : sameE (onlyP x.e) x.e [] l x.gs x.gs = false := by
      rw [Bool.eq_false_iff]; intro h
      have := ((sameE_eq _ _ _ _ _ _).1 h).2.1
      rw [← this] at hl; exact h0 hl.symm
    rw [this, Bool.and_false]
/-- is this a profile of the name? -/
def hits (n : List UInt8) (x : Ef) : Bool := decide (x.e.kind = 4) && (okQ x && Ds.match_ (Ds.bl x.e.name) n)
def ahead (x : Ef) : Option Ef → Bool
  | none => true
  | some y => decide (Ds.order (Ds.bl x.e.name) (Ds.bl y.e.name) < 0)
def bstep (n : List UInt8) (o : Option Ef) (x : Ef) : Option Ef := if hits n x = true ∧ ahead x o = true then some x else o
def best (n : List UInt8) (l : List Ef) : Option Ef := l.foldl (bstep n) none
theorem best_snoc (n : List UInt8) (l : List Ef) (x : Ef) : best n (l ++ [x]) = bstep n (best n l) x := by
  unfold best; rw [List.foldl_append]; rfl
theorem best_skip (n : List UInt8) (l : List Ef) (x : Ef) (h : hits n x = false) : best n (x :: l) = best n l := by
  unfold best
  rw [List.foldl_cons]
  have : bstep n none x = none := by unfold bstep; rw [if_neg (by rw [h]; simp)]
  rw [this]
theorem best_mem (n : List UInt8) : ∀ (l : List Ef) (o : Option Ef) (x : Ef), l.foldl (bstep n) o = some x → o = some x ∨ (x ∈ l ∧ hits n x = true)
  | [], o, x, h => Or.inl h
  | y :: l, o, x, h => by
    rw [List.foldl_cons] at h
    rcases best_mem n l _ x h with h1 | h1
    · unfold bstep at h1
      split at h1
      · rename_i c; cases h1; exact Or.inr ⟨by simp, c.1⟩
      · exact Or.inl h1
    · exact Or.inr ⟨by simp [h1.1], h1.2⟩
def isU (u : ByteArray) (g : Gr) : Bool := !g.2.1 && decide (g.1 = u)
def isG (gr : List ByteArray) (g : Gr) : Bool := g.2.1 && gr.any (fun a => decide (a = g.1))
/-- the greatest level of those grants that are chosen -/
def gmax (c : Gr → Bool) : List Gr → Int → Int
  | [], a => a
  | g :: r, a => gmax c r (if c g then max a g.2.2 else a)
def plvl (x : Ef) (u : ByteArray) (gr : List ByteArray) : Int :=
  if (decide (u ≠ ⟨#[]⟩) && decide (x.e.owner = u)) = true then 3
  else if x.gs.any (isU u) = true then gmax (isU u) x.gs 0
  else if x.gs.any (isG gr) = true then gmax (isG gr) x.gs 0 else x.e.lev
def lvl (l : List Ef) (u : ByteArray) (gr : List ByteArray) (name : ByteArray) : Int :=
  if Ds.name (Ds.bl name) = false then 0
  else if Ds.first 1 (Ds.bl name) = Ds.bl u then 3
  else match best (Ds.bl name) l with
    | none => 0
    | some x => plvl x u gr
theorem gmax_snoc (c : Gr → Bool) (g : Gr) : ∀ (l : List Gr) (a : Int), gmax c (l ++ [g]) a = (if c g then max (gmax c l a) g.2.2 else gmax c l a)
  | [], a => rfl
  | h :: l, a => by rw [List.cons_append, gmax, gmax_snoc c g l]; rfl
/-- a further profile that does not match changes nothing -/
theorem lvl_more (x : Ef) (l : List Ef) (u : ByteArray) (gr : List ByteArray) (name : ByteArray) (h : Ds.match_ (Ds.bl x.e.name) (Ds.bl name) = false) : lvl (x :: l) u gr name = lvl l u gr name := by
  unfold lvl
  rw [best_skip _ l x (by unfold hits; rw [h, Bool.and_false, Bool.and_false])]
/-- two lists, one by one -/
inductive All2 {α β : Type} (R : α → β → Prop) : List α → List β → Prop
  | nil : All2 R [] []
  | cons {a b l m} : R a b → All2 R l m → All2 R (a :: l) (b :: m)
theorem All2.snoc {α β : Type} {R : α → β → Prop} {l : List α} {m : List β} {a : α} {b : β} (h : All2 R l m) (r : R a b) : All2 R (l ++ [a]) (m ++ [b]) := by
  induction h with
  | nil => exact .cons r .nil
  | cons q _ ih => exact .cons q ih
theorem All2.length {α β : Type} {R : α → β → Prop} {l : List α} {m : List β} (h : All2 R l m) : l.length = m.length := by
  induction h with
  | nil => rfl
  | cons _ _ ih => simp [ih]
theorem All2.at {α β : Type} {R : α → β → Prop} {l : List α} {m : List β} (h : All2 R l m) : ∀ (i : Nat) (a : α) (b : β), l[i]? = some a → m[i]? = some b → R a b := by
  induction h with
  | nil => intro i a b h; simp at h
  | cons r _ ih =>
    intro i a b h1 h2
    cases i with
    | zero => simp at h1 h2; subst h1 h2; exact r
    | succ i => simp at h1 h2; exact ih i a b h1 h2
/-- a level and a level that has risen -/
def Up (a b : Int) : Prop := (0 ≤ a ∧ a ≤ 3 → a ≤ b ∧ b ≤ 3) ∧ (¬ (0 ≤ a ∧ a ≤ 3) → b = a)
theorem Up.refl (a : Int) : Up a a := ⟨fun h => ⟨Int.le_refl _, h.2⟩, fun _ => rfl⟩
theorem Up.le {a b : Int} (h : Up a b) : a ≤ b := by
  by_cases k : 0 ≤ a ∧ a ≤ 3
  · exact (h.1 k).1
  · rw [h.2 k]; exact Int.le_refl _
theorem Up.rng {a b : Int} (h : Up a b) : Vp.rng 0 3 [b] = Vp.rng 0 3 [a] := by
  unfold Vp.rng
  simp only [List.all_cons, List.all_nil, Bool.and_true]
  by_cases k : 0 ≤ a ∧ a ≤ 3
  · have := h.1 k
    rw [decide_eq_true k.1, decide_eq_true k.2, decide_eq_true (by omega : 0 ≤ b), decide_eq_true (by omega : b ≤ 3)]
  · rw [h.2 k]
def UpG (a b : Gr) : Prop := b.1 = a.1 ∧ b.2.1 = a.2.1 ∧ Up a.2.2 b.2.2
/-- an entry and an entry that has risen -/
def Rise (x y : Ef) : Prop := y.e.kind = x.e.kind ∧ y.e.name = x.e.name ∧ (x.e.kind = 4 → y.n1 = x.n1 ∧ (∃ L, Up x.e.lev L ∧ y.e = { x.e with lev := L }) ∧ All2 UpG x.gs y.gs)
theorem up_gk {l m : List Gr} (h : All2 UpG l m) : m.map Vp.gk = l.map Vp.gk := by
  induction h with
  | nil => rfl
  | cons r _ ih => rw [List.map_cons, List.map_cons, ih]; unfold Vp.gk; rw [r.1, r.2.1]
theorem up_grAt {l m : List Gr} (h : All2 UpG l m) (i : Nat) : Vp.grAt m i = Vp.grAt l i := by
  unfold Vp.grAt
  have hl := h.length
  by_cases hi : i < l.length
  · have hi' : i < m.length := by omega
    have r := h.at i l[i] m[i] (List.getElem?_eq_getElem hi) (List.getElem?_eq_getElem hi')
    rw [List.getElem?_eq_getElem hi, List.getElem?_eq_getElem hi']
    simp only
    have e1 : (m.take i).map Vp.gk = (l.take i).map Vp.gk := by rw [List.map_take, List.map_take, up_gk h]
    have e2 : Vp.gk m[i] = Vp.gk l[i] := by unfold Vp.gk; rw [r.1, r.2.1]
    rw [e1, e2, r.1, r.2.2.rng]
  · rw [List.getElem?_eq_none (by omega), List.getElem?_eq_none (by omega)]
theorem up_grs {l m : List Gr} (h : All2 UpG l m) : Vp.grs m = Vp.grs l := by
  unfold Vp.grs
  rw [← h.length]
  have : Vp.grAt m = Vp.grAt l := funext fun i => up_grAt h i
  rw [this]
theorem rise_okQ {x y : Ef} (hk : x.e.kind = 4) (h : Rise x y) : okQ y = okQ x := by
  obtain ⟨-, hn, h⟩ := h
  obtain ⟨h1, ⟨L, hL, he⟩, hg⟩ := h hk
  have hs : sameE (onlyP y.e) y.e [] [] y.gs y.gs = sameE (onlyP x.e) x.e [] [] x.gs x.gs := by
    rw [Bool.eq_iff_iff, sameE_eq, sameE_eq, he]
    unfold onlyP
    obtain ⟨e, _, _, _⟩ := x
    cases e
    simp [En.mk.injEq]
  have hp : Vp.prof y.e y.gs = Vp.prof x.e x.gs := by
    unfold Vp.prof
    rw [up_grs hg, he, hL.rng, hg.length]
  unfold okQ
  rw [hn, hs, hp, h1]
theorem rise_hits {x y : Ef} (n : List UInt8) (h : Rise x y) : hits n y = hits n x := by
  unfold hits
  by_cases hk : x.e.kind = 4
  · rw [rise_okQ hk h, h.1, h.2.1]
  · rw [h.1, decide_eq_false hk, Bool.false_and, Bool.false_and]
def Rise? : Option Ef → Option Ef → Prop
  | none, none => True
  | some x, some y => Rise x y
  | _, _ => False
theorem rise_step {x y : Ef} {o p : Option Ef} (n : List UInt8) (h : Rise x y) (ho : Rise? o p) : Rise? (bstep n o x) (bstep n p y) := by
  have hh := rise_hits n h
  have ha : ahead y p = ahead x o := by
    cases o with
    | none => cases p with
      | none => rfl
      | some _ => exact ho.elim
    | some a => cases p with
      | none => exact ho.elim
      | some b =>
        unfold ahead
        have hb : Rise a b := ho
        simp only
        rw [h.2.1, hb.2.1]
  unfold bstep
  rw [hh, ha]
  split
  · exact h
  · exact ho
theorem rise_fold (n : List UInt8) {l m : List Ef} (h : All2 Rise l m) : ∀ {o p : Option Ef}, Rise? o p → Rise? (l.foldl (bstep n) o) (m.foldl (bstep n) p) := by
  induction h with
  | nil => intro o p ho; exact ho
  | cons r _ ih => intro o p ho; exact ih (rise_step n r ho)
theorem up_any {l m : List Gr} (h : All2 UpG l m) (c : Gr → Bool) (hc : ∀ a b, UpG a b → c b = c a) : m.any c = l.any c := by
  induction h with
  | nil => rfl
  | cons r _ ih => rw [List.any_cons, List.any_cons, ih, hc _ _ r]
theorem up_gmax {l m : List Gr} (h : All2 UpG l m) (c : Gr → Bool) (hc : ∀ a b, UpG a b → c b = c a) : ∀ {a b : Int}, a ≤ b → gmax c l a ≤ gmax c m b := by
  induction h with
  | nil => intro a b h; exact h
  | cons r _ ih =>
    intro a b hab
    unfold gmax
    refine ih ?_
    rw [hc _ _ r]
    have := r.2.2.le
    split <;> omega
theorem isU_up (u : ByteArray) (a b : Gr) (h : UpG a b) : isU u b = isU u a := by unfold isU; rw [h.1, h.2.1]
theorem isG_up (gr : List ByteArray) (a b : Gr) (h : UpG a b) : isG gr b = isG gr a := by unfold isG; rw [h.1, h.2.1]
theorem rise_plvl {x y : Ef} (hk : x.e.kind = 4) (h : Rise x y) (u : ByteArray) (gr : List ByteArray) : plvl x u gr ≤ plvl y u gr := by
  obtain ⟨-, -, h⟩ := h
  obtain ⟨-, ⟨L, hL, he⟩, hg⟩ := h hk
  unfold plvl
  rw [up_any hg _ (isU_up u), up_any hg _ (isG_up gr), he]
  simp only
  split
  · exact Int.le_refl _
  split
  · exact up_gmax hg _ (isU_up u) (Int.le_refl _)
  split
  · exact up_gmax hg _ (isG_up gr) (Int.le_refl _)
  · exact hL.le
/-- nobody loses anything when levels rise -/
theorem rise_lvl {l m : List Ef} (h : All2 Rise l m) (u : ByteArray) (gr : List ByteArray) (name : ByteArray) : lvl l u gr name ≤ lvl m u gr name := by
  unfold lvl
  split
  · exact Int.le_refl _
  split
  · exact Int.le_refl _
  have hb := rise_fold (Ds.bl name) h (o := none) (p := none) trivial
  have hm := best_mem (Ds.bl name) l none
  unfold best
  cases ho : l.foldl (bstep (Ds.bl name)) none with
  | none =>
    cases hp : m.foldl (bstep (Ds.bl name)) none with
    | none => exact Int.le_refl _
    | some _ => rw [ho, hp] at hb; exact hb.elim
  | some x =>
    cases hp : m.foldl (bstep (Ds.bl name)) none with
    | none => rw [ho, hp] at hb; exact hb.elim
    | some y =>
      rw [ho, hp] at hb
      rcases hm x ho with h1 | h1
      · cases h1
      · have hk : x.e.kind = 4 := by
          have := h1.2
          unfold hits at this
          simp only [Bool.and_eq_true, decide_eq_true_eq] at this
          exact this.1
        exact rise_plvl hk hb u gr
end Go.Proofs.YtdfdjfnfmibpjaaGreatDoor

end
section
/- Slices of catalog entries in memory: elements of 33 cells each. -/
namespace Go.Proofs.YtdfdjfnfmibpjaaGreatDoor
open Go.RowKit
set_option maxHeartbeats 1600000
set_option maxRecDepth 8000
/-- 33 cells of a block from a place on -/
def mid (w : World) (b o : Nat) : Array Value := (row w b).extract o (o + 33)
theorem mid_below {w w' : World} {b o : Nat} {cs : Array Value} (hb : Below w.heap.size w w') (h : mid w b o = cs) (h0 : 0 < cs.size) : mid w' b o = cs := by
  have hz : 0 < (row w b).size := by
    unfold mid at h
    rcases Nat.eq_zero_or_pos (row w b).size with h1 | h1
    · rw [← h, Array.size_extract] at h0; omega
    · exact h1
  unfold mid at *
  rw [row_below hb rfl hz]; exact h
theorem cell_mid {w : World} {b o : Nat} {cs : Array Value} (h : mid w b o = cs) (i : Nat) (v : Value) (hv : cs[i]? = some v) : w.cell? ⟨b, o + i, none⟩ = some v := by
  unfold mid at h
  subst h
  rw [Array.getElem?_extract] at hv
  split at hv
  · exact cell_row rfl (o + i) v hv
  · cases hv
theorem mid_of {w : World} {b o : Nat} {cs : Array Value} (hs : cs.size = 33) (h : ∀ i v, cs[i]? = some v → w.cell? ⟨b, o + i, none⟩ = some v) : mid w b o = cs := by
  unfold mid
  apply Array.ext_getElem?
  intro i
  rw [Array.getElem?_extract]
  by_cases hi : i < 33
  · have h1 := h i cs[i] (Array.getElem?_eq_getElem (by omega))
    have h2 : (row w b)[o + i]? = some cs[i] := by
      unfold row
      cases e : w.heap[b]? with
      | none => have := block_lt_of_cell h1; rw [Array.getElem?_eq_none_iff] at e; simp only at this; omega
      | some ob =>
        cases ob with
        | cells c t fr => simp only; rw [← cell_of_row w b (o + i) c t fr e]; exact h1
        | _ => simp [World.cell?, e] at h1
    have h3 : o + i < (row w b).size := (Array.getElem?_eq_some_iff.1 h2).1
    rw [if_pos (by omega), h2, Array.getElem?_eq_getElem (by omega)]
  · rw [Array.getElem?_eq_none (by omega : cs.size ≤ i)]
    split
    · omega
    · rfl
def isPtr : Value → Bool | .pointer (some ⟨_, _, none⟩) => true | _ => false
theorem isPtr_mk (b o : Nat) : isPtr (.pointer (some ⟨b, o, none⟩)) = true := rfl
def offOf : Value → Nat | .pointer (some a) => a.off | _ => 0
theorem offOf_mk (a : Addr) : offOf (.pointer (some a)) = a.off := rfl
theorem ldEntM (ev : Operand → Value) (w : World) (dst x t pos af gd) (h1 : isPtr (ev x) = true) (h2 : (mid w (headOf (ev x)) (offOf (ev x))).size = 33) :
    (execOp ev ⟨dst, .load 27 x, t, pos, af, gd⟩).run Tryz.prog w = .ok (.value (.agg (mid w (headOf (ev x)) (offOf (ev x))))) w := by
  obtain ⟨g, o, hg⟩ : ∃ g o, ev x = .pointer (some ⟨g, o, none⟩) := by
    unfold isPtr at h1
    split at h1
    · rename_i g o h; exact ⟨g, o, h⟩
    · cases h1
  rw [hg, headOf_mk, offOf_mk] at h2 ⊢
  simp only at h2 ⊢
  unfold execOp
  have hc : w.rangeAt g o (mid w g o).toList := fun j v hv => by
    rw [Array.getElem?_toList] at hv
    exact cell_mid rfl j v hv
  have hl : (mid w g o).toList.length = 33 := by simpa using h2
  have hr := run_loadAt_mid (P := Tryz.prog) w g o 27 _ _ hc Tryz.underlying27 rfl (by rw [hl]; kernel_rfl)
  simp only [hg, Sem.run_bind, hr, Result.andThen_ok, Sem.run_pure, Array.toArray_toList]
/-- the k-th entry at a place -/
def EF (w : World) (b o : Nat) (x : Ef) : Prop :=
  ∃ (a1 : Option Addr) (c1 : Nat) (a2 : Option Addr) (c2 : Nat), mid w b o = x.e.vals (.slice a1 x.n1 c1) (.slice a2 x.n2 c2) ∧ x.n1 ≤ 9223372036854775807 ∧ x.n2 ≤ 9223372036854775807 ∧ (x.n2 ≤ 1000 → x.gs.length = x.n2 ∧ GS w (.slice a2 x.n2 c2) x.gs)
theorem EF.below {w w' : World} {b o : Nat} {x : Ef} (h : EF w b o x) (hb : Below w.heap.size w w') : EF w' b o x := by
  obtain ⟨a1, c1, a2, c2, h1, h2, h3, h4⟩ := h
  exact ⟨a1, c1, a2, c2, mid_below hb h1 (by rw [vals_size]; decide), h2, h3, fun h => ⟨(h4 h).1, (h4 h).2.below hb⟩⟩
/-- n entries, however many -/
def ES (w : World) (a : Option Addr) (n : Nat) (F : Nat → Ef) : Prop := n ≤ 9223372036854775807 ∧ ∀ k, k < n → ∃ b o, a = some ⟨b, o, none⟩ ∧ b < w.heap.size ∧ EF w b (o + k * 33) (F k)
theorem ES.below {w w' : World} {a : Option Addr} {n : Nat} {F : Nat → Ef} (h : ES w a n F) (hb : Below w.heap.size w w') : ES w' a n F :=
  ⟨h.1, fun k hk => by
    obtain ⟨b, o, h1, h2, h3⟩ := h.2 k hk
    exact ⟨b, o, h1, Nat.lt_of_lt_of_le h2 hb.size, h3.below hb⟩⟩
def lst (F : Nat → Ef) (n : Nat) : List Ef := (List.range n).map F
theorem lst_len (F : Nat → Ef) (n : Nat) : (lst F n).length = n := by simp [lst]
theorem lst_succ (F : Nat → Ef) (n : Nat) : lst F (n + 1) = lst F n ++ [F n] := by simp [lst, List.range_succ]
end Go.Proofs.YtdfdjfnfmibpjaaGreatDoor

end
section
/- A region that draws, taken operation by operation: what is wanted, what is not, calls. -/
namespace Go.Proofs.YtdfdjfnfmibpjaaGreatDoor
open Go.RowKit
variable {P : Program} {md : Region.Mode} {ops : Array Oper} {Q : Exit → Act → World → Prop} {S : World → Prop}
theorem rg_y {i : Nat} {oi : Oper} (d : Option Tmp) {v : Value} {fuel : Nat} {listed : Array Bool} {a : Act} {w : World} (hi : ops[i]? = some oi) (hd : oi.dst = d)
    (hs : Region.noSelect ops = true) (hf : Region.free md ops listed i = true) (hr : (Region.ready md ops listed).contains i = true)
    (hQ : ∀ c a w, Q (.panic c) (a.put d v) w → Q (.panic c) a w) (hw : Region.wanted oi (yielded ops a.tmps) = true) (hv : ∀ w, S w → (execOp a.eval oi).run P w = .ok (.value v) w) (hS : S w)
    (h : wpAnyH P md ops Q S fuel (listed.setIfInBounds i true) (a.put d v) w) : wpAnyH P md ops Q S (fuel + 1) listed a w := by
  subst hd
  exact wpAnyH_take hi hs hf hr hQ (Or.inl ⟨hw, hv⟩) hS h
theorem rg_s {i : Nat} {oi : Oper} (d : Option Tmp) {fuel : Nat} {listed : Array Bool} {a : Act} {w : World} (hi : ops[i]? = some oi) (hd : oi.dst = d)
    (hs : Region.noSelect ops = true) (hf : Region.free md ops listed i = true) (hr : (Region.ready md ops listed).contains i = true)
    (hQ : ∀ c a w, Q (.panic c) (a.put d undef) w → Q (.panic c) a w) (hw : Region.wanted oi (yielded ops a.tmps) = false) (hS : S w)
    (h : wpAnyH P md ops Q S fuel (listed.setIfInBounds i true) (a.put d undef) w) : wpAnyH P md ops Q S (fuel + 1) listed a w := by
  subst hd
  exact wpAnyH_take hi hs hf hr hQ (Or.inr ⟨hw, rfl⟩) hS h
theorem rg_n {i : Nat} {oi : Oper} (d : Option Tmp) {fuel : Nat} {listed : Array Bool} {a : Act} {w : World} (hi : ops[i]? = some oi) (hd : oi.dst = d)
    (hr : Region.ready md ops listed = [i]) (hw : Region.wanted oi (yielded ops a.tmps) = false) (hS : S w)
    (h : wpAnyH P md ops Q S fuel (listed.setIfInBounds i true) (a.put d undef) w) : wpAnyH P md ops Q S (fuel + 1) listed a w := by
  subst hd
  refine wpAnyH_ready hr (by simp) (AllReadyH.cons hi (fun K hK => ?_) AllReadyH.nil)
  rw [if_neg (by rw [hw]; simp)]
  exact hK.out _ _ hS (fun _ => h)
/-- an operation that changes the world and yields nothing, where no other may come up -/
theorem rg_t {i : Nat} {oi : Oper} (d : Option Tmp) (w2 : World) {fuel : Nat} {listed : Array Bool} {a : Act} {w : World} (hi : ops[i]? = some oi) (hd : oi.dst = d)
    (hr : Region.ready md ops listed = [i]) (hw : Region.wanted oi (yielded ops a.tmps) = true) (hx : (execOp a.eval oi).run P w = .ok .skip w2) (hS : S w2)
    (h : wpAnyH P md ops Q S fuel (listed.setIfInBounds i true) (a.put d undef) w2) : wpAnyH P md ops Q S (fuel + 1) listed a w := by
  subst hd
  refine wpAnyH_ready hr (by simp) (AllReadyH.cons hi (fun K hK => ?_) AllReadyH.nil)
  rw [if_pos hw]
  unfold Oper.wp
  rw [hx]
  exact hK.out _ _ hS (fun _ => h)
end Go.Proofs.YtdfdjfnfmibpjaaGreatDoor

end
section
/- append of elements of several cells to a row of the call's own; slices.Clone at grants. -/
namespace Go.Proofs.YtdfdjfnfmibpjaaGreatDoor
open Go.RowKit
set_option maxHeartbeats 1600000
set_option maxRecDepth 8000
theorem owns_sl {w : World} {base e size n : Nat} {v : Value} {xs : List Value} (h : w.ownsRow base e size v n xs) : ∃ a c, v = .slice a n c := by
  rcases h.2 with ⟨rfl, rfl⟩ | ⟨g, cap, cur, rfl, _⟩
  · exact ⟨_, _, rfl⟩
  · exact ⟨_, _, rfl⟩
theorem run_app_none' {P : Program} (w : World) (base t e : TypeId) (i : TypeInfo) (size : Nat) (ht : P.underlying t = some (.slice e)) (hi : P.info? e = some i) (ty : Nat) (v : Value) (n c : Nat) (xs : List Value) (hown : w.ownsRow base e size v n xs) :
    (Builtin.append_ #[t, t] ty #[v, .slice none 0 c]).run P w = .ok v w := by
  rcases hown.2 with ⟨rfl, rfl⟩ | ⟨g, cap, cur, rfl, _, _, hnc, _⟩
  · simp [Builtin.append_, run_underlying ht, sizeOf, typeInfo, hi, Builtin.lenOf, Builtin.firstCells]
  · simp [Builtin.append_, run_underlying ht, sizeOf, typeInfo, hi, Builtin.lenOf, Builtin.firstCells, hnc, storeCells]
/-- the cells of a slice of m elements of this size -/
def CS (w : World) (size : Nat) (v : Value) (m : Nat) (news : List Value) : Prop :=
  ∃ a c, v = .slice a m c ∧ news.length = m * size ∧ (0 < m → ∃ ad, a = some ad ∧ ∀ j u, news[j]? = some u → w.cell? (ad.add j) = some u)
theorem CS.below {w w' : World} {size m : Nat} {v : Value} {news : List Value} (h : CS w size v m news) (hb : Below w.heap.size w w') : CS w' size v m news := by
  obtain ⟨a, c, h1, h2, h3⟩ := h
  exact ⟨a, c, h1, h2, fun h0 => by
    obtain ⟨ad, e, p⟩ := h3 h0
    exact ⟨ad, e, fun j u hu => below_cell hb (p j u hu)⟩⟩
theorem wp_appX {ops : Array Oper} {rest : List Oper} {o : Oper} {a : Act} {Q : Exit → Act → World → Prop} (w : World) (hgd : o.guard = none) (s x : Operand) (t e : TypeId) (i : TypeInfo) (z : Value) (size bytes : Nat)
    (ho : o.op = .call { callee := .builtin .append, args := #[s, x], argTypes := #[t, t] })
    (ht : Tryz.prog.underlying t = some (.slice e)) (hi : Tryz.prog.info? e = some i) (hz : i.zero = some z) (hsize : i.size = size) (hby : i.bytes = bytes) (hzs : z.cells.size = size) (hsz : 0 < size)
    (base : Nat) (v sv : Value) (n m : Nat) (xs news : List Value) (hs : a.eval s = v) (hown : w.ownsRow base e size v n xs) (hx : a.eval x = sv) (hc : CS w size sv m news) (h1 : ∀ u ∈ news, u.oneCell' = true)
    (h63 : n + m ≤ maxLen) (hbytes : (n + m) * bytes ≤ 140737488355328) (hbase : base ≤ w.heap.size)
    (h : ∀ a' c' w', w'.ownsRow base e size (.slice a' (n + m) c') (n + m) (xs ++ news) → w.grownBy w' v.ownBlock → ((Value.slice a' (n + m) c').ownBlock = v.ownBlock ∨ (Value.slice a' (n + m) c').ownBlock = some w.heap.size) → wpList Tryz.prog ops Q rest (a.put o.dst (.slice a' (n + m) c')) w') :
    wpList Tryz.prog ops Q (o :: rest) a w := by
  obtain ⟨ad, c, rfl, hll, hcs⟩ := hc
  rcases ad with _ | ad
  · have h0 : m = 0 := by
      rcases Nat.eq_zero_or_pos m with h0 | h0
      · exact h0
      · obtain ⟨b, e, -⟩ := hcs h0; cases e
    subst h0
    obtain rfl : news = [] := List.eq_nil_of_length_eq_zero (by omega)
    obtain ⟨a', c', rfl⟩ := owns_sl hown
    refine wpList_plain hgd fun K hK => ?_
    have hrun := run_app_none' w base t e i size ht hi o.type _ _ c _ hown
    unfold Oper.wp execOp
    simp only [ho, resolve, invoke, builtin, Sem.run_bind, Sem.run_pure, Result.andThen_ok, List.map_toArray, List.map_cons, List.map_nil, hs, hx, hrun]
    have := h a' c' w (by simpa using hown) (World.grownBy.refl w _) (.inl (by cases a' <;> rfl))
    exact hK _ _ this
  · refine wpList_append_own_at w hgd s x t ho base e i z size bytes ht hi hz hsize hby hzs hsz v n xs hs hown ad m c news hx hll (fun j u hu => ?_) h1 h63 hbytes hbase ?_
    · rcases Nat.eq_zero_or_pos m with h0 | h0
      · subst h0
        obtain rfl : news = [] := List.eq_nil_of_length_eq_zero (by omega)
        simp at hu
      · obtain ⟨ad', e, p⟩ := hcs h0
        cases e
        exact p j u hu
    · intro v' w' hown' hgrow _ hat
      obtain ⟨a', c', rfl⟩ := owns_sl hown'
      exact h a' c' w' hown' hgrow hat
/-- what is not in the row that grows stays -/
theorem grown_keep {w w' : World} {v : Value} {base : Nat} (hg : w.grownBy w' v.ownBlock) (hb : ∀ k, v.ownBlock = some k → base ≤ k) (hs : base ≤ w.heap.size) : Below base w w' :=
  (Below.refl base w).grown hg hs hb
theorem own_base {w : World} {base e size n : Nat} {v : Value} {xs : List Value} (h : w.ownsRow base e size v n xs) : ∀ k, v.ownBlock = some k → base ≤ k ∧ k < w.heap.size := by
  intro k hk
  rcases h.2 with ⟨rfl, rfl⟩ | ⟨g, cap, cur, rfl, hb, hg, _⟩
  · cases hk
  · obtain rfl : g = k := by simpa [Value.ownBlock] using hk
    refine ⟨hb, ?_⟩
    rcases Nat.lt_or_ge g w.heap.size with h1 | h1
    · exact h1
    · rw [Array.getElem?_eq_none h1] at hg; cases hg
theorem own_keep {w w' : World} {base e size n : Nat} {v : Value} {xs : List Value} (h : w.ownsRow base e size v n xs) (k : ∀ x, v.ownBlock = some x → w'.heap[x]? = w.heap[x]?) : w'.ownsRow base e size v n xs := by
  refine ⟨h.1, ?_⟩
  rcases h.2 with h0 | ⟨g, cap, cur, rfl, hb, hg, hr⟩
  · exact .inl h0
  · exact .inr ⟨g, cap, cur, rfl, hb, (k g rfl).trans hg, hr⟩
theorem own_cells {w : World} {base e size n : Nat} {v : Value} {xs : List Value} (h : w.ownsRow base e size v n xs) : CS w size v n xs := by
  rcases h.2 with ⟨rfl, rfl⟩ | ⟨g, cap, cur, rfl, _, hg, hnc, _, hcs, ht⟩
  · exact ⟨_, _, rfl, h.1, fun h => absurd h (by decide)⟩
  · refine ⟨_, _, rfl, h.1, fun _ => ⟨_, rfl, fun j u hu => ?_⟩⟩
    rw [Addr.add_lit, Nat.zero_add, cell_of_row w g j cur e (0, 0) hg]
    rw [← ht] at hu
    have hj := (List.getElem?_eq_some_iff.1 hu).1
    rw [List.getElem?_take_of_lt (by simp at hj; omega)] at hu
    simpa using hu
/-- the cells of grants -/
def gv : List Gr → List Value
  | [] => []
  | g :: r => [.string g.1, .bool g.2.1, .int .i64 g.2.2] ++ gv r
theorem gv_len : ∀ l : List Gr, (gv l).length = l.length * 3
  | [] => rfl
  | g :: r => by rw [gv, List.length_append, gv_len r, List.length_cons, List.length_cons, List.length_cons, List.length_cons, List.length_nil]; omega
theorem gv_one : ∀ (l : List Gr), ∀ u ∈ gv l, u.oneCell' = true
  | [], u, h => by cases h
  | g :: r, u, h => by
    rw [gv, List.mem_append] at h
    rcases h with h | h
    · simp only [List.mem_cons, List.not_mem_nil, or_false] at h
      rcases h with rfl | rfl | rfl <;> rfl
    · exact gv_one r u h
theorem gv_app : ∀ (l m : List Gr), gv (l ++ m) = gv l ++ gv m
  | [], m => rfl
  | g :: r, m => by rw [List.cons_append, gv, gv, gv_app r m, List.append_assoc]
theorem gv_get : ∀ (l : List Gr) (k : Nat) (h : k < l.length), (gv l)[k * 3]? = some (.string l[k].1) ∧ (gv l)[k * 3 + 1]? = some (.bool l[k].2.1) ∧ (gv l)[k * 3 + 2]? = some (.int .i64 l[k].2.2)
  | g :: r, 0, _ => ⟨rfl, rfl, rfl⟩
  | g :: r, k + 1, h => by
    have := gv_get r k (by simpa using h)
    have e : (k + 1) * 3 = k * 3 + 3 := by omega
    rw [e, gv]
    simpa using this
theorem gv_all (l : List Gr) (P : Nat → Value → Prop) (h : ∀ k (h : k < l.length), P (k * 3) (.string l[k].1) ∧ P (k * 3 + 1) (.bool l[k].2.1) ∧ P (k * 3 + 2) (.int .i64 l[k].2.2)) : ∀ j u, (gv l)[j]? = some u → P j u := by
  intro j u hu
  have hj := (List.getElem?_eq_some_iff.1 hu).1
  rw [gv_len] at hj
  have hk : j / 3 < l.length := by omega
  obtain ⟨p0, p1, p2⟩ := h (j / 3) hk
  obtain ⟨q0, q1, q2⟩ := gv_get l (j / 3) hk
  rcases (by omega : j = j / 3 * 3 ∨ j = j / 3 * 3 + 1 ∨ j = j / 3 * 3 + 2) with e | e | e
  · rw [← e] at p0 q0; rw [q0] at hu; cases hu; exact p0
  · rw [← e] at p1 q1; rw [q1] at hu; cases hu; exact p1
  · rw [← e] at p2 q2; rw [q2] at hu; cases hu; exact p2
theorem GS.cells {w : World} {v : Value} {l : List Gr} (h : GS w v l) : CS w 3 v l.length (gv l) := by
  obtain ⟨a, c, rfl, -, hc⟩ := h
  refine ⟨a, c, rfl, gv_len l, fun h0 => ?_⟩
  obtain ⟨b, o, rfl, -, p⟩ := hc h0
  refine ⟨_, rfl, gv_all l (fun j u => w.cell? ((⟨b, o, none⟩ : Addr).add j) = some u) fun k hk => ?_⟩
  rw [Addr.add_lit, Addr.add_lit, Addr.add_lit]
  exact p k hk
theorem gs_of_cells {w : World} {v : Value} {l : List Gr} (hz : l.length ≤ 1000000) (h : CS w 3 v l.length (gv l)) : GS w v l := by
  obtain ⟨a, c, rfl, hl, hc⟩ := h
  refine ⟨a, c, rfl, hz, fun h0 => ?_⟩
  obtain ⟨⟨b, o, s⟩, rfl, p⟩ := hc h0
  have p0 := p 0 _ (gv_get l 0 h0).1
  obtain rfl : s = none := by
    have := World.cell?_spot p0
    simpa [Addr.add] using this
  refine ⟨b, o, rfl, block_lt_of_cell (by simpa [Addr.add] using p0 : w.cell? ⟨b, o, none⟩ = _), fun k hk => ?_⟩
  obtain ⟨q0, q1, q2⟩ := gv_get l k hk
  have r0 := p _ _ q0
  have r1 := p _ _ q1
  have r2 := p _ _ q2
  rw [Addr.add_lit] at r0 r1 r2
  exact ⟨r0, r1, r2⟩
theorem gr_i : Tryz.prog.info? 82 = some ((Tryz.prog.info? 82).getD default) := by kernel_rfl
theorem gr_i0 : ((Tryz.prog.info? 82).getD default).zero = some (.agg #[.string ⟨#[]⟩, .bool false, .int .i64 0]) := by kernel_rfl
theorem gr_i1 : ((Tryz.prog.info? 82).getD default).size = 3 := by kernel_rfl
theorem gr_i2 : ((Tryz.prog.info? 82).getD default).bytes = 32 := by kernel_rfl
/-- the cells of entries -/
def ec : List (Array Value) → List Value
  | [] => []
  | r :: l => r.toList ++ ec l
theorem ec_app : ∀ (l m : List (Array Value)), ec (l ++ m) = ec l ++ ec m
  | [], m => rfl
  | g :: r, m => by rw [List.cons_append, ec, ec, ec_app r m, List.append_assoc]
theorem ec_len : ∀ (l : List (Array Value)) (_ : ∀ r ∈ l, r.size = 33), (ec l).length = l.length * 33
  | [], _ => rfl
  | r :: l, h => by
    rw [ec, List.length_append, ec_len l (fun x hx => h x (by simp [hx])), List.length_cons, Array.length_toList, h r (by simp)]; omega
theorem ec_get : ∀ (l : List (Array Value)) (_ : ∀ r ∈ l, r.size = 33) (k i : Nat) (_ : i < 33) (r : Array Value), l[k]? = some r → (ec l)[k * 33 + i]? = r[i]?
  | [], _, k, i, _, r, h => by simp at h
  | x :: l, hz, 0, i, hi, r, h => by
    simp at h; subst h
    rw [ec, List.getElem?_append_left (by rw [Array.length_toList, hz x (by simp)]; omega)]
    simp
  | x :: l, hz, k + 1, i, hi, r, h => by
    have := ec_get l (fun x hx => hz x (by simp [hx])) k i hi r (by simpa using h)
    rw [ec, List.getElem?_append_right (by rw [Array.length_toList, hz x (by simp)]; omega), Array.length_toList, hz x (by simp), ← this]
    congr 1; omega
theorem ec_all (l : List (Array Value)) (hz : ∀ r ∈ l, r.size = 33) (P : Nat → Value → Prop) (h : ∀ (k i : Nat) (r : Array Value) (v : Value), l[k]? = some r → r[i]? = some v → P (k * 33 + i) v) : ∀ j u, (ec l)[j]? = some u → P j u := by
  intro j u hu
  have hj := (List.getElem?_eq_some_iff.1 hu).1
  rw [ec_len l hz] at hj
  have hk : j / 33 < l.length := by omega
  have e : j = j / 33 * 33 + j % 33 := by omega
  rw [e] at hu ⊢
  rw [ec_get l hz (j / 33) (j % 33) (by omega) l[j / 33] (List.getElem?_eq_getElem hk)] at hu
  exact h _ _ _ _ (List.getElem?_eq_getElem hk) hu
theorem ec_one (l : List (Array Value)) (hz : ∀ r ∈ l, r.size = 33) (h : ∀ r ∈ l, allOne r.toList = true) : ∀ u ∈ ec l, u.oneCell' = true := by
  intro u hu
  induction l with
  | nil => cases hu
  | cons r l ih =>
    rw [ec, List.mem_append] at hu
    rcases hu with hu | hu
    · have := allOne_all _ (h r (by simp))
      exact List.all_eq_true.1 this u hu
    · exact ih (fun x hx => hz x (by simp [hx])) (fun x hx => h x (by simp [hx])) hu
/-- an entry in a row of the call's own -/
theorem own_mid {w : World} {base n : Nat} {v : Value} {l : List (Array Value)} (hz : ∀ r ∈ l, r.size = 33) (h : w.ownsRow base 27 33 v n (ec l)) (k : Nat) (r : Array Value) (hk : l[k]? = some r) : ∃ g c, v = .slice (some ⟨g, 0, none⟩) n c ∧ base ≤ g ∧ g < w.heap.size ∧ mid w g (k * 33) = r := by
  have hkl := (List.getElem?_eq_some_iff.1 hk).1
  have hr : r.size = 33 := hz r (List.mem_of_getElem? hk)
  have hlen : l.length = n := by have := h.1; rw [ec_len l hz] at this; omega
  have hcs := own_cells h
  rcases h.2 with ⟨rfl, h0⟩ | ⟨g, cap, cur, rfl, hb, hg, hr'⟩
  · omega
  · obtain ⟨a, c, e, -, hp⟩ := hcs
    obtain ⟨ad, e2, p⟩ := hp (by omega)
    injection e with e1
    rw [e2] at e1
    cases e1
    refine ⟨g, cap, rfl, hb, ?_, mid_of hr fun i v hv => ?_⟩
    · rcases Nat.lt_or_ge g w.heap.size with h1 | h1
      · exact h1
      · rw [Array.getElem?_eq_none h1] at hg; cases hg
    · have hi : i < 33 := by rw [← hr]; exact (Array.getElem?_eq_some_iff.1 hv).1
      have := p (k * 33 + i) v (by rw [ec_get l hz k i hi r hk]; exact hv)
      rw [Addr.add_lit, Nat.zero_add] at this
      exact this
/-- the cells of a list of entries -/
def rowsOf (w : World) (b o n : Nat) : List (Array Value) := (List.range n).map fun k => mid w b (o + k * 33)
theorem ES.size {w : World} {a : Option Addr} {n : Nat} {F : Nat → Ef} (h : ES w a n F) (b o : Nat) (ha : a = some ⟨b, o, none⟩) : ∀ r ∈ rowsOf w b o n, r.size = 33 := by
  intro r hr
  unfold rowsOf at hr
  obtain ⟨k, hk, rfl⟩ := List.mem_map.1 hr
  obtain ⟨b', o', e, -, a1, c1, a2, c2, he, -⟩ := h.2 k (List.mem_range.1 hk)
  rw [ha] at e; cases e
  rw [he]; exact vals_size _ _ _
theorem ES.ones {w : World} {a : Option Addr} {n : Nat} {F : Nat → Ef} (h : ES w a n F) (b o : Nat) (ha : a = some ⟨b, o, none⟩) : ∀ r ∈ rowsOf w b o n, allOne r.toList = true := by
  intro r hr
  unfold rowsOf at hr
  obtain ⟨k, hk, rfl⟩ := List.mem_map.1 hr
  obtain ⟨b', o', e, -, a1, c1, a2, c2, he, -⟩ := h.2 k (List.mem_range.1 hk)
  rw [ha] at e; cases e
  rw [he]; exact vals_one _ _ _ rfl rfl
theorem ES.cells {w : World} {b o n c : Nat} {F : Nat → Ef} (h : ES w (some ⟨b, o, none⟩) n F) : CS w 33 (.slice (some ⟨b, o, none⟩) n c) n (ec (rowsOf w b o n)) := by
  have hz := h.size b o rfl
  refine ⟨_, _, rfl, by rw [ec_len _ hz]; unfold rowsOf; simp, fun _ => ⟨_, rfl, ec_all _ hz (fun j u => w.cell? ((⟨b, o, none⟩ : Addr).add j) = some u) fun k i r v hr hv => ?_⟩⟩
  unfold rowsOf at hr
  rw [List.getElem?_map] at hr
  cases e : (List.range n)[k]? with
  | none => rw [e] at hr; cases hr
  | some k' =>
    rw [e] at hr
    have hk' : k' = k := by
      have := (List.getElem?_eq_some_iff.1 e).2
      simpa using this.symm
    subst hk'
    cases hr
    have := cell_mid rfl i v hv
    rw [Addr.add_lit, ← Nat.add_assoc]
    exact this
theorem en_i : Tryz.prog.info? 27 = some ((Tryz.prog.info? 27).getD default) := by kernel_rfl
theorem en_i0 : ((Tryz.prog.info? 27).getD default).zero = some (.agg (En.zero.vals (.slice none 0 0) (.slice none 0 0))) := by kernel_rfl
theorem en_i1 : ((Tryz.prog.info? 27).getD default).size = 33 := by kernel_rfl
theorem en_i2 : ((Tryz.prog.info? 27).getD default).bytes = 336 := by kernel_rfl
end Go.Proofs.YtdfdjfnfmibpjaaGreatDoor

end
section
/- Contracts of package access: the chosen grants, granted. -/
namespace Go.Proofs.YtdfdjfnfmibpjaaGreatDoor
open Go.RowKit
set_option maxHeartbeats 1600000
set_option maxRecDepth 8000
attribute [local go_sem] vals_0 vals_1 vals_28 vals_31 vals_32
theorem tl_beq (a b : ByteArray) : (a.toList == b.toList) = decide (a = b) := by
  rw [Bool.eq_iff_iff, beq_iff_eq, decide_eq_true_eq, tl_inj]
theorem below_al2 {w wr w2 : World} {o : Obj} (B : Below w.heap.size w wr) (hb : Below (wr.alloc o).heap.size (wr.alloc o) w2) : Below w.heap.size w w2 :=
  (B.alloc B.size o).trans (hb.mono (by have := B.size; simp; omega))
def gagg (g : Gr) : Value := .agg #[.string g.1, .bool g.2.1, .int .i64 g.2.2]
/-- a slice of texts -/
def SS (w : World) (v : Value) (l : List ByteArray) : Prop :=
  ∃ a c, v = .slice a l.length c ∧ l.length ≤ 1000000 ∧ (0 < l.length → ∃ b o, a = some ⟨b, o, none⟩ ∧ b < w.heap.size ∧ ∀ k (h : k < l.length), w.cell? ⟨b, o + k, none⟩ = some (.string l[k]))
theorem SS.below {w w' : World} {v : Value} {l : List ByteArray} (h : SS w v l) (hb : Below w.heap.size w w') : SS w' v l := by
  obtain ⟨a, c, h1, h2, h3⟩ := h
  refine ⟨a, c, h1, h2, fun h0 => ?_⟩
  obtain ⟨b, o, ha, hlt, hc⟩ := h3 h0
  exact ⟨b, o, ha, Nat.lt_of_lt_of_le hlt hb.size, fun k hk => (hb.cell (p := ⟨b, o + k, none⟩) hlt).trans (hc k hk)⟩
theorem SS.nil (w : World) : SS w (.slice none 0 0) [] := ⟨none, 0, rfl, by decide, fun h => by simp at h⟩
theorem containsS_any (l : List ByteArray) (x : ByteArray) : Lib.containsS l x = l.any (fun a => decide (a = x)) := by
  rw [Bool.eq_iff_iff, Lib.containsS_iff, List.any_eq_true]
  constructor
  · intro h; exact ⟨x, h, decide_eq_true rfl⟩
  · rintro ⟨a, h, e⟩; rw [← of_decide_eq_true e]; exact h
theorem any_snoc {α : Type} (p : α → Bool) (l : List α) (x : α) : (l ++ [x]).any p = (l.any p || p x) := by simp
end Go.Proofs.YtdfdjfnfmibpjaaGreatDoor

end
