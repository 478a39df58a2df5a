/- A whole row stored into a new block. -/
import Derived.Test.YtlkfhlgngkgflaaGreatDoorKit2
namespace Go.Proofs.YtlkfhlgngkgflaaGreatDoor
open Go.RowKit
/-- the cells vs written over cs from place o on -/
def over (cs : Array Value) : Nat → List Value → Array Value
  | _, [] => cs
  | o, v :: r => over (cs.setIfInBounds o v) (o + 1) r
theorem over_size : ∀ (vs : List Value) (cs : Array Value) (o : Nat), (over cs o vs).size = cs.size
  | [], _, _ => rfl
  | v :: r, cs, o => by rw [over, over_size r]; simp
theorem over_get : ∀ (vs : List Value) (cs : Array Value) (o i : Nat), i < cs.size → o + vs.length ≤ cs.size → (over cs o vs)[i]? = if o ≤ i ∧ i < o + vs.length then vs[i - o]? else cs[i]?
  | [], cs, o, i, hi, hl => by simp only [over, List.length_nil]; rw [if_neg (by omega)]
  | v :: r, cs, o, i, hi, hl => by
    simp only [List.length_cons] at hl
    rw [over, over_get r (cs.setIfInBounds o v) (o + 1) i (by simpa using hi) (by simp; omega)]
    simp only [List.length_cons]
    by_cases h : o + 1 ≤ i ∧ i < o + 1 + r.length
    · rw [if_pos h, if_pos (by omega), show i - o = (i - (o + 1)) + 1 by omega]; rfl
    · rw [if_neg h, Array.getElem?_setIfInBounds]
      by_cases e : o = i
      · subst e; rw [if_pos rfl, if_pos hi, if_pos (by omega)]; simp
      · rw [if_neg e, if_neg (by omega)]
theorem over_all (zs cs : Array Value) (h : zs.size = cs.size) : over zs 0 cs.toList = cs := by
  apply Array.ext_getElem?
  intro i
  by_cases hi : i < zs.size
  · rw [over_get _ _ _ _ hi (by simp; omega), if_pos (by simp; omega)]; simp
  · rw [Array.getElem?_eq_none (by rw [over_size]; omega), Array.getElem?_eq_none (by omega)]
theorem setRow_setRow (w : World) (g : Nat) (a b : Array Value) : (w.setRow g a).setRow g b = w.setRow g b := by
  unfold World.setRow
  congr 1
  apply Array.ext_getElem?
  intro i
  simp only [Array.getElem?_modify]
  split
  · cases w.heap[i]? with
    | none => rfl
    | some o => cases o <;> rfl
  · rfl
theorem setCells_over (b : Nat) (t : TypeId) : ∀ (vs : List Value) (o : Nat) (w : World) (cs : Array Value), w.heap[b]? = some (.cells cs t (0, 0)) → vs ≠ [] → w.setCells b o vs = w.setRow b (over cs o vs)
  | [], _, _, _, _, h => absurd rfl h
  | [v], o, w, cs, hg, _ => by
    simp only [World.setCells, over]
    exact setCell_eq_setRow w b o cs t (0, 0) v hg
  | v :: u :: r, o, w, cs, hg, _ => by
    rw [World.setCells, setCell_eq_setRow w b o cs t (0, 0) v hg,
      setCells_over b t (u :: r) (o + 1) _ (cs.setIfInBounds o v) (setRow_heap w b cs _ t (0, 0) hg) (by simp), setRow_setRow]
    rfl
theorem setRow_new (w : World) (zs cs : Array Value) (t : TypeId) : (w.alloc (.cells zs t)).setRow w.heap.size cs = w.alloc (.cells cs t) := by
  unfold World.setRow World.alloc
  congr 1
  apply Array.ext_getElem?
  intro i
  simp only [Array.getElem?_modify, Array.getElem?_push]
  split
  · rename_i e; subst e; simp
  · rename_i e; rw [if_neg (fun h => e h.symm), if_neg (fun h => e h.symm)]
theorem setCells_new (w : World) (zs cs : Array Value) (t : TypeId) (h : zs.size = cs.size) (h0 : 0 < cs.size) : (w.alloc (.cells zs t)).setCells w.heap.size 0 cs.toList = w.alloc (.cells cs t) := by
  rw [setCells_over w.heap.size t cs.toList 0 _ zs (heap_alloc_new w _) (by intro e; rw [← Array.length_toList, e] at h0; simp at h0), over_all zs cs h, setRow_new]
def cellsOfV : Value → Array Value | .agg cs => cs | _ => #[]
def isAggV : Value → Bool | .agg _ => true | _ => false
theorem cellsOfV_mk (cs : Array Value) : cellsOfV (.agg cs) = cs := rfl
theorem isAggV_mk (cs : Array Value) : isAggV (.agg cs) = true := rfl
/-- a value of one cell -/
def one (v : Value) : Bool := v.oneCell'
def allOne : List Value → Bool
  | [] => true
  | v :: r => one v && allOne r
theorem allOne_nil : allOne [] = true := rfl
theorem allOne_cons (v : Value) (r : List Value) : allOne (v :: r) = (one v && allOne r) := rfl
theorem one_int (k : IntKind) (n : Int) : one (.int k n) = true := rfl
theorem one_bool (b : Bool) : one (.bool b) = true := rfl
theorem one_string (s : ByteArray) : one (.string s) = true := rfl
theorem one_pointer (a : Option Addr) : one (.pointer a) = true := rfl
theorem one_slice (a : Option Addr) (n c : Nat) : one (.slice a n c) = true := rfl
theorem one_func (f : Fn) (a b : Array Value) : one (.func f a b) = true := rfl
theorem one_nilIface : one .nilIface = true := rfl
theorem one_map (m : Option Nat) : one (.map m) = true := rfl
theorem allOne_all (l : List Value) (h : allOne l = true) : l.all (·.oneCell') = true := by
  induction l with
  | nil => rfl
  | cons v r ih =>
    rw [allOne_cons, Bool.and_eq_true] at h
    rw [List.all_cons, ih h.2]
    simpa [one] using h.1
theorem exec_store_new {P : Program} (ev : Operand → Value) (w : World) (ty : TypeId) (n : Nat) (hi : (P.info? ty).map (·.size) = some (n + 1)) (zs : Array Value) (t : TypeId)
    (dst x y t' pos af gd) (h0 : zs.size = n + 1) (h1 : isHead (ev x) = true) (h2 : headOf (ev x) = w.heap.size) (h3 : isAggV (ev y) = true) (h4 : (cellsOfV (ev y)).size = n + 1) (h5 : allOne (cellsOfV (ev y)).toList = true) :
    (execOp ev ⟨dst, .store ty x y, t', pos, af, gd⟩).run P (w.alloc (.cells zs t)) = .ok .skip (w.alloc (.cells (cellsOfV (ev y)) t)) := by
  obtain ⟨cs, hc⟩ : ∃ cs, ev y = .agg cs := by
    unfold isAggV at h3
    split at h3
    · rename_i g h; exact ⟨g, h⟩
    · cases h3
  obtain ⟨g, hg⟩ : ∃ g, ev x = .pointer (some ⟨g, 0, none⟩) := by
    unfold isHead at h1
    split at h1
    · rename_i g h; exact ⟨g, h⟩
    · cases h1
  rw [hc, cellsOfV_mk] at h4 h5
  have h5 : cs.all (·.oneCell') = true := by rw [← Array.all_toList]; exact allOne_all _ h5
  rw [hg, headOf_mk] at h2
  simp only at h2
  subst h2
  have hs := run_storeVar_mid (P := P) (w.alloc (.cells zs t)) w.heap.size 0 ty cs (fun j hj => by
    have : j < zs.size := by omega
    simp [this]) (by rw [hi, h4]) h5
  rw [setCells_new w zs cs t (by omega) (by omega)] at hs
  unfold execOp
  simp only [hg, hc, cellsOfV_mk, Instr.storeAt, Instr.sureAddr, Sem.run_bind, Sem.run_pure, Result.andThen_ok, hs]
theorem row_new (w : World) (cs : Array Value) (t : TypeId) (fr : Nat × Nat) : row (w.alloc (.cells cs t fr)) w.heap.size = cs := row_of (heap_alloc_new w _)
theorem row_new2 (w : World) (cs : Array Value) (t : TypeId) (fr : Nat × Nat) (o : Obj) : row ((w.alloc (.cells cs t fr)).alloc o) w.heap.size = cs := row_of (heap_alloc2_old w _ _)
theorem row_new2' (w : World) (cs : Array Value) (t : TypeId) (fr : Nat × Nat) (o : Obj) : row ((w.alloc o).alloc (.cells cs t fr)) (w.heap.size + 1) = cs := row_of (heap_alloc2_new w _ _)
theorem row_drew (w : World) (g : Nat) : row w.drew g = row w g := rfl
theorem row_drewN (w : World) (n g : Nat) : row (w.drewN n) g = row w g := rfl
end Go.Proofs.YtlkfhlgngkgflaaGreatDoor
