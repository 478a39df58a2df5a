/- Row facts kept over a call, as a drawn region wants them. -/
import Derived.Test.YtlkfhlgngkgflaaGreatDoorKit3
namespace Go.Proofs.YtlkfhlgngkgflaaGreatDoor
open Go.RowKit
theorem keep2 {w w1 w2 : World} {g h : Nat} {cs ds : Array Value} (hb : Below w1.heap.size w1 w2) (s : row w1 g = cs ∧ row w1 h = ds ∧ Below w.heap.size w w1) (h0 : 0 < cs.size) (h1 : 0 < ds.size) :
    row w2 g = cs ∧ row w2 h = ds ∧ Below w.heap.size w w2 := ⟨row_below hb s.1 h0, row_below hb s.2.1 h1, bt s.2.2 hb⟩
theorem keep3 {w w1 w2 : World} {g h k : Nat} {cs ds es : Array Value} (hb : Below w1.heap.size w1 w2) (s : row w1 g = cs ∧ row w1 h = ds ∧ row w1 k = es ∧ Below w.heap.size w w1) (h0 : 0 < cs.size) (h1 : 0 < ds.size) (h2 : 0 < es.size) :
    row w2 g = cs ∧ row w2 h = ds ∧ row w2 k = es ∧ Below w.heap.size w w2 := ⟨row_below hb s.1 h0, row_below hb s.2.1 h1, row_below hb s.2.2.1 h2, bt s.2.2.2 hb⟩
theorem cell_row {w : World} {g : Nat} {cs : Array Value} (h : row w g = cs) (i : Nat) (v : Value) (hv : cs[i]? = some v) : w.cell? ⟨g, i, none⟩ = some v := by
  unfold row at h
  cases e : w.heap[g]? with
  | none => rw [e] at h; subst h; simp at hv
  | some o =>
    cases o with
    | cells c t fr => rw [e] at h; simp only at h; subst h; rw [cell_of_row w g i c t fr e]; exact hv
    | _ => rw [e] at h; simp only at h; subst h; simp at hv
/-- a block holds these texts -/
def Strs (w : World) (b : Nat) (ps : List ByteArray) : Prop := ∀ k (h : k < ps.length), w.cell? ⟨b, k, none⟩ = some (.string ps[k])
theorem Strs.below {w w' : World} {b : Nat} {ps : List ByteArray} (h : Strs w b ps) (hb : Below w.heap.size w w') : Strs w' b ps := fun k hk => below_cell hb (h k hk)
theorem Strs.new (w : World) (ps : List ByteArray) (t : TypeId) : Strs (w.alloc (.cells (ps.map Value.string).toArray t)) w.heap.size ps := fun k hk => by
  rw [cell_of_row _ w.heap.size k _ t (0, 0) (heap_alloc_new w _)]
  simp [List.getElem?_eq_getElem hk]
end Go.Proofs.YtlkfhlgngkgflaaGreatDoor
