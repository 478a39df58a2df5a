/- Row facts kept over a call, as a drawn region wants them. -/
import Derived.Test.YtdbigfdffphdgaaDoorKit3
namespace Go.Proofs.YtdbigfdffphdgaaDoor
open Go.RowKit
theorem keep2 {w w1 w2 : World} {g h : Nat} {cs ds : Array Value} (hb : Below w1.heap.size w1 w2) (s : row w1 g = cs ∧ row w1 h = ds ∧ Below w.heap.size w w1) (h0 : 0 < cs.size) (h1 : 0 < ds.size) :
    row w2 g = cs ∧ row w2 h = ds ∧ Below w.heap.size w w2 := ⟨row_below hb s.1 h0, row_below hb s.2.1 h1, bt s.2.2 hb⟩
theorem keep3 {w w1 w2 : World} {g h k : Nat} {cs ds es : Array Value} (hb : Below w1.heap.size w1 w2) (s : row w1 g = cs ∧ row w1 h = ds ∧ row w1 k = es ∧ Below w.heap.size w w1) (h0 : 0 < cs.size) (h1 : 0 < ds.size) (h2 : 0 < es.size) :
    row w2 g = cs ∧ row w2 h = ds ∧ row w2 k = es ∧ Below w.heap.size w w2 := ⟨row_below hb s.1 h0, row_below hb s.2.1 h1, row_below hb s.2.2.1 h2, bt s.2.2.2 hb⟩
theorem cell_row {w : World} {g : Nat} {cs : Array Value} (h : row w g = cs) (i : Nat) (v : Value) (hv : cs[i]? = some v) : w.cell? ⟨g, i, none⟩ = some v := by
  unfold row at h
  cases e : w.heap[g]? with
  | none => rw [e] at h; subst h; simp at hv
  | some o =>
    cases o with
    | cells c t fr => rw [e] at h; simp only at h; subst h; rw [cell_of_row w g i c t fr e]; exact hv
    | _ => rw [e] at h; simp only at h; subst h; simp at hv
end Go.Proofs.YtdbigfdffphdgaaDoor
