/- The bounds of a small integer argument. -/
import Derived.Test.YtdbigfdffphdgaaDoorFrame
namespace Go.Proofs.YtdbigfdffphdgaaDoor
theorem int_bounds {P : Program} {w : World} {r : Reach} {base : Nat} {t : TypeId} {k : IntKind} {n : Int} (ht : P.underlying t = some (.int k)) (h : Value.okWide P w r base t (.int k n)) : k.min ≤ n ∧ n ≤ k.max := by
  simp only [Value.okWide, Cell.okWide, Cell.ok, ht] at h
  exact h.2
end Go.Proofs.YtdbigfdffphdgaaDoor
