/- More helpers. -/
import Derived.Test.YtlkfhlgngkgflaaGreatDoorKit
import Derived.Deep.RegionHeld3
namespace Go.Proofs.YtlkfhlgngkgflaaGreatDoor
open Go.RowKit
theorem below_block {w w1 : World} {b : Nat} {o : Obj} (hb : Below w.heap.size w w1) (h : w.heap[b]? = some o) : w1.heap[b]? = some o := by
  have hlt : b < w.heap.size := by
    rcases Nat.lt_or_ge b w.heap.size with h' | h'
    · exact h'
    · rw [Array.getElem?_eq_none h'] at h; cases h
  rw [hb.block b hlt]; exact h
theorem below_cell {w w1 : World} {a : Addr} {v : Value} (hb : Below w.heap.size w w1) (h : w.cell? a = some v) : w1.cell? a = some v := by
  rw [hb.cell (block_lt_of_cell h)]; exact h
theorem loadAt_block {P : Program} (w : World) (g : Nat) (t ty : TypeId) (cs : Array Value) (fr : Nat × Nat) (d : TypeDesc) (hg : w.heap[g]? = some (.cells cs t fr))
    (hu : P.underlying ty = some d) (hd : (match d with | .struct _ | .array _ _ => true | _ => false) = true) (hi : (P.info? ty).map (·.size) = some cs.size) :
    (Instr.loadAt ty (.pointer (some ⟨g, 0, none⟩))).run P w = .ok (.agg cs) w := by
  simp only [Instr.loadAt, Instr.sureAddr, Sem.run_bind, Sem.run_pure, Result.andThen_ok, run_loadVar_row w g t ty cs fr d hg hu hd hi]
/-- the cells of a block -/
def row (w : World) (g : Nat) : Array Value := match w.heap[g]? with | some (.cells cs _ _) => cs | _ => #[]
theorem row_of {w : World} {g : Nat} {cs : Array Value} {t : TypeId} {fr : Nat × Nat} (h : w.heap[g]? = some (.cells cs t fr)) : row w g = cs := by simp [row, h]
theorem loadAt_row {P : Program} (w : World) (g : Nat) (ty : TypeId) (n : Nat) (d : TypeDesc) (hu : P.underlying ty = some d) (hd : (match d with | .struct _ | .array _ _ => true | _ => false) = true) (hi : (P.info? ty).map (·.size) = some (n + 1))
    (hn : (row w g).size = n + 1) : (Instr.loadAt ty (.pointer (some ⟨g, 0, none⟩))).run P w = .ok (.agg (row w g)) w := by
  unfold row at hn ⊢
  cases h : w.heap[g]? with
  | none => simp [h] at hn
  | some o =>
    cases o with
    | cells cs t fr => 
      simp only [h] at hn ⊢
      exact loadAt_block w g t ty cs fr d h hu hd (by rw [hi, hn])
    | _ => simp [h] at hn
theorem row_below {w w1 : World} {g : Nat} {cs : Array Value} (hb : Below w.heap.size w w1) (h : row w g = cs) (h0 : 0 < cs.size) : row w1 g = cs := by
  have hlt : g < w.heap.size := by
    rcases Nat.lt_or_ge g w.heap.size with h' | h'
    · exact h'
    · unfold row at h; rw [Array.getElem?_eq_none h'] at h; subst h; simp at h0
  unfold row at *
  rw [hb.block g hlt]; exact h
/-- is this the head of a block? which block? -/
def isHead : Value → Bool | .pointer (some ⟨_, 0, none⟩) => true | _ => false
def headOf : Value → Nat | .pointer (some a) => a.block | _ => 0
theorem isHead_mk (g : Nat) : isHead (.pointer (some ⟨g, 0, none⟩)) = true := rfl
theorem headOf_mk (a : Addr) : headOf (.pointer (some a)) = a.block := rfl
theorem exec_load_row {P : Program} (ev : Operand → Value) (w : World) (ty : TypeId) (n : Nat) (d : TypeDesc) (hu : P.underlying ty = some d) (hd : (match d with | .struct _ | .array _ _ => true | _ => false) = true) (hi : (P.info? ty).map (·.size) = some (n + 1))
    (dst x t pos af gd) (h1 : isHead (ev x) = true) (h2 : (row w (headOf (ev x))).size = n + 1) :
    (execOp ev ⟨dst, .load ty x, t, pos, af, gd⟩).run P w = .ok (.value (.agg (row w (headOf (ev x))))) w := by
  obtain ⟨g, hg⟩ : ∃ g, ev x = .pointer (some ⟨g, 0, none⟩) := by
    unfold isHead at h1
    split at h1
    · rename_i g h; exact ⟨g, h⟩
    · cases h1
  rw [hg, headOf_mk] at h2
  unfold execOp
  simp only [hg, headOf_mk, Sem.run_bind, loadAt_row w g ty n d hu hd hi h2, Result.andThen_ok, Sem.run_pure]
end Go.Proofs.YtlkfhlgngkgflaaGreatDoor
