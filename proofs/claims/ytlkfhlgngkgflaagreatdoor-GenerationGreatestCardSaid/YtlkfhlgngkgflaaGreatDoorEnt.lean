/- Whole policies and entries, loaded and stored. -/
import Derived.Test.YtlkfhlgngkgflaaGreatDoorChecked
import Derived.Test.YtlkfhlgngkgflaaGreatDoorKit3
namespace Go.Proofs.YtlkfhlgngkgflaaGreatDoor
open Go.RowKit
theorem ldEnt (ev : Operand → Value) (w : World) (dst x t pos af gd) (h1 : isHead (ev x) = true) (h2 : (row w (headOf (ev x))).size = 33) :
    (execOp ev ⟨dst, .load 34 x, t, pos, af, gd⟩).run Tryz.prog w = .ok (.value (.agg (row w (headOf (ev x))))) w :=
  exec_load_row ev w _ 32 _ Tryz.underlying34 rfl (by kernel_rfl) dst x t pos af gd h1 h2
theorem stEnt (ev : Operand → Value) (w : World) (zs : Array Value) (t : TypeId) (dst x y t' pos af gd) (h0 : zs.size = 33) (h1 : isHead (ev x) = true) (h2 : headOf (ev x) = w.heap.size) (h3 : isAggV (ev y) = true) (h4 : (cellsOfV (ev y)).size = 33) (h5 : allOne (cellsOfV (ev y)).toList = true) :
    (execOp ev ⟨dst, .store 34 x y, t', pos, af, gd⟩).run Tryz.prog (w.alloc (.cells zs t)) = .ok .skip (w.alloc (.cells (cellsOfV (ev y)) t)) :=
  exec_store_new ev w _ 32 (by kernel_rfl) zs t dst x y t' pos af gd h0 h1 h2 h3 h4 h5
end Go.Proofs.YtlkfhlgngkgflaaGreatDoor
