/- A whole row stored into a block that is there. -/
import Derived.Test.YtlkfhlgngkgflaaGreatDoorKit4
import Derived.Laws.ResultCell
namespace Go.Proofs.YtlkfhlgngkgflaaGreatDoor
open Go.RowKit
theorem setCells_over' (b : Nat) (t : TypeId) (fr : Nat × Nat) : ∀ (vs : List Value) (o : Nat) (w : World) (cs : Array Value), w.heap[b]? = some (.cells cs t fr) → vs ≠ [] → w.setCells b o vs = w.setRow b (over cs o vs)
  | [], _, _, _, _, h => absurd rfl h
  | [v], o, w, cs, hg, _ => by
    simp only [World.setCells, over]
    exact setCell_eq_setRow w b o cs t fr v hg
  | v :: u :: r, o, w, cs, hg, _ => by
    rw [World.setCells, setCell_eq_setRow w b o cs t fr v hg,
      setCells_over' b t fr (u :: r) (o + 1) _ (cs.setIfInBounds o v) (setRow_heap w b cs _ t fr hg) (by simp), setRow_setRow]
    rfl
/-- block g is a row of n cells that may be written -/
def Held (w : World) (g n : Nat) : Prop := (row w g).size = n ∧ 0 < n ∧ ∀ o, w.frozen? ⟨g, o, none⟩ = false
theorem Held.drew {w : World} {g n : Nat} (h : Held w g n) : Held w.drew g n := h
theorem Held_drew (w : World) (g n : Nat) : Held w.drew g n = Held w g n := rfl
theorem held_block {w : World} {g n : Nat} (h : Held w g n) : ∃ t fr, w.heap[g]? = some (.cells (row w g) t fr) := by
  have h1 := h.1
  unfold row at h1 ⊢
  cases hb : w.heap[g]? with
  | none => rw [hb] at h1; simp at h1; have := h.2.1; omega
  | some o =>
    cases o with
    | cells c t fr => exact ⟨t, fr, rfl⟩
    | _ => rw [hb] at h1; simp at h1; have := h.2.1; omega
theorem exec_store_row {P : Program} (ev : Operand → Value) (w : World) (ty : TypeId) (n : Nat) (hi : (P.info? ty).map (·.size) = some (n + 1))
    (dst x y t' pos af gd) (h1 : isHead (ev x) = true) (h2 : Held w (headOf (ev x)) (n + 1)) (h3 : isAggV (ev y) = true) (h4 : (cellsOfV (ev y)).size = n + 1) (h5 : allOne (cellsOfV (ev y)).toList = true) :
    (execOp ev ⟨dst, .store ty x y, t', pos, af, gd⟩).run P w = .ok .skip (w.setRow (headOf (ev x)) (cellsOfV (ev y))) := by
  obtain ⟨cs, hc⟩ : ∃ cs, ev y = .agg cs := by
    unfold isAggV at h3
    split at h3
    · rename_i g h; exact ⟨g, h⟩
    · cases h3
  obtain ⟨g, hg⟩ : ∃ g, ev x = .pointer (some ⟨g, 0, none⟩) := by
    unfold isHead at h1
    split at h1
    · rename_i g h; exact ⟨g, h⟩
    · cases h1
  rw [hc, cellsOfV_mk] at h4 h5
  have h5 : cs.all (·.oneCell') = true := by rw [← Array.all_toList]; exact allOne_all _ h5
  rw [hg, headOf_mk] at h2 ⊢
  simp only at h2 ⊢
  obtain ⟨t, fr, hb⟩ := held_block h2
  have hs := run_storeVar_mid (P := P) w g 0 ty cs (fun j hj => by
    have hlt : j < (row w g).size := by rw [h2.1]; omega
    have hx : (row w g)[j]? = some (row w g)[j] := Array.getElem?_eq_getElem hlt
    rw [Nat.zero_add]
    exact ⟨by rw [cell_of_row w g j _ t fr hb, hx]; rfl, h2.2.2 j⟩) (by rw [hi, h4]) h5
  rw [setCells_over' g t fr cs.toList 0 w (row w g) hb (by intro e; have := congrArg List.length e; simp at this; rw [this] at h4; simp at h4), over_all (row w g) cs (by rw [h2.1, h4])] at hs
  unfold execOp
  simp only [hg, hc, cellsOfV_mk, Instr.storeAt, Instr.sureAddr, Sem.run_bind, Sem.run_pure, Result.andThen_ok, hs]
theorem row_setRow {w : World} {g n : Nat} (h : Held w g n) (cs : Array Value) : row (w.setRow g cs) g = cs := by
  obtain ⟨t, fr, hb⟩ := held_block h
  exact row_of (setRow_heap w g _ cs t fr hb)
theorem setRow_block (w : World) (g k : Nat) (cs : Array Value) (h : k ≠ g) : (w.setRow g cs).heap[k]? = w.heap[k]? := setRow_other w g k cs h
theorem run_loadVar_block {P : Program} (w : World) (g n : Nat) (ty : TypeId) (d : TypeDesc) (hu : P.underlying ty = some d) (hd : (match d with | .struct _ | .array _ _ => true | _ => false) = true) (hi : (P.info? ty).map (·.size) = some (n + 1)) (hz : (row w g).size = n + 1) :
    (loadVar ty ⟨g, 0, none⟩).run P w = .ok (.agg (row w g)) w := by
  unfold row at hz ⊢
  cases h : w.heap[g]? with
  | none => simp [h] at hz
  | some o =>
    cases o with
    | cells cs t fr =>
      simp only [h] at hz ⊢
      exact run_loadVar_row w g t ty cs fr d h hu hd (by rw [hi, hz])
    | _ => simp [h] at hz
/-- a struct in memory and a value are handed back -/
theorem res_row_tmp {P : Program} {fn : Func} {p u : Tmp} {ty : TypeId} {d : TypeDesc} {n : Nat} (h : fn.results = #[.cell p ty, .tmp u]) (hu : P.underlying ty = some d) (hd : (match d with | .struct _ | .array _ _ => true | _ => false) = true) (hi : (P.info? ty).map (·.size) = some (n + 1))
    (tmps : Array Value) (w : World) (g : Nat) (hp : tmps.getD p undef = .pointer (some ⟨g, 0, none⟩)) (hz : (row w g).size = n + 1) :
    (results fn tmps).run P w = .ok (.tuple #[.agg (row w g), tmps.getD u undef]) w := by
  rw [results_cell_tmp h, hp]
  simp only [asAddr, Sem.run_pure, Result.andThen_ok, run_loadVar_block w g n ty d hu hd hi hz]
end Go.Proofs.YtlkfhlgngkgflaaGreatDoor
