/- Several texts in one: Ks Bl. -/
import Derived.Test.YtdfdjfnfmibpjaaGreatDoorAcA
import Derived.Maps.OwnSet
import Derived.Maps.Views
import Derived.Maps.OwnOps
import Derived.StringKeys
import Derived.Deep.AppendLies
section
/- A map from texts to truth values of the call's own; an append of elements of several cells as one step of a region. -/
namespace Go.Proofs.YtdfdjfnfmibpjaaGreatDoor
open Go.RowKit
open Go.Maps Go.WideMaps
set_option maxHeartbeats 4000000
set_option maxRecDepth 8000
/-- block b is a map that holds true at the texts of S alone -/
def KS (w : World) (b n : Nat) (S : ByteArray → Bool) : Prop := ∃ D : DataW Unit, w.ownsMap Tryz.prog 9 (plainElem Tryz.prog 4) b n D ∧ ∀ x : ByteArray, D.atKey (.string x.data.toList) (.lit (.bool false)) = .lit (.bool (S x))
theorem KS.made (w : World) : KS (w.alloc (.map #[] 0)) w.heap.size 0 (fun _ => false) :=
  ⟨.map [], World.ownsMap_made w _ _ _, fun _ => rfl⟩
theorem KS.kept {w w' : World} {b n : Nat} {S : ByteArray → Bool} {row : Option Nat} (h : KS w b n S) (G : w.grownBy w' row) (hr : some b ≠ row) : KS w' b n S := by
  obtain ⟨D, h1, h2⟩ := h
  exact ⟨D, h1.kept G hr, h2⟩
theorem plainElem_bool_inv' {e : TypeId} (he : Tryz.prog.underlying e = some .bool) {v : Value} {z : DataW Unit × List MemPlace} (h : plainElem Tryz.prog e v = some z) : ∃ x, v = .bool x ∧ z = (.lit (.bool x), []) := by
  unfold plainElem at h
  rw [he] at h
  cases v <;> simp at h
  exact ⟨_, rfl, h.symm⟩
theorem run_app_zero {P : Program} (w : World) (base t e : TypeId) (i : TypeInfo) (size : Nat) (ht : P.underlying t = some (.slice e)) (hi : P.info? e = some i) (ty : Nat) (v : Value) (n c : Nat) (ad : Option Addr) (xs : List Value) (hown : w.ownsRow base e size v n xs) :
    (Builtin.append_ #[t, t] ty #[v, .slice ad 0 c]).run P w = .ok v w := by
  cases ad with
  | none => exact run_app_none' w base t e i size ht hi ty v n c xs hown
  | some ad =>
    rcases hown.2 with ⟨rfl, rfl⟩ | ⟨g, cap, cur, rfl, _, _, hnc, _⟩
    · simp [Builtin.append_, run_underlying ht, sizeOf, typeInfo, hi, Builtin.lenOf, Builtin.firstCells, loadCells, loadCellsFrom]
    · simp [Builtin.append_, run_underlying ht, sizeOf, typeInfo, hi, Builtin.lenOf, Builtin.firstCells, hnc, storeCells, loadCells, loadCellsFrom]
/-- an append, as one step of a region that draws -/
theorem step_appX {ops : Array Oper} {o : Oper} {a : Act} {K : Act → World → Prop} {Q : Exit → Act → World → Prop} {E : Prop} (w : World) (hgd : o.guard = none) (s x : Operand) (t e : TypeId) (i : TypeInfo) (z : Value) (size bytes : Nat)
    (ho : o.op = .call { callee := .builtin .append, args := #[s, x], argTypes := #[t, t] })
    (ht : Tryz.prog.underlying t = some (.slice e)) (hi : Tryz.prog.info? e = some i) (hz : i.zero = some z) (hsize : i.size = size) (hby : i.bytes = bytes) (hzs : z.cells.size = size) (hsz : 0 < size)
    (base : Nat) (v sv : Value) (n m : Nat) (xs news : List Value) (hs : a.eval s = v) (hown : w.ownsRow base e size v n xs) (hx : a.eval x = sv) (hc : CS w size sv m news) (h1 : ∀ u ∈ news, u.oneCell' = true)
    (h63 : n + m ≤ maxLen) (hbytes : (n + m) * bytes ≤ 140737488355328) (hbase : base ≤ w.heap.size)
    (h : ∀ a' c' w', w'.ownsRow base e size (.slice a' (n + m) c') (n + m) (xs ++ news) → w.grownBy w' v.ownBlock → ((Value.slice a' (n + m) c').ownBlock = v.ownBlock ∨ (Value.slice a' (n + m) c').ownBlock = some w.heap.size) → K (a.put o.dst (.slice a' (n + m) c')) w') :
    if Region.wanted o (yielded ops a.tmps) = true then Oper.wp Tryz.prog o a w K Q else E := by
  have hw : Region.wanted o (yielded ops a.tmps) = true := by simp [Region.wanted, hgd]
  obtain ⟨ad, c, rfl, hll, hcs⟩ := hc
  rcases Nat.eq_zero_or_pos m with h0 | h0
  · subst h0
    obtain rfl : news = [] := List.eq_nil_of_length_eq_zero (by omega)
    obtain ⟨a', c', rfl⟩ := owns_sl hown
    rw [if_pos hw]
    have hrun := run_app_zero w base t e i size ht hi o.type _ _ c ad _ hown
    unfold Oper.wp execOp
    simp only [ho, resolve, invoke, builtin, Sem.run_bind, Sem.run_pure, Result.andThen_ok, List.map_toArray, List.map_cons, List.map_nil, hs, hx, hrun]
    exact h a' c' w (by simpa using hown) (World.grownBy.refl w _) (.inl (by cases a' <;> rfl))
  · obtain ⟨ad', rfl, p⟩ := hcs h0
    refine step_append_lies w hgd s x t ho base e i z size bytes ht hi hz hsize hby hzs hsz v n xs hs hown ad' m c news hx hll p h1 h0 h63 hbytes hbase w.heap.size rfl ?_
    intro g cap w' hown' hg hat _
    refine h _ _ w' hown' hg ?_
    rcases hat with h2 | h2
    · exact .inl (by rw [h2]; rfl)
    · exact .inr (by rw [h2]; rfl)
end Go.Proofs.YtdfdjfnfmibpjaaGreatDoor

end
section
/- Slices of entries, built of entries. -/
namespace Go.Proofs.YtdfdjfnfmibpjaaGreatDoor
open Go.RowKit
set_option maxHeartbeats 8000000
set_option maxRecDepth 8000
theorem foldl_over : ∀ (l : List Value) (i : Nat) (zs : Array Value), (l.zipIdx i).foldl (fun (cs : Array Value) (x : Value × Nat) => cs.setIfInBounds x.2 x.1) zs = over zs i l
  | [], _, _ => rfl
  | v :: l, i, zs => by rw [List.zipIdx_cons, List.foldl_cons, foldl_over l (i + 1)]; rfl
theorem bldEnt (ev : Operand → Value) (w : World) (dst x t pos af gd) (h3 : isAggV (ev x) = true) (h4 : (cellsOfV (ev x)).size = 33) :
    (execOp ev ⟨dst, .buildSlice 39 1 #[(0, x)], t, pos, af, gd⟩).run Tryz.prog w = .ok (.value (.slice (some ⟨w.heap.size, 0, none⟩) 1 1)) (w.alloc (.cells (cellsOfV (ev x)) 27)) := by
  obtain ⟨cs, hc⟩ : ∃ cs, ev x = .agg cs := by
    unfold isAggV at h3
    split at h3
    · rename_i g h; exact ⟨g, h⟩
    · cases h3
  rw [hc, cellsOfV_mk] at h4 ⊢
  go_simp
  have hsz : cs.zipIdx.size = 33 := by simp [h4]
  rw [← hsz, ← Array.foldl_toList, Array.toList_zipIdx, foldl_over, over_all _ cs (by rw [h4]; rfl)]
theorem foldl_overK (k : Nat) : ∀ (l : List Value) (i : Nat) (zs : Array Value), (l.zipIdx i).foldl (fun (cs : Array Value) (x : Value × Nat) => cs.setIfInBounds (k + x.2) x.1) zs = over zs (k + i) l
  | [], _, _ => rfl
  | v :: l, i, zs => by rw [List.zipIdx_cons, List.foldl_cons, foldl_overK k l (i + 1)]; rfl
theorem over_app : ∀ (l m : List Value) (i : Nat) (zs : Array Value), over (over zs i l) (i + l.length) m = over zs i (l ++ m)
  | [], _, _, _ => rfl
  | v :: l, m, i, zs => by
    rw [over, List.cons_append, over, ← over_app l m (i + 1), List.length_cons, show i + (l.length + 1) = i + 1 + l.length by omega]
/-- two rows laid one behind the other -/
theorem bld_two (zs cs ds : Array Value) (hz : zs.size = 66) (hc : cs.size = 33) (hd : ds.size = 33) :
    Array.foldl (fun cs (x : Value × Nat) => cs.setIfInBounds (33 + x.snd) x.fst) (Array.foldl (fun cs (x : Value × Nat) => cs.setIfInBounds x.snd x.fst) zs cs.zipIdx 0 33) ds.zipIdx 0 33 = cs ++ ds ∧ (Array.foldl (fun cs (x : Value × Nat) => cs.setIfInBounds x.snd x.fst) zs cs.zipIdx 0 33).size = 66 := by
  have e1 : Array.foldl (fun cs (x : Value × Nat) => cs.setIfInBounds x.snd x.fst) zs cs.zipIdx 0 33 = over zs 0 cs.toList := by
    have hs : cs.zipIdx.size = 33 := by simp [hc]
    rw [← hs, ← Array.foldl_toList, Array.toList_zipIdx, foldl_over]
  rw [e1]
  refine ⟨?_, by rw [over_size]; exact hz⟩
  have hs : ds.zipIdx.size = 33 := by simp [hd]
  rw [← hs, ← Array.foldl_toList, Array.toList_zipIdx]
  rw [hs, foldl_overK 33 ds.toList 0]
  have := over_app cs.toList ds.toList 0 zs
  rw [Array.length_toList, hc] at this
  rw [show 33 + 0 = 0 + 33 by rfl, this, ← Array.toList_append]
  exact over_all _ _ (by rw [hz, Array.size_append, hc, hd])
theorem bldEnt2 (ev : Operand → Value) (w : World) (dst x y t pos af gd) (h3 : isAggV (ev x) = true) (h4 : (cellsOfV (ev x)).size = 33) (h5 : isAggV (ev y) = true) (h6 : (cellsOfV (ev y)).size = 33) :
    (execOp ev ⟨dst, .buildSlice 39 2 #[(0, x), (1, y)], t, pos, af, gd⟩).run Tryz.prog w = .ok (.value (.slice (some ⟨w.heap.size, 0, none⟩) 2 2)) (w.alloc (.cells (cellsOfV (ev x) ++ cellsOfV (ev y)) 27)) := by
  obtain ⟨cs, hc⟩ : ∃ cs, ev x = .agg cs := by
    unfold isAggV at h3
    split at h3
    · rename_i g h; exact ⟨g, h⟩
    · cases h3
  obtain ⟨ds, hd⟩ : ∃ cs, ev y = .agg cs := by
    unfold isAggV at h5
    split at h5
    · rename_i g h; exact ⟨g, h⟩
    · cases h5
  rw [hc, cellsOfV_mk] at h4 ⊢
  rw [hd, cellsOfV_mk] at h6 ⊢
  go_simp
  have hb := fun zs hz => bld_two zs cs ds hz h4 h6
  rw [(hb _ rfl).1, (hb _ rfl).2]
  rfl
end Go.Proofs.YtdfdjfnfmibpjaaGreatDoor

end
