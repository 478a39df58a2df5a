/- A map from texts to truth values of the call's own; an append of elements of several cells as one step of a region. -/
import Derived.Test.YtbdidnjdccpgaaaGreatDoorAcA
import Derived.Maps.OwnSet
import Derived.Maps.Views
import Derived.Maps.OwnOps
import Derived.StringKeys
import Derived.Deep.AppendLies
namespace Go.Proofs.YtbdidnjdccpgaaaGreatDoor
open Go.RowKit
open Go.Maps Go.WideMaps
set_option maxHeartbeats 4000000
set_option maxRecDepth 8000
/-- block b is a map that holds true at the texts of S alone -/
def KS (w : World) (b n : Nat) (S : ByteArray → Bool) : Prop := ∃ D : DataW Unit, w.ownsMap Tryz.prog 9 (plainElem Tryz.prog 4) b n D ∧ ∀ x : ByteArray, D.atKey (.string x.data.toList) (.lit (.bool false)) = .lit (.bool (S x))
theorem KS.made (w : World) : KS (w.alloc (.map #[] 0)) w.heap.size 0 (fun _ => false) :=
  ⟨.map [], World.ownsMap_made w _ _ _, fun _ => rfl⟩
theorem KS.kept {w w' : World} {b n : Nat} {S : ByteArray → Bool} {row : Option Nat} (h : KS w b n S) (G : w.grownBy w' row) (hr : some b ≠ row) : KS w' b n S := by
  obtain ⟨D, h1, h2⟩ := h
  exact ⟨D, h1.kept G hr, h2⟩
theorem plainElem_bool_inv' {e : TypeId} (he : Tryz.prog.underlying e = some .bool) {v : Value} {z : DataW Unit × List MemPlace} (h : plainElem Tryz.prog e v = some z) : ∃ x, v = .bool x ∧ z = (.lit (.bool x), []) := by
  unfold plainElem at h
  rw [he] at h
  cases v <;> simp at h
  exact ⟨_, rfl, h.symm⟩
theorem KS.look {w : World} {b n : Nat} {S : ByteArray → Bool} (h : KS w b n S) (x : ByteArray) (hx : x.size ≤ 1000) : (Instr.lookup 52 (.map (some b)) (.string x) false).run Tryz.prog w = .ok (.bool (S x)) w := by
  obtain ⟨D, h1, h2⟩ := h
  obtain ⟨v, ps, hrun, hv⟩ := h1.lookup (string_keyed Tryz.underlying9) Tryz.underlying52 (z := .bool false) (by kernel_rfl) (plainElem_bool Tryz.underlying4 false) (keyOf_string_mk Tryz.underlying9 (s := x) (by unfold maxLen; omega))
  obtain ⟨y, rfl, hy⟩ := plainElem_bool_inv' Tryz.underlying4 hv
  rw [h2 x] at hy
  have e : S x = y := Lit.bool.inj (DataW.lit.inj (congrArg Prod.fst hy))
  rw [e]; exact hrun
theorem wp_ks {ops : Array Oper} {rest : List Oper} {o : Oper} {a : Act} {Q : Exit → Act → World → Prop} (w : World) (hg : o.guard = none) (m x v : Operand) (hop : o.op = Op.mapUpdate 52 m x v) (b n : Nat) (S : ByteArray → Bool) (k : ByteArray)
    (hm : a.eval m = .map (some b)) (h : KS w b n S) (hn : n < maxLen) (hx : a.eval x = .string k) (hv : a.eval v = .bool true) (hk : k.size ≤ 1000)
    (hK : ∀ w' n', n' ≤ n + 1 → KS w' b n' (fun y => decide (y = k) || S y) → w.grownBy w' (some b) → wpList Tryz.prog ops Q rest (a.put o.dst undef) w') :
    wpList Tryz.prog ops Q (o :: rest) a w := by
  obtain ⟨D, h1, h2⟩ := h
  refine wpList_mapUpdate_own w hg m x v _ hop 9 4 (string_keyed Tryz.underlying9) Tryz.underlying52 (plainElem Tryz.prog 4) b n D hm h1 hn _ _ _ hx hv (keyOf_string_mk Tryz.underlying9 (s := k) (by unfold maxLen; omega)) _ _ (plainElem_bool Tryz.underlying4 true) ?_
  intro w' h3 h4
  refine hK w' _ (Nat.le_refl _) ⟨_, h3, fun y => ?_⟩ h4
  show _ = DataW.lit (Lit.bool (decide (y = k) || S y))
  by_cases e : y = k
  · subst e
    rw [decide_eq_true rfl, Bool.true_or]
    exact atKey_put_same h1.isMap (by simp [WideAt.IsKeyLit]) _ _
  · rw [decide_eq_false e, Bool.false_or, atKey_put_other (fun h => e (by injection h with h; exact Ds.bl_inj h)), h2 y]
theorem run_app_zero {P : Program} (w : World) (base t e : TypeId) (i : TypeInfo) (size : Nat) (ht : P.underlying t = some (.slice e)) (hi : P.info? e = some i) (ty : Nat) (v : Value) (n c : Nat) (ad : Option Addr) (xs : List Value) (hown : w.ownsRow base e size v n xs) :
    (Builtin.append_ #[t, t] ty #[v, .slice ad 0 c]).run P w = .ok v w := by
  cases ad with
  | none => exact run_app_none' w base t e i size ht hi ty v n c xs hown
  | some ad =>
    rcases hown.2 with ⟨rfl, rfl⟩ | ⟨g, cap, cur, rfl, _, _, hnc, _⟩
    · simp [Builtin.append_, run_underlying ht, sizeOf, typeInfo, hi, Builtin.lenOf, Builtin.firstCells, loadCells, loadCellsFrom]
    · simp [Builtin.append_, run_underlying ht, sizeOf, typeInfo, hi, Builtin.lenOf, Builtin.firstCells, hnc, storeCells, loadCells, loadCellsFrom]
/-- an append, as one step of a region that draws -/
theorem step_appX {ops : Array Oper} {o : Oper} {a : Act} {K : Act → World → Prop} {Q : Exit → Act → World → Prop} {E : Prop} (w : World) (hgd : o.guard = none) (s x : Operand) (t e : TypeId) (i : TypeInfo) (z : Value) (size bytes : Nat)
    (ho : o.op = .call { callee := .builtin .append, args := #[s, x], argTypes := #[t, t] })
    (ht : Tryz.prog.underlying t = some (.slice e)) (hi : Tryz.prog.info? e = some i) (hz : i.zero = some z) (hsize : i.size = size) (hby : i.bytes = bytes) (hzs : z.cells.size = size) (hsz : 0 < size)
    (base : Nat) (v sv : Value) (n m : Nat) (xs news : List Value) (hs : a.eval s = v) (hown : w.ownsRow base e size v n xs) (hx : a.eval x = sv) (hc : CS w size sv m news) (h1 : ∀ u ∈ news, u.oneCell' = true)
    (h63 : n + m ≤ maxLen) (hbytes : (n + m) * bytes ≤ 140737488355328) (hbase : base ≤ w.heap.size)
    (h : ∀ a' c' w', w'.ownsRow base e size (.slice a' (n + m) c') (n + m) (xs ++ news) → w.grownBy w' v.ownBlock → ((Value.slice a' (n + m) c').ownBlock = v.ownBlock ∨ (Value.slice a' (n + m) c').ownBlock = some w.heap.size) → K (a.put o.dst (.slice a' (n + m) c')) w') :
    if Region.wanted o (yielded ops a.tmps) = true then Oper.wp Tryz.prog o a w K Q else E := by
  have hw : Region.wanted o (yielded ops a.tmps) = true := by simp [Region.wanted, hgd]
  obtain ⟨ad, c, rfl, hll, hcs⟩ := hc
  rcases Nat.eq_zero_or_pos m with h0 | h0
  · subst h0
    obtain rfl : news = [] := List.eq_nil_of_length_eq_zero (by omega)
    obtain ⟨a', c', rfl⟩ := owns_sl hown
    rw [if_pos hw]
    have hrun := run_app_zero w base t e i size ht hi o.type _ _ c ad _ hown
    unfold Oper.wp execOp
    simp only [ho, resolve, invoke, builtin, Sem.run_bind, Sem.run_pure, Result.andThen_ok, List.map_toArray, List.map_cons, List.map_nil, hs, hx, hrun]
    exact h a' c' w (by simpa using hown) (World.grownBy.refl w _) (.inl (by cases a' <;> rfl))
  · obtain ⟨ad', rfl, p⟩ := hcs h0
    refine step_append_lies w hgd s x t ho base e i z size bytes ht hi hz hsize hby hzs hsz v n xs hs hown ad' m c news hx hll p h1 h0 h63 hbytes hbase w.heap.size rfl ?_
    intro g cap w' hown' hg hat _
    refine h _ _ w' hown' hg ?_
    rcases hat with h2 | h2
    · exact .inl (by rw [h2]; rfl)
    · exact .inr (by rw [h2]; rfl)
end Go.Proofs.YtbdidnjdccpgaaaGreatDoor
