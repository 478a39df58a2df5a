/- Several texts in one: App FewG. -/
import Derived.Test.YtbkbgkicpfbjfaaGreatDoorGeS
import Derived.Maps.AppendAt
import Derived.Test.YtbkbgkicpfbjfaaGreatDoorSaC
import Derived.Test.YtbkbgkicpfbjfaaGreatDoorEn
section
/- append of a slice of numbers to a row of the call's own, whatever the source. -/
namespace Go.Proofs.YtbkbgkicpfbjfaaGreatDoor
open Go.RowKit
set_option maxHeartbeats 800000
set_option maxRecDepth 4000
theorem IS.cells {w : World} {a : Addr} {n c : Nat} {l : List Int} (h : IS w (.slice (some a) n c) l) : ∀ j u, (iv l)[j]? = some u → w.cell? (a.add j) = some u := by
  intro j u hu
  obtain ⟨a', c', e, -, hc⟩ := h
  injection e with e1 e2 e3
  have hj : j < l.length := by
    have := (List.getElem?_eq_some_iff.1 hu).1
    unfold iv at this; rwa [List.length_map] at this
  obtain ⟨b, o, e4, -, p⟩ := hc (by omega)
  rw [e4] at e1
  injection e1 with e1
  subst e1
  unfold iv at hu
  rw [List.getElem?_map, List.getElem?_eq_getElem hj] at hu
  rw [Addr.add_mid, p j hj]
  exact hu
theorem run_app_none {P : Program} (w : World) (base t e : TypeId) (i : TypeInfo) (ht : P.underlying t = some (.slice e)) (hi : P.info? e = some i) (ty : Nat) (v : Value) (n c : Nat) (xs : List Value) (hown : w.ownsRow base e 1 v n xs) :
    (Builtin.append_ #[t, t] ty #[v, .slice none 0 c]).run P w = .ok v w := by
  rcases hown.2 with ⟨rfl, rfl⟩ | ⟨g, cap, cur, rfl, _, _, hnc, _⟩
  · simp [Builtin.append_, run_underlying ht, sizeOf, typeInfo, hi, Builtin.lenOf, Builtin.firstCells]
  · simp [Builtin.append_, run_underlying ht, sizeOf, typeInfo, hi, Builtin.lenOf, Builtin.firstCells, hnc, storeCells]
theorem owns_slice {w : World} {base e n : Nat} {v : Value} {xs : List Value} (h : w.ownsRow base e 1 v n xs) : ∃ a c, v = .slice a n c := by
  rcases h.2 with ⟨rfl, rfl⟩ | ⟨g, cap, cur, rfl, _⟩
  · exact ⟨_, _, rfl⟩
  · exact ⟨_, _, rfl⟩
theorem wp_app {ops : Array Oper} {rest : List Oper} {o : Oper} {a : Act} {Q : Exit → Act → World → Prop} (w : World) (hgd : o.guard = none) (s x : Operand)
    (ho : o.op = .call { callee := .builtin .append, args := #[s, x], argTypes := #[24, 24] })
    (base : Nat) (v sv : Value) (xs l : List Int) (hs : a.eval s = v) (hown : w.ownsRow base 3 1 v xs.length (iv xs)) (hx : a.eval x = sv) (hi : IS w sv l)
    (hz : xs.length + l.length ≤ 100000) (hbase : base ≤ w.heap.size)
    (h : ∀ a' c' w', w'.ownsRow base 3 1 (.slice a' (xs ++ l).length c') (xs ++ l).length (iv (xs ++ l)) → w.grownBy w' v.ownBlock → ((Value.slice a' (xs ++ l).length c').ownBlock = v.ownBlock ∨ (Value.slice a' (xs ++ l).length c').ownBlock = some w.heap.size) → wpList Tryz.prog ops Q rest (a.put o.dst (.slice a' (xs ++ l).length c')) w') :
    wpList Tryz.prog ops Q (o :: rest) a w := by
  have hi0 := hi
  obtain ⟨ad, c, rfl, hll, hcs⟩ := hi
  rcases ad with _ | ad
  · have h0 : l.length = 0 := by
      rcases Nat.eq_zero_or_pos l.length with h0 | h0
      · exact h0
      · obtain ⟨b, o, e, -⟩ := hcs h0; cases e
    obtain rfl : l = [] := List.eq_nil_of_length_eq_zero h0
    obtain ⟨a', c', rfl⟩ := owns_slice hown
    refine wpList_plain hgd fun K hK => ?_
    have hrun := run_app_none w base 24 3 _ Tryz.underlying24 ge_int o.type _ _ c _ hown
    unfold Oper.wp execOp
    simp only [ho, resolve, invoke, builtin, Sem.run_bind, Sem.run_pure, Result.andThen_ok, List.map_toArray, List.map_cons, List.map_nil, hs, hx, List.length_nil, hrun]
    have := h a' c' w (by simpa using hown) (World.grownBy.refl w _) (.inl (by cases a' <;> rfl))
    simp only [List.append_nil] at this
    exact hK _ _ this
  · refine wpList_append_own_at w hgd s x 24 ho base 3 _ (.int .i64 0) 1 8 Tryz.underlying24 ge_int ge_int0 ge_int1 ge_int2 rfl (by decide) v xs.length (iv xs) hs hown ad l.length c (iv l) hx (by unfold iv; simp) hi0.cells (iv_one _) (by unfold maxLen; omega) (by omega) hbase ?_
    intro v' w' hown' hgrow _ hat
    have e1 : iv xs ++ iv l = iv (xs ++ l) := by unfold iv; rw [List.map_append]
    have e2 : xs.length + l.length = (xs ++ l).length := by rw [List.length_append]
    rw [e1, e2] at hown'
    obtain ⟨a', c', rfl⟩ := owns_slice hown'
    exact h a' c' w' hown' hgrow hat
/-- the same, with what the walk carries: below the base all is as before -/
theorem wp_appB {ops : Array Oper} {rest : List Oper} {o : Oper} {a : Act} {Q : Exit → Act → World → Prop} (w : World) (hgd : o.guard = none) (s x : Operand)
    (ho : o.op = .call { callee := .builtin .append, args := #[s, x], argTypes := #[24, 24] })
    (base : Nat) (v sv : Value) (xs l : List Int) (hs : a.eval s = v) (hown : w.ownsRow base 3 1 v xs.length (iv xs)) (hx : a.eval x = sv) (hi : IS w sv l)
    (hz : xs.length + l.length ≤ 100000) (hbase : base ≤ w.heap.size)
    (h : ∀ a' c' w', w'.ownsRow base 3 1 (.slice a' (xs ++ l).length c') (xs ++ l).length (iv (xs ++ l)) → Below base w w' → wpList Tryz.prog ops Q rest (a.put o.dst (.slice a' (xs ++ l).length c')) w') :
    wpList Tryz.prog ops Q (o :: rest) a w :=
  wp_app w hgd s x ho base v sv xs l hs hown hx hi hz hbase fun a' c' w' h1 h2 _ => h a' c' w' h1 ((Below.refl base w).grown h2 hbase fun k hk => ((NW.owns hown).2.2 k hk).1)
theorem owns_empty {w : World} {k : Nat} (h : w.heap.size = k) : (w.alloc (.cells #[] 3)).ownsRow k 3 1 (.slice (some ⟨k, 0, none⟩) 0 0) 0 (iv []) :=
  ⟨rfl, .inr ⟨k, 0, #[], rfl, Nat.le_refl _, by subst h; exact heap_alloc_new w _, Nat.le_refl _, by unfold maxLen; omega, rfl, rfl⟩⟩
theorem owns_is {w : World} {base : Nat} {v : Value} {l : List Int} (h : w.ownsRow base 3 1 v l.length (iv l)) (hz : l.length ≤ 1000000) : IS w v l := (NW.owns h).1.is hz
theorem IS.drop {w : World} {b o c : Nat} {l : List Int} (h : IS w (.slice (some ⟨b, o, none⟩) l.length c) l) (k : Nat) : IS w (.slice (some ⟨b, o + k, none⟩) (l.length - k) (c - k)) (l.drop k) := by
  obtain ⟨a', c', e, hz, hc⟩ := h
  injection e with e1 e2 e3
  subst e1
  refine ⟨_, c - k, by rw [List.length_drop], by rw [List.length_drop]; omega, fun h0 => ?_⟩
  rw [List.length_drop] at h0
  obtain ⟨b', o', e4, hb, p⟩ := hc (by omega)
  injection e4 with e4
  injection e4 with e5 e6
  subst e5 e6
  refine ⟨b, o + k, rfl, hb, fun j hj => ?_⟩
  rw [List.length_drop] at hj
  have := p (k + j) (by omega)
  rw [Nat.add_assoc, this]
  simp
theorem IS.one1' {w : World} {n : Int} {t : TypeId} {k : Nat} (h : w.heap.size = k) : IS (w.alloc (.cells #[.int .i64 n] t)) (.slice (some ⟨k, 0, none⟩) 1 1) [n] := by subst h; exact IS.one1 w n t
theorem belA2 {w w3 : World} (B : Below w.heap.size w w3) (o1 o2 : Obj) : Below w.heap.size w ((w3.alloc o1).alloc o2) := ((B.alloc B.size _).alloc (by have := B.size; simp; omega) _)
theorem guard_off {P : Program} {ops : Array Oper} {rest : List Oper} {o : Oper} {a : Act} {w : World} {Q : Exit → Act → World → Prop} (hw : Region.wanted o (yielded ops a.tmps) = true) (h : wpList P ops Q ({ o with guard := none } :: rest) a w) : wpList P ops Q (o :: rest) a w := by
  unfold wpList at h ⊢
  rw [if_pos hw]
  rw [if_pos (by simp [Region.wanted])] at h
  exact h
theorem belC {w w5 : World} {o1 o2 : Obj} (h : Below (w.heap.size + 1) ((w.alloc o1).alloc o2) w5) : Below w.heap.size w w5 :=
  (belA2 (Below.refl _ _) o1 o2).trans (h.mono (by omega))
theorem sizC {k : Nat} {w w5 : World} {o1 o2 : Obj} (h : Below k ((w.alloc o1).alloc o2) w5) : w.heap.size + 2 ≤ w5.heap.size := by have := h.size; simp at this; omega
theorem below1' {k : Nat} {w w1 : World} {o : Obj} (hb : Below k (w.alloc o) w1) (hk : k ≤ w.heap.size) : Below k w w1 := ((Below.refl _ _).alloc hk _).trans hb
theorem belD {w w4 w6 : World} (h : Below w.heap.size w w4) (k : Below w4.heap.size w4 w6) : Below w.heap.size w w6 := bt h k
theorem owns_some {w : World} {base e n c : Nat} {a : Option Addr} {xs : List Value} (h : w.ownsRow base e 1 (.slice a n c) n xs) (hn : 0 < n) : ∃ g, a = some ⟨g, 0, none⟩ ∧ n ≤ c := by
  rcases h.2 with ⟨_, h0⟩ | ⟨g, cap, cur, e1, _, _, h3, _⟩
  · omega
  · injection e1 with e1 e2 e3
    exact ⟨g, e1, by omega⟩
end Go.Proofs.YtbkbgkicpfbjfaaGreatDoor

end
section
/- Contract of dasdlaw38.few. -/
namespace Go.Proofs.YtbkbgkicpfbjfaaGreatDoor
open Go.RowKit
set_option maxHeartbeats 800000
set_option maxRecDepth 4000
attribute [local go_sem ↓] ldEnt stEnt
attribute [local go_sem] Held_drew isHead_mk headOf_mk cellsOfV_mk isAggV_mk row_new row_new2 row_new2' row_drew row_drewN vals_size
theorem few38 (e : En) (a1 a2 a3 a4 : Option Addr) (n1 c1 n2 c2 n3 c3 n4 c4 : Nat) (w : World) :
    Calls Tryz.prog 16 #[.agg (e.vals (.slice a1 n1 c1) (.slice a2 n2 c2)), .slice a3 n3 c3, .slice a4 n4 c4] w fun r w' => r = .returned (.bool (decide (e.name.size ≤ 60) && decide (n2 ≤ 12) && decide (n1 ≤ 8) && decide (n3 ≤ 80) && decide (n4 ≤ 20))) ∧ Below w.heap.size w w' := by
  have r0 : ∀ t, row (w.alloc (.cells (e.vals (.slice a1 n1 c1) (.slice a2 n2 c2)) t)) w.heap.size = e.vals (.slice a1 n1 c1) (.slice a2 n2 c2) := fun t => row_new w _ t _
  have k1 : ∀ t, (w.alloc (.cells (e.vals (.slice a1 n1 c1) (.slice a2 n2 c2)) t)).cell? ⟨w.heap.size, 1, none⟩ = some (.string e.name) := fun t => cell_row (r0 t) 1 _ (vals_1 _ _ _)
  have k23 : ∀ t, (w.alloc (.cells (e.vals (.slice a1 n1 c1) (.slice a2 n2 c2)) t)).cell? ⟨w.heap.size, 23, none⟩ = some (.slice a1 n1 c1) := fun t => cell_row (r0 t) 23 _ (vals_23 _ _ _)
  have k32 : ∀ t, (w.alloc (.cells (e.vals (.slice a1 n1 c1) (.slice a2 n2 c2)) t)).cell? ⟨w.heap.size, 32, none⟩ = some (.slice a2 n2 c2) := fun t => cell_row (r0 t) 32 _ (vals_32 _ _ _)
  have hal : ∀ t, Below w.heap.size w (w.alloc (.cells (e.vals (.slice a1 n1 c1) (.slice a2 n2 c2)) t)) := fun t => by (repeat (first | exact Below.refl _ _ | assumption | (refine Below.drew ?_) | (refine Below.alloc ?_ (by first | (simp; done) | (simp; omega) | omega) _) | (refine Below.setCell ?_ (by first | (simp; done) | (simp; omega) | omega) _)))
  by_cases h0 : e.name.size ≤ 60
  rotate_left
  · have q0 : decide ((e.name.size : Int) ≤ 60) = false := by rw [decide_eq_false_iff_not]; omega
    go_enter Tryz.func16, Tryz.ntmps16
    go_wp2_with fail
    go_ret
    exact ⟨ret_bool (by simp [h0]), hal _⟩
  have q0 : decide ((e.name.size : Int) ≤ 60) = true := by rw [decide_eq_true_eq]; omega
  by_cases h1 : n2 ≤ 12
  rotate_left
  · have q1 : decide ((n2 : Int) ≤ 12) = false := by rw [decide_eq_false_iff_not]; omega
    go_enter Tryz.func16, Tryz.ntmps16
    go_wp2_with fail
    go_ret
    exact ⟨ret_bool (by simp [h0, h1]), hal _⟩
  have q1 : decide ((n2 : Int) ≤ 12) = true := by rw [decide_eq_true_eq]; omega
  by_cases h2 : n1 ≤ 8
  rotate_left
  · have q2 : decide ((n1 : Int) ≤ 8) = false := by rw [decide_eq_false_iff_not]; omega
    go_enter Tryz.func16, Tryz.ntmps16
    go_wp2_with fail
    go_ret
    exact ⟨ret_bool (by simp [h0, h1, h2]), hal _⟩
  have q2 : decide ((n1 : Int) ≤ 8) = true := by rw [decide_eq_true_eq]; omega
  by_cases h3 : n3 ≤ 80
  rotate_left
  · have q3 : decide ((n3 : Int) ≤ 80) = false := by rw [decide_eq_false_iff_not]; omega
    go_enter Tryz.func16, Tryz.ntmps16
    go_wp2_with fail
    go_ret
    exact ⟨ret_bool (by simp [h0, h1, h2, h3]), hal _⟩
  have q3 : decide ((n3 : Int) ≤ 80) = true := by rw [decide_eq_true_eq]; omega
  by_cases h4 : n4 ≤ 20
  rotate_left
  · have q4 : decide ((n4 : Int) ≤ 20) = false := by rw [decide_eq_false_iff_not]; omega
    go_enter Tryz.func16, Tryz.ntmps16
    go_wp2_with fail
    go_ret
    exact ⟨ret_bool (by simp [h0, h1, h2, h3, h4]), hal _⟩
  have q4 : decide ((n4 : Int) ≤ 20) = true := by rw [decide_eq_true_eq]; omega
  go_enter Tryz.func16, Tryz.ntmps16
  go_wp2_with fail
  go_ret
  exact ⟨ret_bool (by simp [h0, h1, h2, h3, h4]), hal _⟩
end Go.Proofs.YtbkbgkicpfbjfaaGreatDoor

end
