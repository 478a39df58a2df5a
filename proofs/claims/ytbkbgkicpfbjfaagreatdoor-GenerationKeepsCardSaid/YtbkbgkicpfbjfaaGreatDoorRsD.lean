/- Contracts of the references: dasdref38.Valid, RollIn. -/
import Derived.Test.YtbkbgkicpfbjfaaGreatDoorRsC
import Derived.Test.YtbkbgkicpfbjfaaGreatDoorApp
import Derived.Test.YtbkbgkicpfbjfaaGreatDoorGeE
namespace Go.Proofs.YtbkbgkicpfbjfaaGreatDoor
open Go.RowKit
set_option maxHeartbeats 1600000
set_option maxRecDepth 8000
theorem run_app {w : World} (ty : TypeId) (base : Nat) (v sv : Value) (xs l : List Int) (hown : w.ownsRow base 3 1 v xs.length (iv xs)) (hi : IS w sv l) (hz : xs.length + l.length ≤ 100000) (hbase : base ≤ w.heap.size) :
    ∃ a' c' w', (Builtin.append_ #[24, 24] ty #[v, sv]).run Tryz.prog w = .ok (.slice a' (xs ++ l).length c') w' ∧ w'.ownsRow base 3 1 (.slice a' (xs ++ l).length c') (xs ++ l).length (iv (xs ++ l)) ∧ Below base w w' := by
  have hi0 := hi
  obtain ⟨ad, c, rfl, hll, hcs⟩ := hi
  rcases ad with _ | ad
  · have h0 : l.length = 0 := by
      rcases Nat.eq_zero_or_pos l.length with h0 | h0
      · exact h0
      · obtain ⟨b, o, e, -⟩ := hcs h0; cases e
    obtain rfl : l = [] := List.eq_nil_of_length_eq_zero h0
    obtain ⟨a', c', rfl⟩ := owns_slice hown
    have hrun := run_app_none w base 24 3 _ Tryz.underlying24 ge_int ty _ _ c _ hown
    exact ⟨a', c', w, by simpa using hrun, by simpa using hown, Below.refl _ _⟩
  · obtain ⟨v', w', hr, h2, h3, _, h5⟩ := run_append_own_at (P := Tryz.prog) w base 24 ty 3 _ (.int .i64 0) 1 8 Tryz.underlying24 ge_int ge_int0 ge_int1 ge_int2 rfl (by decide) v xs.length (iv xs) hown ad l.length c (iv l) (by unfold iv; simp) hi0.cells (iv_one _) (by unfold maxLen; omega) (by omega) hbase
    have e1 : iv xs ++ iv l = iv (xs ++ l) := by unfold iv; rw [List.map_append]
    have e2 : xs.length + l.length = (xs ++ l).length := by rw [List.length_append]
    rw [e1, e2] at h2
    obtain ⟨a', c', rfl⟩ := owns_slice h2
    exact ⟨a', c', w', hr, h2, (Below.refl base w).grown h3 hbase fun k hk => ((NW.owns hown).2.2 k hk).1⟩
/-- an append as a step of a region that draws -/
theorem step_appB {ops : Array Oper} {o : Oper} {a : Act} {w : World} {K : Act → World → Prop} {Q : Exit → Act → World → Prop} {E : Prop} (hgd : o.guard = none) (s x : Operand)
    (ho : o.op = .call { callee := .builtin .append, args := #[s, x], argTypes := #[24, 24] })
    (base : Nat) (v sv : Value) (xs l : List Int) (hs : a.eval s = v) (hown : w.ownsRow base 3 1 v xs.length (iv xs)) (hx : a.eval x = sv) (hi : IS w sv l)
    (hz : xs.length + l.length ≤ 100000) (hbase : base ≤ w.heap.size)
    (h : ∀ a' c' w', w'.ownsRow base 3 1 (.slice a' (xs ++ l).length c') (xs ++ l).length (iv (xs ++ l)) → Below base w w' → K (a.put o.dst (.slice a' (xs ++ l).length c')) w') :
    if Region.wanted o (yielded ops a.tmps) = true then Oper.wp Tryz.prog o a w K Q else E := by
  have hw : Region.wanted o (yielded ops a.tmps) = true := by simp [Region.wanted, hgd]
  rw [if_pos hw]
  obtain ⟨a', c', w', hr, h2, h3⟩ := run_app o.type base v sv xs l hown hi hz hbase
  unfold Oper.wp execOp
  simp only [ho, resolve, invoke, builtin, Sem.run_bind, Sem.run_pure, Result.andThen_ok, List.map_toArray, List.map_cons, List.map_nil, hs, hx, hr]
  exact h a' c' w' h2 h3
theorem ok_ref (e : En) (l2 : List Int) (g2 : List Gr) (ex : List Int) : okE e l2 g2 ex = (decide (e.kind = 1) && okG e l2 g2 && Ge.inc 0 ex e.last) := by
  unfold okE
  cases h : decide (e.kind = 1) && okG e l2 g2
  · rfl
  · rw [Bool.true_and, Bool.true_and]
    unfold okG Vp.grp at h
    simp only [Bool.and_eq_true] at h
    obtain ⟨-, ⟨-, ⟨-, h3⟩, -⟩, -⟩ := h
    exact Ge.fits_inc ex 0 e.last (rng1 _ _ _ h3).1
attribute [local go_sem ↓] ldEnt stEnt stEntRow
attribute [local go_sem] Held_drew isHead_mk headOf_mk cellsOfV_mk isAggV_mk row_new row_new2 row_new2' row_drew row_drewN vals_size allOne_nil allOne_cons one_int one_bool one_string one_pointer one_slice vals_0 vals_1 vals_25 vals_26 vals_27 vals_28
theorem rge_valid (e : En) (al gr exv : Value) (l2 ex : List Int) (g2 : List Gr) (w : World) (h1 : IS w al l2) (h2 : GS w gr g2) (h3 : IS w exv ex) (hsz : e.name.size ≤ 60) :
    Calls Tryz.prog 28 #[.agg (e.vals al gr), exv] w fun r w' => r = .returned (.bool (okE e l2 g2 ex)) ∧ Below w.heap.size w w' := by
  rw [ok_ref]
  by_cases hk : e.kind = 1
  · rw [decide_eq_true hk, Bool.true_and]
    have ha : Below w.heap.size w (w.alloc (.cells (e.vals al gr) 27)) := by (repeat (first | exact Below.refl _ _ | assumption | (refine Below.drew ?_) | (refine Below.alloc ?_ (by first | (simp; done) | (simp; omega) | omega) _) | (refine Below.setCell ?_ (by first | (simp; done) | (simp; omega) | omega) _)))
    have hv := rvalid1 e al gr l2 g2 _ hk (h1.below ha) (h2.below ha) hsz
    have hf := fun W (b : Below w.heap.size w W) => rge_inc exv ex e.last W (h3.below b)
    have hk2 : (e.kind == 1) = true := by simpa using hk
    clear hk
    generalize okG e l2 g2 = x at hv ⊢
    generalize Ge.inc 0 ex e.last = y at hf ⊢
    cases x
    · go_enter Tryz.func28, Tryz.ntmps28
      go_wp2_with ((with_reducible refine hv.mono ?_); rintro _ w1 ⟨rfl, hb⟩)
      go_ret
      exact ⟨rfl, below1 hb⟩
    · go_enter Tryz.func28, Tryz.ntmps28
      go_wp2_with (first | ((with_reducible refine hv.mono ?_); rintro _ w1 ⟨rfl, hb⟩; have B := below1 hb; obtain ⟨hc1, hf1⟩ := bcell hb) | ((with_reducible refine (hf _ B).mono ?_); rintro _ w2 ⟨rfl, q, rfl⟩))
      go_ret
      exact ⟨rfl, below_drewN B q⟩
  · rw [decide_eq_false hk, Bool.false_and, Bool.false_and]
    have hk2 : (e.kind == 1) = false := by simpa using hk
    clear hk
    go_enter Tryz.func28, Tryz.ntmps28
    go_wp2_with fail
    go_ret
    exact ⟨rfl, by (repeat (first | exact Below.refl _ _ | assumption | (refine Below.drew ?_) | (refine Below.alloc ?_ (by first | (simp; done) | (simp; omega) | omega) _) | (refine Below.setCell ?_ (by first | (simp; done) | (simp; omega) | omega) _)))⟩
end Go.Proofs.YtbkbgkicpfbjfaaGreatDoor
