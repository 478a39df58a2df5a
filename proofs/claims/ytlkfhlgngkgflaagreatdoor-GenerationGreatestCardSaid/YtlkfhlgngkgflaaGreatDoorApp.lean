/- Several texts in one: App FewG GeW GeV. -/
import Derived.Test.YtlkfhlgngkgflaaGreatDoorGeB
import Derived.Maps.AppendAt
import Derived.Test.YtlkfhlgngkgflaaGreatDoorSaC
import Derived.Test.YtlkfhlgngkgflaaGreatDoorEn
import Derived.Test.YtlkfhlgngkgflaaGreatDoorSaA
import Derived.Test.YtlkfhlgngkgflaaGreatDoorGeS
section
/- append of a slice of numbers to a row of the call's own, whatever the source. -/
namespace Go.Proofs.YtlkfhlgngkgflaaGreatDoor
open Go.RowKit
set_option maxHeartbeats 800000
set_option maxRecDepth 4000
theorem IS.cells {w : World} {a : Addr} {n c : Nat} {l : List Int} (h : IS w (.slice (some a) n c) l) : ∀ j u, (iv l)[j]? = some u → w.cell? (a.add j) = some u := by
  intro j u hu
  obtain ⟨a', c', e, -, hc⟩ := h
  injection e with e1 e2 e3
  have hj : j < l.length := by
    have := (List.getElem?_eq_some_iff.1 hu).1
    unfold iv at this; rwa [List.length_map] at this
  obtain ⟨b, o, e4, -, p⟩ := hc (by omega)
  rw [e4] at e1
  injection e1 with e1
  subst e1
  unfold iv at hu
  rw [List.getElem?_map, List.getElem?_eq_getElem hj] at hu
  rw [Addr.add_mid, p j hj]
  exact hu
theorem run_app_none {P : Program} (w : World) (base t e : TypeId) (i : TypeInfo) (ht : P.underlying t = some (.slice e)) (hi : P.info? e = some i) (ty : Nat) (v : Value) (n c : Nat) (xs : List Value) (hown : w.ownsRow base e 1 v n xs) :
    (Builtin.append_ #[t, t] ty #[v, .slice none 0 c]).run P w = .ok v w := by
  rcases hown.2 with ⟨rfl, rfl⟩ | ⟨g, cap, cur, rfl, _, _, hnc, _⟩
  · simp [Builtin.append_, run_underlying ht, sizeOf, typeInfo, hi, Builtin.lenOf, Builtin.firstCells]
  · simp [Builtin.append_, run_underlying ht, sizeOf, typeInfo, hi, Builtin.lenOf, Builtin.firstCells, hnc, storeCells]
theorem owns_slice {w : World} {base e n : Nat} {v : Value} {xs : List Value} (h : w.ownsRow base e 1 v n xs) : ∃ a c, v = .slice a n c := by
  rcases h.2 with ⟨rfl, rfl⟩ | ⟨g, cap, cur, rfl, _⟩
  · exact ⟨_, _, rfl⟩
  · exact ⟨_, _, rfl⟩
theorem wp_app {ops : Array Oper} {rest : List Oper} {o : Oper} {a : Act} {Q : Exit → Act → World → Prop} (w : World) (hgd : o.guard = none) (s x : Operand)
    (ho : o.op = .call { callee := .builtin .append, args := #[s, x], argTypes := #[22, 22] })
    (base : Nat) (v sv : Value) (xs l : List Int) (hs : a.eval s = v) (hown : w.ownsRow base 3 1 v xs.length (iv xs)) (hx : a.eval x = sv) (hi : IS w sv l)
    (hz : xs.length + l.length ≤ 100000) (hbase : base ≤ w.heap.size)
    (h : ∀ a' c' w', w'.ownsRow base 3 1 (.slice a' (xs ++ l).length c') (xs ++ l).length (iv (xs ++ l)) → w.grownBy w' v.ownBlock → ((Value.slice a' (xs ++ l).length c').ownBlock = v.ownBlock ∨ (Value.slice a' (xs ++ l).length c').ownBlock = some w.heap.size) → wpList Tryz.prog ops Q rest (a.put o.dst (.slice a' (xs ++ l).length c')) w') :
    wpList Tryz.prog ops Q (o :: rest) a w := by
  have hi0 := hi
  obtain ⟨ad, c, rfl, hll, hcs⟩ := hi
  rcases ad with _ | ad
  · have h0 : l.length = 0 := by
      rcases Nat.eq_zero_or_pos l.length with h0 | h0
      · exact h0
      · obtain ⟨b, o, e, -⟩ := hcs h0; cases e
    obtain rfl : l = [] := List.eq_nil_of_length_eq_zero h0
    obtain ⟨a', c', rfl⟩ := owns_slice hown
    refine wpList_plain hgd fun K hK => ?_
    have hrun := run_app_none w base 22 3 _ Tryz.underlying22 ge_int o.type _ _ c _ hown
    unfold Oper.wp execOp
    simp only [ho, resolve, invoke, builtin, Sem.run_bind, Sem.run_pure, Result.andThen_ok, List.map_toArray, List.map_cons, List.map_nil, hs, hx, List.length_nil, hrun]
    have := h a' c' w (by simpa using hown) (World.grownBy.refl w _) (.inl (by cases a' <;> rfl))
    simp only [List.append_nil] at this
    exact hK _ _ this
  · refine wpList_append_own_at w hgd s x 22 ho base 3 _ (.int .i64 0) 1 8 Tryz.underlying22 ge_int ge_int0 ge_int1 ge_int2 rfl (by decide) v xs.length (iv xs) hs hown ad l.length c (iv l) hx (by unfold iv; simp) hi0.cells (iv_one _) (by unfold maxLen; omega) (by omega) hbase ?_
    intro v' w' hown' hgrow _ hat
    have e1 : iv xs ++ iv l = iv (xs ++ l) := by unfold iv; rw [List.map_append]
    have e2 : xs.length + l.length = (xs ++ l).length := by rw [List.length_append]
    rw [e1, e2] at hown'
    obtain ⟨a', c', rfl⟩ := owns_slice hown'
    exact h a' c' w' hown' hgrow hat
/-- the same, with what the walk carries: below the base all is as before -/
theorem wp_appB {ops : Array Oper} {rest : List Oper} {o : Oper} {a : Act} {Q : Exit → Act → World → Prop} (w : World) (hgd : o.guard = none) (s x : Operand)
    (ho : o.op = .call { callee := .builtin .append, args := #[s, x], argTypes := #[22, 22] })
    (base : Nat) (v sv : Value) (xs l : List Int) (hs : a.eval s = v) (hown : w.ownsRow base 3 1 v xs.length (iv xs)) (hx : a.eval x = sv) (hi : IS w sv l)
    (hz : xs.length + l.length ≤ 100000) (hbase : base ≤ w.heap.size)
    (h : ∀ a' c' w', w'.ownsRow base 3 1 (.slice a' (xs ++ l).length c') (xs ++ l).length (iv (xs ++ l)) → Below base w w' → wpList Tryz.prog ops Q rest (a.put o.dst (.slice a' (xs ++ l).length c')) w') :
    wpList Tryz.prog ops Q (o :: rest) a w :=
  wp_app w hgd s x ho base v sv xs l hs hown hx hi hz hbase fun a' c' w' h1 h2 _ => h a' c' w' h1 ((Below.refl base w).grown h2 hbase fun k hk => ((NW.owns hown).2.2 k hk).1)
theorem owns_empty {w : World} {k : Nat} (h : w.heap.size = k) : (w.alloc (.cells #[] 3)).ownsRow k 3 1 (.slice (some ⟨k, 0, none⟩) 0 0) 0 (iv []) :=
  ⟨rfl, .inr ⟨k, 0, #[], rfl, Nat.le_refl _, by subst h; exact heap_alloc_new w _, Nat.le_refl _, by unfold maxLen; omega, rfl, rfl⟩⟩
theorem owns_is {w : World} {base : Nat} {v : Value} {l : List Int} (h : w.ownsRow base 3 1 v l.length (iv l)) (hz : l.length ≤ 1000000) : IS w v l := (NW.owns h).1.is hz
theorem IS.drop {w : World} {b o c : Nat} {l : List Int} (h : IS w (.slice (some ⟨b, o, none⟩) l.length c) l) (k : Nat) : IS w (.slice (some ⟨b, o + k, none⟩) (l.length - k) (c - k)) (l.drop k) := by
  obtain ⟨a', c', e, hz, hc⟩ := h
  injection e with e1 e2 e3
  subst e1
  refine ⟨_, c - k, by rw [List.length_drop], by rw [List.length_drop]; omega, fun h0 => ?_⟩
  rw [List.length_drop] at h0
  obtain ⟨b', o', e4, hb, p⟩ := hc (by omega)
  injection e4 with e4
  injection e4 with e5 e6
  subst e5 e6
  refine ⟨b, o + k, rfl, hb, fun j hj => ?_⟩
  rw [List.length_drop] at hj
  have := p (k + j) (by omega)
  rw [Nat.add_assoc, this]
  simp
end Go.Proofs.YtlkfhlgngkgflaaGreatDoor

end
section
/- Contract of dasdlaw38.few. -/
namespace Go.Proofs.YtlkfhlgngkgflaaGreatDoor
open Go.RowKit
set_option maxHeartbeats 800000
set_option maxRecDepth 4000
attribute [local go_sem ↓] ldEnt stEnt
attribute [local go_sem] Held_drew isHead_mk headOf_mk cellsOfV_mk isAggV_mk row_new row_new2 row_new2' row_drew row_drewN vals_size
theorem few38 (e : En) (a1 a2 a3 a4 : Option Addr) (n1 c1 n2 c2 n3 c3 n4 c4 : Nat) (w : World) :
    Calls Tryz.prog 13 #[.agg (e.vals (.slice a1 n1 c1) (.slice a2 n2 c2)), .slice a3 n3 c3, .slice a4 n4 c4] w fun r w' => r = .returned (.bool (decide (e.name.size ≤ 60) && decide (n2 ≤ 12) && decide (n1 ≤ 8) && decide (n3 ≤ 80) && decide (n4 ≤ 20))) ∧ Below w.heap.size w w' := by
  have r0 : ∀ t, row (w.alloc (.cells (e.vals (.slice a1 n1 c1) (.slice a2 n2 c2)) t)) w.heap.size = e.vals (.slice a1 n1 c1) (.slice a2 n2 c2) := fun t => row_new w _ t _
  have k1 : ∀ t, (w.alloc (.cells (e.vals (.slice a1 n1 c1) (.slice a2 n2 c2)) t)).cell? ⟨w.heap.size, 1, none⟩ = some (.string e.name) := fun t => cell_row (r0 t) 1 _ (vals_1 _ _ _)
  have k23 : ∀ t, (w.alloc (.cells (e.vals (.slice a1 n1 c1) (.slice a2 n2 c2)) t)).cell? ⟨w.heap.size, 23, none⟩ = some (.slice a1 n1 c1) := fun t => cell_row (r0 t) 23 _ (vals_23 _ _ _)
  have k32 : ∀ t, (w.alloc (.cells (e.vals (.slice a1 n1 c1) (.slice a2 n2 c2)) t)).cell? ⟨w.heap.size, 32, none⟩ = some (.slice a2 n2 c2) := fun t => cell_row (r0 t) 32 _ (vals_32 _ _ _)
  have hal : ∀ t, Below w.heap.size w (w.alloc (.cells (e.vals (.slice a1 n1 c1) (.slice a2 n2 c2)) t)) := fun t => by (repeat (first | exact Below.refl _ _ | assumption | (refine Below.drew ?_) | (refine Below.alloc ?_ (by first | (simp; done) | (simp; omega) | omega) _) | (refine Below.setCell ?_ (by first | (simp; done) | (simp; omega) | omega) _)))
  by_cases h0 : e.name.size ≤ 60
  rotate_left
  · have q0 : decide ((e.name.size : Int) ≤ 60) = false := by rw [decide_eq_false_iff_not]; omega
    go_enter Tryz.func13, Tryz.ntmps13
    go_wp2_with fail
    go_ret
    exact ⟨ret_bool (by simp [h0]), hal _⟩
  have q0 : decide ((e.name.size : Int) ≤ 60) = true := by rw [decide_eq_true_eq]; omega
  by_cases h1 : n2 ≤ 12
  rotate_left
  · have q1 : decide ((n2 : Int) ≤ 12) = false := by rw [decide_eq_false_iff_not]; omega
    go_enter Tryz.func13, Tryz.ntmps13
    go_wp2_with fail
    go_ret
    exact ⟨ret_bool (by simp [h0, h1]), hal _⟩
  have q1 : decide ((n2 : Int) ≤ 12) = true := by rw [decide_eq_true_eq]; omega
  by_cases h2 : n1 ≤ 8
  rotate_left
  · have q2 : decide ((n1 : Int) ≤ 8) = false := by rw [decide_eq_false_iff_not]; omega
    go_enter Tryz.func13, Tryz.ntmps13
    go_wp2_with fail
    go_ret
    exact ⟨ret_bool (by simp [h0, h1, h2]), hal _⟩
  have q2 : decide ((n1 : Int) ≤ 8) = true := by rw [decide_eq_true_eq]; omega
  by_cases h3 : n3 ≤ 80
  rotate_left
  · have q3 : decide ((n3 : Int) ≤ 80) = false := by rw [decide_eq_false_iff_not]; omega
    go_enter Tryz.func13, Tryz.ntmps13
    go_wp2_with fail
    go_ret
    exact ⟨ret_bool (by simp [h0, h1, h2, h3]), hal _⟩
  have q3 : decide ((n3 : Int) ≤ 80) = true := by rw [decide_eq_true_eq]; omega
  by_cases h4 : n4 ≤ 20
  rotate_left
  · have q4 : decide ((n4 : Int) ≤ 20) = false := by rw [decide_eq_false_iff_not]; omega
    go_enter Tryz.func13, Tryz.ntmps13
    go_wp2_with fail
    go_ret
    exact ⟨ret_bool (by simp [h0, h1, h2, h3, h4]), hal _⟩
  have q4 : decide ((n4 : Int) ≤ 20) = true := by rw [decide_eq_true_eq]; omega
  go_enter Tryz.func13, Tryz.ntmps13
  go_wp2_with fail
  go_ret
  exact ⟨ret_bool (by simp [h0, h1, h2, h3, h4]), hal _⟩
end Go.Proofs.YtlkfhlgngkgflaaGreatDoor

end
section
/- Contracts of the references: dasdref31.Ints. -/
namespace Go.Proofs.YtlkfhlgngkgflaaGreatDoor
open Go.RowKit
set_option maxHeartbeats 800000
set_option maxRecDepth 4000
theorem rints_lens (a1 a2 : Option Addr) (n1 n2 c1 c2 : Nat) (w : World) (hn : n1 ≠ n2) :
    Calls Tryz.prog 17 #[.slice a1 n1 c1, .slice a2 n2 c2] w fun e w' => e = .returned (.bool false) ∧ w = w' := by
  have e2 : ((n1 : Int) == (n2 : Int)) = false := by rw [beq_eq_false_iff_ne]; omega
  have e1 : (n1 == n2) = false := by simpa using hn
  clear hn
  go_enter Tryz.func17, Tryz.ntmps17
  go_wp2_with fail
  go_ret
  exact ⟨rfl, rfl⟩
theorem rints (v1 v2 : Value) (l1 l2 : List Int) (w : World) (h1 : IS w v1 l1) (h2 : IS w v2 l2) :
    Calls Tryz.prog 17 #[v1, v2] w fun e w' => e = .returned (.bool (decide (l1 = l2))) ∧ Below w.heap.size w w' := by
  obtain ⟨a1, c1, rfl, hz1, hc1⟩ := h1
  obtain ⟨a2, c2, rfl, hz2, hc2⟩ := h2
  by_cases hn : l1.length = l2.length
  rotate_left
  · refine (rints_lens a1 a2 l1.length l2.length c1 c2 w hn).mono ?_
    rintro e w' ⟨rfl, rfl⟩
    exact ⟨ret_bool (by rw [eq_comm, decide_eq_false_iff_not]; intro e; exact hn (by rw [e])), Below.refl _ _⟩
  have H1 := Lib.hid hc1
  have H2 := Lib.hid hc2
  have HN := Lib.hid hn
  clear hc1 hc2
  rw [← hn]
  clear hn
  go_enter Tryz.func17, Tryz.ntmps17
  go_wp2_with fail
  go_loopw [5] (fun i wr => ∃ k : Nat, k ≤ l1.length ∧ i = .int .i64 k ∧ l1.take k = l2.take k ∧ ∃ q, wr = w.drewN q) (fun i _ => l1.length - (intOf i).toNat)
  case atStart => exact ⟨0, Nat.zero_le _, rfl, rfl, 0, rfl⟩
  case round =>
    obtain ⟨k, hk, rfl, he, q, rfl⟩ := hrel
    have HE := Lib.hid he
    clear he
    by_cases hlt : k < l1.length
    · have hk2 : k < l2.length := by rw [← HN.out]; exact hlt
      obtain ⟨b1, o1, rfl, -, p⟩ := H1.out (by omega)
      obtain ⟨b2, o2, rfl, -, r⟩ := H2.out (by omega)
      have p1 := p k hlt
      have p2 := r k hk2
      have i0 : (0 : Int) ≤ (k : Int) := by omega
      have i1 : (k : Int) < (l1.length : Int) := by omega
      clear p r
      by_cases hd : l1[k] = l2[k]
      · have HD := Lib.hid hd
        have hq : (l1[k] == l2[k]) = true := by simpa using hd
        have hq2 : (l1[k] != l2[k]) = false := by simpa using hd
        clear hd
        go_wp2_with fail
        go_quiet (fail)
        go_wp2_with fail
        go_roundw
        case rel =>
          refine ⟨k + 1, by omega, by go_num, ?_, _, rfl⟩
          rw [List.take_succ_eq_append_getElem hlt, List.take_succ_eq_append_getElem hk2, HE.out, HD.out]
        case measure => simp [intOf]; omega
      · have HD := Lib.hid hd
        have hq : (l1[k] == l2[k]) = false := by simpa using hd
        have hq2 : (l1[k] != l2[k]) = true := by simpa using hd
        clear hd
        go_wp2_with fail
        go_quiet (fail)
        go_wp2_with fail
        go_ret
        exact ⟨ret_bool (by
          symm
          rw [decide_eq_false_iff_not]
          intro e
          subst e
          exact HD.out rfl), below_drewN (below_drewN (Below.refl _ _) _) _⟩
    · go_wp2_with fail
      go_ret
      exact ⟨ret_bool (by
        symm
        rw [decide_eq_true_eq]
        have := HE.out
        rw [List.take_of_length_le (by omega), List.take_of_length_le (by rw [← HN.out]; omega)] at this
        exact this), below_drewN (Below.refl _ _) _⟩
end Go.Proofs.YtlkfhlgngkgflaaGreatDoor

end
section
/- Contracts of package generation: Roll. -/
namespace Go.Proofs.YtlkfhlgngkgflaaGreatDoor
open Go.RowKit
set_option maxHeartbeats 800000
set_option maxRecDepth 4000
attribute [local go_sem ↓] ldEnt stEnt stEntRow
attribute [local go_sem] Held_drew isHead_mk headOf_mk cellsOfV_mk isAggV_mk row_new row_new2 row_new2' row_drew row_drewN vals_size rolled_size
theorem ge_roll (e : En) (al gr exv lv : Value) (l2 ex l : List Int) (g2 : List Gr) (w : World) (hm : MaxL w) (h1 : IS w al l2) (h2 : GS w gr g2) (h3 : IS w exv ex) (h4 : IS w lv l) (hex : ex.length ≤ 200) (hll : l.length ≤ 200) :
    Calls Tryz.prog 14 #[.agg (e.vals al gr), exv, lv] w fun r w' => ∃ v, r = .returned (.tuple #[.agg (rolled e al gr (foldA e l2 g2 ex l)), v, .int .i64 (foldA e l2 g2 ex l).1]) ∧ IB w.heap.size w' v (foldA e l2 g2 ex l).2.2.1 ∧ Below w.heap.size w w' := by
  have B0 : ∀ z t1 t2, Below w.heap.size w ((w.alloc (.cells (e.vals al gr) t1)).alloc (.cells z t2)) := fun z t1 t2 => by (repeat (first | exact Below.refl _ _ | assumption | (refine Below.drew ?_) | (refine Below.alloc ?_ (by first | (simp; done) | (simp; omega) | omega) _) | (refine Below.setCell ?_ (by first | (simp; done) | (simp; omega) | omega) _)))
  have hf : ∀ z t1 t2, Calls Tryz.prog 27 #[.agg (e.vals al gr), exv, lv] ((w.alloc (.cells (e.vals al gr) t1)).alloc (.cells z t2)) (FoldR (foldA e l2 g2 ex l) (fun m => ({ e with last := m } : En).vals al gr) ((w.alloc (.cells (e.vals al gr) t1)).alloc (.cells z t2))) := fun z t1 t2 => by
    exact ge_fold e al gr exv lv l2 ex l g2 _ (hm.below (B0 z t1 t2)) (h1.below (B0 z t1 t2)) (h2.below (B0 z t1 t2)) (h3.below (B0 z t1 t2)) (h4.below (B0 z t1 t2)) hex hll
  have ho := rolled_one e al gr (foldA e l2 g2 ex l) h1.one h2.one
  unfold FoldR at hf
  have e1 : (if (foldA e l2 g2 ex l).1 = 0 then ({ e with last := (foldA e l2 g2 ex l).2.1 } : En).vals al gr else zcells 0 ⟨#[]⟩) = rolled e al gr (foldA e l2 g2 ex l) := rfl
  simp only [e1] at hf
  have hx := rolled_size e al gr (foldA e l2 g2 ex l)
  generalize rolled e al gr (foldA e l2 g2 ex l) = X at hf ho hx ⊢
  generalize foldA e l2 g2 ex l = F at hf ⊢
  have HF := Lib.hid hf
  clear hf h1 h2 h3 h4 e1
  go_enter Tryz.func14, Tryz.ntmps14
  go_wp2_with ((go_at_call 27; (with_reducible refine (HF.out _ _ _).mono ?_)); rintro _ w1 ⟨v1, v2, rfl, i1, i2, hb⟩; obtain ⟨E1, H1, z1, B1⟩ := fd1 w w1 _ _ 34 34 rfl hb; have H2 := H1.alloc; have HI := Lib.hid i1; clear hb i1 i2)
  have hrow := row_setRow (H2 (.cells X 34)) X
  refine bodyPost_ret (res_row_tmp2 (n := 32) rfl Tryz.underlying34 rfl (by kernel_rfl) _ _ (w.heap.size + 1) rfl ((congrArg Array.size hrow).trans hx)) rfl ?_
  rw [hrow]
  have hI := HI.out
  rw [show ((w.alloc _).alloc _).heap.size = w.heap.size + 1 + 1 by simp] at hI
  exact ⟨v1, rfl, (hI.keep (by simp) (fun x hx1 hx2 => (setRow_block _ _ _ _ (by omega)).trans (heap_alloc_old _ _ hx2))).mono (by omega), below_setRow (B1.alloc (by omega) _) (show w.heap.size ≤ w.heap.size + 1 by omega) _⟩
end Go.Proofs.YtlkfhlgngkgflaaGreatDoor

end
