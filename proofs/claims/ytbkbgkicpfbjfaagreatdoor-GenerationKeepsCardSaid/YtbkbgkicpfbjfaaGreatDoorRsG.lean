/- Contracts of the references: dasdref38.Roll. -/
import Derived.Test.YtbkbgkicpfbjfaaGreatDoorRsF
import Derived.Deep.DeepCutAuto
import Derived.Deep.CutRange
namespace Go.Proofs.YtbkbgkicpfbjfaaGreatDoor
open Go.RowKit
set_option maxHeartbeats 1600000
set_option maxRecDepth 8000
attribute [local go_sem ↓] ldEnt stEnt stEntRow
attribute [local go_sem] Held_drew isHead_mk headOf_mk cellsOfV_mk isAggV_mk row_new row_new2 row_new2' row_drew row_drewN vals_size allOne_nil allOne_cons one_int one_bool one_string one_pointer one_slice vals_0 vals_1 vals_25 vals_26 vals_27 vals_28
theorem rge_roll_bad (e : En) (al gr exv lv : Value) (l2 ex : List Int) (g2 : List Gr) (w : World) (h1 : IS w al l2) (h2 : GS w gr g2) (h3 : IS w exv ex) (hsz : e.name.size ≤ 60) (hok : okE e l2 g2 ex = false) :
    Calls Tryz.prog 18 #[.agg (e.vals al gr), exv, lv] w fun r w' => r = .returned (.tuple #[.agg (zlit 0 ⟨#[]⟩), .slice none 0 0, .int .i64 1]) ∧ Below w.heap.size w w' := by
  have hv := fun W (b : Below w.heap.size w W) => rge_valid e al gr exv l2 ex g2 W (h1.below b) (h2.below b) (h3.below b) hsz
  rw [hok] at hv
  have HV := Lib.hid hv
  clear hv hok h1 h2 h3
  go_enter Tryz.func18, Tryz.ntmps18
  go_wp2_with ((go_at_call 28; (with_reducible refine (HV.out _ (by (repeat (first | exact Below.refl _ _ | assumption | (refine Below.drew ?_) | (refine Below.alloc ?_ (by first | (simp; done) | (simp; omega) | omega) _) | (refine Below.setCell ?_ (by first | (simp; done) | (simp; omega) | omega) _))))).mono ?_)); rintro _ w1 ⟨rfl, hb⟩; obtain ⟨E1, H1, z1, B1⟩ := fd1 _ _ _ _ _ _ rfl hb; clear hb)
  have hrow := row_setRow H1 (zlit 0 ⟨#[]⟩)
  refine bodyPost_ret (res_row_tmp2 (n := 32) rfl Tryz.underlying27 rfl (by kernel_rfl) _ _ (w.heap.size + 1) rfl (congrArg Array.size hrow)) rfl ?_
  exact ⟨congrArg (fun c => Ending.returned (.tuple #[.agg c, .slice none 0 0, .int .i64 1])) hrow, below_setRow B1 (show w.heap.size ≤ w.heap.size + 1 by omega) _⟩
theorem owns_mono {w : World} {B B' e n : Nat} {v : Value} {xs : List Value} (h : w.ownsRow B e 1 v n xs) (hB : B' ≤ B) : w.ownsRow B' e 1 v n xs := by
  refine ⟨h.1, ?_⟩
  rcases h.2 with h | ⟨g, cap, cur, h1, h2, h3⟩
  · exact .inl h
  · exact .inr ⟨g, cap, cur, h1, Nat.le_trans hB h2, h3⟩
/-- Roll's memory between rounds -/
structure RI (w wr : World) (cs : Array Value) (now : List Int) (v : Value) : Prop where
  hE : EB wr w.heap.size cs
  hR : Held wr (w.heap.size + 1) 33
  hO : wr.ownsRow (w.heap.size + 2) 3 1 v now.length (iv now)
  hs : w.heap.size + 2 ≤ wr.heap.size
  hw : Below w.heap.size w wr
theorem RI.below {w wr wx : World} {cs : Array Value} {now : List Int} {v : Value} (h : RI w wr cs now v) (b : Below wr.heap.size wr wx) : RI w wx cs now v := by
  have h1 := h.hs
  refine ⟨h.hE.of_block (b.block _ (by omega)) b.size, h.hR.of_block (b.block _ (by omega)), owns_keep h.hO (fun x hx => b.block x ((NW.owns h.hO).2.2 x hx).2), by have := b.size; omega, bt h.hw b⟩
theorem rge_rollin_any (e : En) (al gr : Value) (a : Option Addr) (c : Nat) (l2 now : List Int) (g2 : List Gr) (n : Int) (wr : World) (h1 : IS wr al l2) (h2 : GS wr gr g2) (h3 : IS wr (.slice a now.length c) now) (hcap : now.length ≤ c) (hz : now.length ≤ 1000) (hsz : e.name.size ≤ 60) (hok : okE e l2 g2 now = true) :
    ∃ (X : Array Value) (C : Int) (lst : List Int), X.size = 33 ∧ allOne X.toList = true ∧ (∀ W, Below wr.heap.size wr W → Calls Tryz.prog 25 #[.agg (e.vals al gr), .slice a now.length c, .int .i64 n] W fun r w' => ∃ v, r = .returned (.tuple #[.agg X, v, .int .i64 C]) ∧ IB W.heap.size w' v lst ∧ Below W.heap.size W w') ∧
      ((C = 2 ∧ (n < 1 ∨ 9999 < n)) ∨ (C = 9 ∧ ¬ (n < 1 ∨ 9999 < n) ∧ n ≤ e.last) ∨ (C = 0 ∧ 1 ≤ n ∧ n ≤ 9999 ∧ e.last < n ∧ X = ({ e with last := n } : En).vals al gr ∧ lst = now.take (Ge.cut e.lim e.em (now ++ [n])))) := by
  by_cases hb : n < 1 ∨ 9999 < n
  · refine ⟨zlit 0 ⟨#[]⟩, 2, [], rfl, rfl, fun W b => (rge_rollin_range e al gr _ l2 now g2 n W (h1.below b) (h2.below b) (h3.below b) hsz hok hb).mono ?_, .inl ⟨rfl, hb⟩⟩
    rintro r w' ⟨rfl, b2⟩
    exact ⟨_, rfl, IB.nil _ _, b2⟩
  · have hb1 : 1 ≤ n := by omega
    have hb2 : n ≤ 9999 := by omega
    by_cases hle : n ≤ e.last
    · refine ⟨zlit 0 ⟨#[]⟩, 9, [], rfl, rfl, fun W b => (rge_rollin_state e al gr _ l2 now g2 n W (h1.below b) (h2.below b) (h3.below b) hsz hok hb1 hb2 hle).mono ?_, .inr (.inl ⟨rfl, hb, hle⟩)⟩
      rintro r w' ⟨rfl, b2⟩
      exact ⟨_, rfl, IB.nil _ _, b2⟩
    · exact ⟨_, 0, _, vals_size _ _ _, vals_one _ _ _ h1.one h2.one, fun W b => rge_rollin_good e al gr a c l2 now g2 n W (h1.below b) (h2.below b) (h3.below b) hcap hz hsz hok hb1 hb2 (by omega) _ rfl, .inr (.inr ⟨rfl, hb1, hb2, by omega, rfl, rfl⟩)⟩
theorem unDrewA {w w6 : World} {o : Obj} (hb : Below (w.alloc o).drew.heap.size (w.alloc o).drew w6) : Below w.heap.size w w6 := ((Below.refl w.heap.size w).alloc (Nat.le_refl _) o).drew.trans (hb.mono (by simp))
theorem leaf1 {wr w6 : World} {b : Nat} {v : Value} {lst : List Int} (bX : Below wr.heap.size wr w6) (i : IB b w6 v lst) (X : Array Value) (t : TypeId) : row (w6.alloc (.cells X t)) w6.heap.size = X ∧ wr.heap.size ≤ w6.heap.size ∧ Below wr.heap.size wr (w6.alloc (.cells X t)) ∧ IS (w6.alloc (.cells X t)) v lst :=
  ⟨row_new w6 X t _, bX.size, bX.alloc bX.size _, i.1.below ((Below.refl _ _).alloc (Nat.le_refl _) _)⟩
theorem heldNew {wr w6 : World} {z : Array Value} {t : TypeId} (hb : Below (wr.alloc (.cells z t)).drew.heap.size (wr.alloc (.cells z t)).drew w6) (hz : z.size = 33) : Held w6 wr.heap.size 33 :=
  held_of ((EB.new wr z t).of_block (hb.block _ (by simp)) (by have := hb.size; simpa using this)) hz (by decide)
theorem leaf2 {wr w6 : World} {v : Value} {lst : List Int} {z : Array Value} {t : TypeId} (hb : Below (wr.alloc (.cells z t)).drew.heap.size (wr.alloc (.cells z t)).drew w6) (hz : z.size = 33) (i : IB (wr.alloc (.cells z t)).drew.heap.size w6 v lst) (X : Array Value) : row (w6.setRow wr.heap.size X) wr.heap.size = X ∧ wr.heap.size ≤ wr.heap.size ∧ Below wr.heap.size wr (w6.setRow wr.heap.size X) ∧ IS (w6.setRow wr.heap.size X) v lst :=
  ⟨row_setRow (heldNew hb hz) X, Nat.le_refl _, below_setRow (unDrewA hb) (Nat.le_refl _) X, (i.keep (by simp) (fun x hx _ => setRow_block _ _ _ _ (by simp at hx; omega))).1⟩
theorem unDrew {w w6 : World} (hb : Below w.drew.heap.size w.drew w6) : Below w.heap.size w w6 := (Below.refl w.heap.size w).drew.trans hb
theorem run_appS {w : World} (ty : TypeId) (base b0 c0 : Nat) (sv : Value) (xs l : List Int) (hown : w.ownsRow base 3 1 (.slice (some ⟨b0, 0, none⟩) xs.length c0) xs.length (iv xs)) (hi : IS w sv l) (hz : xs.length + l.length ≤ 100000) (hbase : base ≤ w.heap.size) :
    ∃ b' c' w', (Builtin.append_ #[24, 24] ty #[.slice (some ⟨b0, 0, none⟩) xs.length c0, sv]).run Tryz.prog w = .ok (.slice (some ⟨b', 0, none⟩) (xs ++ l).length c') w' ∧ w'.ownsRow base 3 1 (.slice (some ⟨b', 0, none⟩) (xs ++ l).length c') (xs ++ l).length (iv (xs ++ l)) ∧ w.grownBy w' (some b0) := by
  have hi0 := hi
  obtain ⟨ad, c, rfl, hll, hcs⟩ := hi
  rcases ad with _ | ad
  · have h0 : l.length = 0 := by
      rcases Nat.eq_zero_or_pos l.length with h0 | h0
      · exact h0
      · obtain ⟨b, o, e, -⟩ := hcs h0; cases e
    obtain rfl : l = [] := List.eq_nil_of_length_eq_zero h0
    have hrun := run_app_none w base 24 3 _ Tryz.underlying24 ge_int ty _ _ c _ hown
    exact ⟨b0, c0, w, by simpa using hrun, by simpa using hown, World.grownBy.refl _ _⟩
  · obtain ⟨v', w', hr, h2, h3, h4, h5⟩ := run_append_own_at (P := Tryz.prog) w base 24 ty 3 _ (.int .i64 0) 1 8 Tryz.underlying24 ge_int ge_int0 ge_int1 ge_int2 rfl (by decide) _ xs.length (iv xs) hown ad l.length c (iv l) (by unfold iv; simp) hi0.cells (iv_one _) (by unfold maxLen; omega) (by omega) hbase
    have e1 : iv xs ++ iv l = iv (xs ++ l) := by unfold iv; rw [List.map_append]
    have e2 : xs.length + l.length = (xs ++ l).length := by rw [List.length_append]
    rw [e1, e2] at h2
    have h6 : v' ≠ .slice none 0 0 := fun e => by cases (h4.1 e).1
    rcases h2.2 with ⟨e, -⟩ | ⟨g, cap, cur, rfl, -⟩
    · exact absurd e h6
    · exact ⟨g, cap, w', hr, h2, h3⟩
theorem step_appS {ops : Array Oper} {o : Oper} {a : Act} {w : World} {K : Act → World → Prop} {Q : Exit → Act → World → Prop} {E : Prop} (hgd : o.guard = none) (s x : Operand)
    (ho : o.op = .call { callee := .builtin .append, args := #[s, x], argTypes := #[24, 24] })
    (base b0 c0 : Nat) (sv : Value) (xs l : List Int) (hs : a.eval s = .slice (some ⟨b0, 0, none⟩) xs.length c0) (hown : w.ownsRow base 3 1 (.slice (some ⟨b0, 0, none⟩) xs.length c0) xs.length (iv xs)) (hx : a.eval x = sv) (hi : IS w sv l)
    (hz : xs.length + l.length ≤ 100000) (hbase : base ≤ w.heap.size)
    (h : ∀ b' c' w', w'.ownsRow base 3 1 (.slice (some ⟨b', 0, none⟩) (xs ++ l).length c') (xs ++ l).length (iv (xs ++ l)) → w.grownBy w' (some b0) → K (a.put o.dst (.slice (some ⟨b', 0, none⟩) (xs ++ l).length c')) w') :
    if Region.wanted o (yielded ops a.tmps) = true then Oper.wp Tryz.prog o a w K Q else E := by
  have hw : Region.wanted o (yielded ops a.tmps) = true := by simp [Region.wanted, hgd]
  rw [if_pos hw]
  obtain ⟨b', c', w', hr, h2, h3⟩ := run_appS o.type base b0 c0 sv xs l hown hi hz hbase
  unfold Oper.wp execOp
  simp only [ho, resolve, invoke, builtin, Sem.run_bind, Sem.run_pure, Result.andThen_ok, List.map_toArray, List.map_cons, List.map_nil, hs, hx, hr]
  exact h b' c' w' h2 h3
theorem wp_appS {ops : Array Oper} {rest : List Oper} {o : Oper} {a : Act} {Q : Exit → Act → World → Prop} (w : World) (hgd : o.guard = none) (s x : Operand)
    (ho : o.op = .call { callee := .builtin .append, args := #[s, x], argTypes := #[24, 24] })
    (base b0 c0 : Nat) (sv : Value) (xs l : List Int) (hs : a.eval s = .slice (some ⟨b0, 0, none⟩) xs.length c0) (hown : w.ownsRow base 3 1 (.slice (some ⟨b0, 0, none⟩) xs.length c0) xs.length (iv xs)) (hx : a.eval x = sv) (hi : IS w sv l)
    (hz : xs.length + l.length ≤ 100000) (hbase : base ≤ w.heap.size)
    (h : ∀ b' c' w', w'.ownsRow base 3 1 (.slice (some ⟨b', 0, none⟩) (xs ++ l).length c') (xs ++ l).length (iv (xs ++ l)) → Below base w w' → wpList Tryz.prog ops Q rest (a.put o.dst (.slice (some ⟨b', 0, none⟩) (xs ++ l).length c')) w') :
    wpList Tryz.prog ops Q (o :: rest) a w := by
  refine wpList_plain hgd fun K hK => ?_
  obtain ⟨b', c', w', hr, h2, h3⟩ := run_appS o.type base b0 c0 sv xs l hown hi hz hbase
  unfold Oper.wp execOp
  simp only [ho, resolve, invoke, builtin, Sem.run_bind, Sem.run_pure, Result.andThen_ok, List.map_toArray, List.map_cons, List.map_nil, hs, hx, hr]
  exact hK _ _ (h b' c' w' h2 ((Below.refl base w).grown h3 hbase fun k hk => ((NW.owns hown).2.2 k (by cases hk; rfl)).1))
theorem IS.cellAt {w : World} {b o n c : Nat} {l : List Int} (h : IS w (.slice (some ⟨b, o, none⟩) n c) l) (k : Nat) (hk : k < l.length) : w.cell? ⟨b, o + k, none⟩ = some (.int .i64 l[k]) := by
  obtain ⟨b', o', e, h2⟩ := IS.at (by obtain ⟨a', c', e, r⟩ := h; injection e with e1 e2 e3; subst e2; exact ⟨a', c', by rw [e1, e3], r⟩ : IS w (.slice (some ⟨b, o, none⟩) l.length c) l) (by omega)
  injection e with e
  injection e with e1 e2
  subst e1 e2
  exact h2 k hk
theorem IS.grown {w w' : World} {b o n c : Nat} {row : Option Nat} {l : List Int} (h : IS w (.slice (some ⟨b, o, none⟩) n c) l) (G : w.grownBy w' row) (hr : some b ≠ row) : IS w' (.slice (some ⟨b, o, none⟩) n c) l := by
  obtain ⟨a', c', e, hz, hc⟩ := h
  injection e with e1 e2 e3
  subst e1 e2 e3
  refine ⟨_, _, rfl, hz, fun h0 => ?_⟩
  obtain ⟨b', o', e4, hb, p⟩ := hc h0
  injection e4 with e4
  injection e4 with e5 e6
  subst e5 e6
  exact ⟨b, o, rfl, Nat.lt_of_lt_of_le hb G.size, fun k hk => (World.cell?_of_block (a := ⟨b, o + k, none⟩) (G.block b hb hr)).trans (p k hk)⟩
theorem frozen_setRow {w : World} {g n : Nat} (h : Held w g n) (X : Array Value) (o : Nat) : w.frozen? ⟨g, o, none⟩ = (w.setRow g X).frozen? ⟨g, o, none⟩ := by
  obtain ⟨t, fr, hb⟩ := held_block h
  have h2 := setRow_heap w g _ X t fr hb
  unfold World.frozen?
  simp only [hb, h2]
theorem RI.setRow {w wx : World} {cs X : Array Value} {now : List Int} {v : Value} (h : RI w wx cs now v) (hc : cs.size = 33) : RI w (wx.setRow w.heap.size X) X now v := by
  have hH := held_of h.hE hc (by decide)
  have hs := h.hs
  have kk : ∀ x, x ≠ w.heap.size → (wx.setRow w.heap.size X).heap[x]? = wx.heap[x]? := fun x hx => setRow_block _ _ _ _ hx
  refine ⟨⟨row_setRow hH X, fun o => ?_, by simpa using h.hE.2.2⟩, h.hR.of_block (kk _ (by omega)), owns_keep h.hO (fun x hx => kk x (by have := ((NW.owns h.hO).2.2 x hx).1; omega)), by simpa using hs, below_setRow h.hw (Nat.le_refl _) X⟩
  exact frozen_setRow hH X o ▸ h.hE.2.1 o
/-- where the two new blocks lie -/
theorem owA (W : World) : (W.alloc (.cells #[] 3)).drew.ownsRow W.heap.size 3 1 (.slice (some ⟨W.heap.size, 0, none⟩) 0 0) 0 (iv []) := owns_empty rfl
theorem owAB (W : World) (o : Obj) : ((W.alloc (.cells #[] 3)).alloc o).drew.ownsRow W.heap.size 3 1 (.slice (some ⟨W.heap.size, 0, none⟩) 0 0) 0 (iv []) := (owns_empty rfl).alloc o
theorem owBA (W : World) (o : Obj) : ((W.alloc o).alloc (.cells #[] 3)).drew.ownsRow W.heap.size 3 1 (.slice (some ⟨W.heap.size + 1, 0, none⟩) 0 0) 0 (iv []) := owns_mono (owns_empty (k := W.heap.size + 1) (by simp)) (by omega)
theorem xAB (W : World) (x : Int) : IS ((W.alloc (.cells #[] 3)).alloc (.cells #[.int .i64 x] 3)).drew (.slice (some ⟨W.heap.size + 1, 0, none⟩) 1 1) [x] := (IS.one1' (w := W.alloc (.cells #[] 3)) (k := W.heap.size + 1) (by simp)).drew
theorem xBA (W : World) (x : Int) : IS ((W.alloc (.cells #[.int .i64 x] 3)).alloc (.cells #[] 3)).drew (.slice (some ⟨W.heap.size, 0, none⟩) 1 1) [x] := ((IS.one1 W x 3).below ((Below.refl _ _).alloc (Nat.le_refl _) _)).drew
theorem rge_roll_good (e : En) (al gr exv lv : Value) (l2 ex l : List Int) (g2 : List Gr) (w : World) (h1 : IS w al l2) (h2 : GS w gr g2) (h3 : IS w exv ex) (h4 : IS w lv l) (hex : ex.length ≤ 200) (hll : l.length ≤ 200) (hsz : e.name.size ≤ 60) (hok : okE e l2 g2 ex = true) :
    Calls Tryz.prog 18 #[.agg (e.vals al gr), exv, lv] w fun r w' => ∃ v, r = .returned (.tuple #[.agg (rolled e al gr (Ge.foldG e.lim e.em l e.last ex [])), v, .int .i64 (Ge.foldG e.lim e.em l e.last ex []).1]) ∧ IB w.heap.size w' v (Ge.foldG e.lim e.em l e.last ex []).2.2.1 ∧ Below w.heap.size w w' := by
  have hv := fun W (b : Below w.heap.size w W) => rge_valid e al gr exv l2 ex g2 W (h1.below b) (h2.below b) (h3.below b) hsz
  rw [hok] at hv
  obtain ⟨-, q1, q2, q3, q4, -⟩ := ok_bounds e l2 ex g2 hok
  have HOK := Lib.hid hok
  have HV := Lib.hid hv
  have oal := h1.one
  have ogr := h2.one
  have H1x := Lib.hid h1
  have H2x := Lib.hid h2
  have H3x := Lib.hid (fun W (b : Below w.heap.size w W) => h3.below b)
  have HLx := Lib.hid (fun W (b : Below w.heap.size w W) => h4.below b)
  obtain ⟨la, lc, rfl, hlz, -⟩ := h4
  have hz1 : (zlit 0 ⟨#[]⟩).size = 33 := rfl
  have hz2 : allOne (zlit 0 ⟨#[]⟩).toList = true := rfl
  clear hv hok h1 h2 h3
  go_enter Tryz.func18, Tryz.ntmps18
  go_wp2_with (first | ((go_at_call 28; (with_reducible refine (HV.out _ (by (repeat (first | exact Below.refl _ _ | assumption | (refine Below.drew ?_) | (refine Below.alloc ?_ (by first | (simp; done) | (simp; omega) | omega) _) | (refine Below.setCell ?_ (by first | (simp; done) | (simp; omega) | omega) _))))).mono ?_)); rintro _ w1 ⟨rfl, hb⟩; obtain ⟨E1, H1, z1, B1⟩ := fd1 _ _ _ _ _ _ rfl hb; clear hb) | (at_builtin; refine wp_appS _ rfl (.tmp 19) (.tmp 20) rfl (w1.heap.size) w1.heap.size 0 _ [] ex rfl (owns_empty rfl) rfl (H3x.out _ (B1.alloc (by omega) _)) (by simp; omega) (by simp) ?_; simp only [List.nil_append]; intro gA cA w5 hown5 b5; have b15 := below1' b5 (Nat.le_refl _); have RI0 := Lib.hid (show RI w w5 (e.vals al gr) ex (.slice (some ⟨gA, 0, none⟩) ex.length cA) from ⟨E1.of_block (b15.block _ (by omega)) b15.size, H1.of_block (b15.block _ (by omega)), owns_mono hown5 (by omega), by have := b15.size; omega, bt B1 b15⟩); clear b5))
  go_loopw [9, 10] (fun v i wr => ∃ (k ng nc : Nat) (m : Int) (now gone : List Int), k ≤ l.length ∧ v = .slice (some ⟨ng, 0, none⟩) now.length nc ∧ i = .int .i64 k ∧ 0 ≤ m ∧ m ≤ 9999 ∧ now.length + gone.length = ex.length + k ∧ RI w wr (({ e with last := m } : En).vals al gr) now v ∧ okE ({ e with last := m } : En) l2 g2 now = true ∧ Ge.foldG e.lim e.em l e.last ex [] = Ge.foldG e.lim e.em (l.drop k) m now gone) (fun _ i _ => l.length - (intOf i).toNat)
  case atStart => exact ⟨0, gA, cA, e.last, ex, [], Nat.zero_le _, rfl, rfl, q3, q4, rfl, RI0.out, HOK.out, rfl⟩
  case round =>
    obtain ⟨k, ng, nc, m, now, gone, hk, rfl, rfl, m0, m9, hlen, hR, hokm, he⟩ := hrel
    have HE := Lib.hid he
    have HLn := Lib.hid hlen
    have HR := Lib.hid hR
    have HOM := Lib.hid hokm
    have hBw := hR.hw
    have hnc : now.length ≤ nc := by obtain ⟨a', c', e', hnc, -⟩ := (NW.owns hR.hO).1; injection e' with _ _ e3; omega
    have hnz : now.length ≤ 400 := by omega
    clear he hlen hR hokm
    by_cases hlt : k < l.length
    · obtain ⟨lb, lo, rfl, hlc⟩ := IS.at (HLx.out _ hBw) (by omega)
      have cL := hlc k hlt
      have hr := HE.out
      rw [List.drop_eq_getElem_cons hlt, Ge.foldG] at hr
      have rE := HR.out.hE.1
      have hH := HR.out.hR
      have i0 : (0 : Int) ≤ (k : Int) := by omega
      have i1 : (k : Int) < (l.length : Int) := by omega
      clear hlc
      have ISn : ∀ W, Below wr.heap.size wr W → IS W (.slice (some ⟨ng, 0, none⟩) now.length nc) now := fun W b => owns_is (HR.out.below b).hO (by omega)
      have HRr := Lib.hid hr
      obtain ⟨X, C, lst, hX1, hX2, hc, hspec⟩ := rge_rollin_any ({ e with last := m } : En) al gr (some ⟨ng, 0, none⟩) nc l2 now g2 l[k] wr (H1x.out.below hBw) (H2x.out.below hBw) (ISn wr (Below.refl _ _)) hnc (by omega) hsz HOM.out
      have HS := Lib.hid hspec
      have HC := Lib.hid hc
      have rA : ∀ o, row (wr.alloc o) w.heap.size = ({ e with last := m } : En).vals al gr := fun o => (row_alloc (n := 32) (by rw [rE]; exact vals_size _ _ _) o).trans rE
      have cA2 : ∀ o, (wr.alloc o).cell? ⟨lb, lo + k, none⟩ = some (.int .i64 l[k]) := fun o => (World.cell?_of_block (a := ⟨lb, lo + k, none⟩) (heap_alloc_old wr o (World.block_lt_of_cell? wr _ cL))).trans cL
      clear hr hc hspec
      go_wp2_with fail
      go_cut [11, 12, 13] from 22 to 55 (fun t11 t12 t13 wx => ∃ g v2, t11 = .pointer (some ⟨g, 0, none⟩) ∧ t12 = v2 ∧ t13 = .int .i64 C ∧ row wx g = X ∧ wr.heap.size ≤ g ∧ Below wr.heap.size wr wx ∧ IS wx v2 lst)
      case first =>
        go_region_law (first | (go_simp; go_at_call 25; (with_reducible refine (HC.out _ (by (repeat (first | exact Below.refl _ _ | assumption | (refine Below.drew ?_) | (refine Below.alloc ?_ (by first | (simp; done) | (simp; omega) | omega) _) | (refine Below.setCell ?_ (by first | (simp; done) | (simp; omega) | omega) _))))).mono ?_); rintro _ w6 ⟨v2, rfl, i6, hb⟩; have LF := (by first | exact leaf2 hb rfl i6 X | exact leaf1 (unDrew hb) i6 X 27 : _ ∧ _ ∧ _ ∧ _); try have hN := heldNew hb rfl))
        all_goals
          go_wp2_with fail
          go_meet
          exact ⟨_, _, rfl, rfl, rfl, LF⟩
      case rest =>
        obtain ⟨g, v2, rfl, rfl, rfl, hgX, hgl, hBx, hIx⟩ := hcut
        obtain ⟨a2, c2, rfl, -⟩ := id hIx
        rcases HS.out with ⟨hC, hb⟩ | ⟨hC, hb, hle⟩ | ⟨hC, hb1, hb2, hlt2, hX, hl⟩
        · have hF : Ge.foldG e.lim e.em l e.last ex [] = (C, 0, [], []) := by rw [HRr.out, if_pos hb, hC]
          have HFF := Lib.hid hF
          have hq : (C != 0) = true := by rw [hC]; rfl
          have RX := HR.out.below hBx
          have hHx := RX.hR
          have hne : C ≠ 0 := by rw [hC]; decide
          clear hF hC hb
          go_wp2_with fail
          have hrow := row_setRow hHx (zlit 0 ⟨#[]⟩)
          refine bodyPost_ret (res_row_tmp2 (n := 32) rfl Tryz.underlying27 rfl (by kernel_rfl) _ _ (w.heap.size + 1) rfl (congrArg Array.size hrow)) rfl ?_
          rw [HFF.out]
          exact ⟨.slice none 0 0, congrArg (fun c => Ending.returned (.tuple #[.agg c, .slice none 0 0, .int .i64 C])) (hrow.trans (rolled_bad e al gr C 0 [] [] hne).symm), IB.nil _ _, below_setRow RX.hw (show w.heap.size ≤ w.heap.size + 1 by omega) _⟩
        · have hF : Ge.foldG e.lim e.em l e.last ex [] = (C, 0, [], []) := by rw [HRr.out, if_neg hb, if_pos hle, hC]
          have HFF := Lib.hid hF
          have hq : (C != 0) = true := by rw [hC]; rfl
          have RX := HR.out.below hBx
          have hHx := RX.hR
          have hne : C ≠ 0 := by rw [hC]; decide
          clear hF hC hb hle
          go_wp2_with fail
          have hrow := row_setRow hHx (zlit 0 ⟨#[]⟩)
          refine bodyPost_ret (res_row_tmp2 (n := 32) rfl Tryz.underlying27 rfl (by kernel_rfl) _ _ (w.heap.size + 1) rfl (congrArg Array.size hrow)) rfl ?_
          rw [HFF.out]
          exact ⟨.slice none 0 0, congrArg (fun c => Ending.returned (.tuple #[.agg c, .slice none 0 0, .int .i64 C])) (hrow.trans (rolled_bad e al gr C 0 [] [] hne).symm), IB.nil _ _, below_setRow RX.hw (show w.heap.size ≤ w.heap.size + 1 by omega) _⟩
        · have RX := HR.out.below hBx
          have RW := Lib.hid (RX.setRow (X := X) (vals_size _ _ _))
          have hHx := held_of RX.hE (vals_size _ _ _) (by decide)
          have hq : (C != 0) = false := by rw [hC]; rfl
          have hIW := Lib.hid hIx
          have hll2 : lst.length ≤ now.length := by rw [hl, List.length_take]; omega
          have HX := Lib.hid hX
          have HL2 := Lib.hid hl
          have HF := Lib.hid (show Ge.foldG e.lim e.em l e.last ex [] = Ge.foldG e.lim e.em (l.drop (k + 1)) l[k] (Ge.stays e.lim e.em now l[k]) (gone ++ Ge.goes e.lim e.em now l[k]) from by rw [HRr.out, if_neg (by omega), if_neg (by omega)])
          clear hC hb1 hX hl RX
          go_wp2_with fail
          have RW := RW.out
          have hBW := RW.hw
          generalize wc.setRow w.heap.size X = W at RW hBW ⊢
          have hcl := fun (W' : World) (b : Below w.heap.size w W') => (HLx.out W' b).cellAt k hlt
          have cW := hcl W hBW
          have cW1 : ∀ o, (W.alloc o).cell? ⟨lb, lo + k, none⟩ = some (.int .i64 l[k]) := fun o => hcl _ (hBW.alloc hBW.size o)
          have HCL := Lib.hid hcl
          clear hcl
          have hdl := HL2.out
          have hsl := Ge.stays_eq e.lim e.em now l[k] q1
          have hcl2 := Ge.cut_le e.lim e.em now l[k] q1
          have hkk : lst.length = Ge.cut e.lim e.em (now ++ [l[k]]) := by rw [hdl, List.length_take]; omega
          rw [← hkk] at hsl
          obtain ⟨st, hst⟩ : ∃ st, now.drop lst.length = st := ⟨_, rfl⟩
          have hstl : st.length = now.length - lst.length := by rw [← hst, List.length_drop]
          have HST : ∀ W', Below W.heap.size W W' → IS W' (.slice (some ⟨ng, lst.length, none⟩) (now.length - lst.length) (nc - lst.length)) st := fun W' b => by
            have := (owns_is (RW.below b).hO (by omega)).drop lst.length
            rw [Nat.zero_add, hst] at this; exact this
          have HST0 : nc = lst.length → ∀ W', IS W' (.slice (some ⟨ng, 0, none⟩) (now.length - lst.length) (nc - lst.length)) st := fun e W' => by
            obtain rfl : st = [] := List.eq_nil_of_length_eq_zero (by omega)
            rw [show now.length - lst.length = 0 by omega]
            exact ⟨_, _, rfl, by simp, fun h => by simp at h⟩
          have j0 : (lst.length : Int) ≤ (nc : Int) := by omega
          have j1 : (lst.length : Int) ≤ (now.length : Int) := by omega
          have hz9 : st.length ≤ 500 := by omega
          have HSL := Lib.hid hsl
          have HST' := Lib.hid HST
          have HST0' := Lib.hid HST0
          have HSTq := Lib.hid hst
          have HL2q := Lib.hid (show lst = now.take lst.length by rw [hkk]; exact hdl)
          have HSTL := Lib.hid hstl
          clear hdl hsl hcl2 hkk hst hstl HST HST0
          by_cases hcc : nc = lst.length
          · subst hcc
            have HSTz : ∀ W', IS W' (.slice (some ⟨ng, 0, none⟩) 0 0) st := fun W' => by have := HST0'.out rfl W'; rw [Nat.sub_self, show now.length - lst.length = 0 by omega] at this; exact this
            go_region_law (first
              | (refine step_appS rfl (.tmp 44) (.tmp 48) rfl W.heap.size W.heap.size 0 (.slice (some ⟨ng, 0, none⟩) 0 0) [] st (by simp [Act.eval]) (owA W) (by simp [Act.eval]) (HSTz _) (by simp; omega) (by first | (simp; done) | (simp; omega)) ?_; simp only [List.nil_append]; intro g7 c7 w7 hown7 G7; have b7 := (((Below.refl W.heap.size W).alloc (Nat.le_refl _) _).drew.grown G7 (by simp) (fun x hx => by cases hx; exact Nat.le_refl _) : Below W.heap.size W w7); have cc7 := HCL.out _ (bt hBW b7); have cc8 := fun o => HCL.out _ ((bt hBW b7).alloc (bt hBW b7).size o))
              | (refine step_appS rfl (.tmp 44) (.tmp 48) rfl W.heap.size W.heap.size 0 (.slice (some ⟨ng, 0, none⟩) 0 0) [] st (by simp [Act.eval]) (owAB W _) (by simp [Act.eval]) (HSTz _) (by simp; omega) (by first | (simp; done) | (simp; omega)) ?_; simp only [List.nil_append]; intro g7 c7 w7 hown7 G7; have b7 := ((((Below.refl W.heap.size W).alloc (Nat.le_refl _) _).alloc (by simp) _).drew.grown G7 (by simp; omega) (fun x hx => by cases hx; exact Nat.le_refl _) : Below W.heap.size W w7); have cc7 := HCL.out _ (bt hBW b7); have cc8 := fun o => HCL.out _ ((bt hBW b7).alloc (bt hBW b7).size o); have x7 := IS.grown (xAB W l[k]) G7 (by simp))
              | (refine step_appS rfl (.tmp 44) (.tmp 48) rfl W.heap.size (W.heap.size + 1) 0 (.slice (some ⟨ng, 0, none⟩) 0 0) [] st (by simp [Act.eval]) (owBA W _) (by simp [Act.eval]) (HSTz _) (by simp; omega) (by first | (simp; done) | (simp; omega)) ?_; simp only [List.nil_append]; intro g7 c7 w7 hown7 G7; have b7 := ((((Below.refl W.heap.size W).alloc (Nat.le_refl _) _).alloc (by simp) _).drew.grown G7 (by simp; omega) (fun x hx => by cases hx; omega) : Below W.heap.size W w7); have cc7 := HCL.out _ (bt hBW b7); have cc8 := fun o => HCL.out _ ((bt hBW b7).alloc (bt hBW b7).size o); have x7 := IS.grown (xBA W l[k]) G7 (by simp))
              | (refine step_appS rfl (.tmp 49) (.tmp 54) rfl W.heap.size g7 c7 (.slice (some ⟨w7.heap.size, 0, none⟩) 1 1) st [l[k]] (by simp [Act.eval]) (hown7.alloc _) (by simp [Act.eval]) (IS.one1 w7 l[k] _) (by simp; omega) (by have := b7.size; first | exact this | (simp; omega)) ?_; intro g9 c9 w9 hown9 G9; have bF := ((b7.alloc b7.size _).grown G9 (by have := b7.size; first | exact this | (simp; omega)) (fun x hx => by cases hx; exact ((NW.owns hown7).2.2 g7 rfl).1) : Below W.heap.size W w9))
              | (refine step_appS rfl (.tmp 49) (.tmp 54) rfl W.heap.size g7 c7 (.slice (some ⟨W.heap.size + 1, 0, none⟩) 1 1) st [l[k]] (by simp [Act.eval]) (hown7) (by simp [Act.eval]) (x7) (by simp; omega) (by have := b7.size; first | exact this | (simp; omega)) ?_; intro g9 c9 w9 hown9 G9; have bF := (b7.grown G9 (by have := b7.size; first | exact this | (simp; omega)) (fun x hx => by cases hx; exact ((NW.owns hown7).2.2 g7 rfl).1) : Below W.heap.size W w9))
              | (refine step_appS rfl (.tmp 49) (.tmp 54) rfl W.heap.size g7 c7 (.slice (some ⟨W.heap.size, 0, none⟩) 1 1) st [l[k]] (by simp [Act.eval]) (hown7) (by simp [Act.eval]) (x7) (by simp; omega) (by have := b7.size; first | exact this | (simp; omega)) ?_; intro g9 c9 w9 hown9 G9; have bF := (b7.grown G9 (by have := b7.size; first | exact this | (simp; omega)) (fun x hx => by cases hx; exact ((NW.owns hown7).2.2 g7 rfl).1) : Below W.heap.size W w9)))
            all_goals
              go_wp2_with fail
              go_roundw
              case rel =>
                have RF := RW.below bF
                rw [show X = ({ e with last := l[k] } : En).vals al gr from HX.out] at RF
                have hs2 : st ++ [l[k]] = Ge.stays e.lim e.em now l[k] := by rw [HSL.out.1, HSTq.out]
                have hg2 : lst = Ge.goes e.lim e.em now l[k] := HL2q.out.trans HSL.out.2.symm
                refine ⟨k + 1, g9, c9, l[k], st ++ [l[k]], gone ++ lst, by omega, by simp, by go_num, by omega, hb2, ?_, ⟨RF.hE, RF.hR, by have h9 := owns_mono hown9 RW.hs; rw [show (st ++ [l[k]]).length = st.length + 1 by simp] at h9 ⊢; exact h9, RF.hs, RF.hw⟩, ?_, ?_⟩
                · have := HLn.out
                  have := HSTL.out
                  simp only [List.length_append, List.length_singleton]
                  omega
                · rw [hs2]
                  exact ok_step e l2 g2 now m l[k] HOM.out hlt2 hb2
                · rw [hs2, hg2]
                  exact HF.out
              case measure => simp [intOf]; omega
          · go_region_law (first
              | (refine step_appS rfl (.tmp 44) (.tmp 48) rfl W.heap.size W.heap.size 0 (.slice (some ⟨ng, lst.length, none⟩) (now.length - lst.length) (nc - lst.length)) [] st (by simp [Act.eval]) (owA W) (by simp [Act.eval]) (HST'.out _ (by (repeat (first | exact Below.refl _ _ | assumption | (refine Below.drew ?_) | (refine Below.alloc ?_ (by first | (simp; done) | (simp; omega) | omega) _) | (refine Below.setCell ?_ (by first | (simp; done) | (simp; omega) | omega) _))))) (by simp; omega) (by first | (simp; done) | (simp; omega)) ?_; simp only [List.nil_append]; intro g7 c7 w7 hown7 G7; have b7 := (((Below.refl W.heap.size W).alloc (Nat.le_refl _) _).drew.grown G7 (by simp) (fun x hx => by cases hx; exact Nat.le_refl _) : Below W.heap.size W w7); have cc7 := HCL.out _ (bt hBW b7); have cc8 := fun o => HCL.out _ ((bt hBW b7).alloc (bt hBW b7).size o))
              | (refine step_appS rfl (.tmp 44) (.tmp 48) rfl W.heap.size W.heap.size 0 (.slice (some ⟨ng, lst.length, none⟩) (now.length - lst.length) (nc - lst.length)) [] st (by simp [Act.eval]) (owAB W _) (by simp [Act.eval]) (HST'.out _ (by (repeat (first | exact Below.refl _ _ | assumption | (refine Below.drew ?_) | (refine Below.alloc ?_ (by first | (simp; done) | (simp; omega) | omega) _) | (refine Below.setCell ?_ (by first | (simp; done) | (simp; omega) | omega) _))))) (by simp; omega) (by first | (simp; done) | (simp; omega)) ?_; simp only [List.nil_append]; intro g7 c7 w7 hown7 G7; have b7 := ((((Below.refl W.heap.size W).alloc (Nat.le_refl _) _).alloc (by simp) _).drew.grown G7 (by simp; omega) (fun x hx => by cases hx; exact Nat.le_refl _) : Below W.heap.size W w7); have cc7 := HCL.out _ (bt hBW b7); have cc8 := fun o => HCL.out _ ((bt hBW b7).alloc (bt hBW b7).size o); have x7 := IS.grown (xAB W l[k]) G7 (by simp))
              | (refine step_appS rfl (.tmp 44) (.tmp 48) rfl W.heap.size (W.heap.size + 1) 0 (.slice (some ⟨ng, lst.length, none⟩) (now.length - lst.length) (nc - lst.length)) [] st (by simp [Act.eval]) (owBA W _) (by simp [Act.eval]) (HST'.out _ (by (repeat (first | exact Below.refl _ _ | assumption | (refine Below.drew ?_) | (refine Below.alloc ?_ (by first | (simp; done) | (simp; omega) | omega) _) | (refine Below.setCell ?_ (by first | (simp; done) | (simp; omega) | omega) _))))) (by simp; omega) (by first | (simp; done) | (simp; omega)) ?_; simp only [List.nil_append]; intro g7 c7 w7 hown7 G7; have b7 := ((((Below.refl W.heap.size W).alloc (Nat.le_refl _) _).alloc (by simp) _).drew.grown G7 (by simp; omega) (fun x hx => by cases hx; omega) : Below W.heap.size W w7); have cc7 := HCL.out _ (bt hBW b7); have cc8 := fun o => HCL.out _ ((bt hBW b7).alloc (bt hBW b7).size o); have x7 := IS.grown (xBA W l[k]) G7 (by simp))
              | (refine step_appS rfl (.tmp 49) (.tmp 54) rfl W.heap.size g7 c7 (.slice (some ⟨w7.heap.size, 0, none⟩) 1 1) st [l[k]] (by simp [Act.eval]) (hown7.alloc _) (by simp [Act.eval]) (IS.one1 w7 l[k] _) (by simp; omega) (by have := b7.size; first | exact this | (simp; omega)) ?_; intro g9 c9 w9 hown9 G9; have bF := ((b7.alloc b7.size _).grown G9 (by have := b7.size; first | exact this | (simp; omega)) (fun x hx => by cases hx; exact ((NW.owns hown7).2.2 g7 rfl).1) : Below W.heap.size W w9))
              | (refine step_appS rfl (.tmp 49) (.tmp 54) rfl W.heap.size g7 c7 (.slice (some ⟨W.heap.size + 1, 0, none⟩) 1 1) st [l[k]] (by simp [Act.eval]) (hown7) (by simp [Act.eval]) (x7) (by simp; omega) (by have := b7.size; first | exact this | (simp; omega)) ?_; intro g9 c9 w9 hown9 G9; have bF := (b7.grown G9 (by have := b7.size; first | exact this | (simp; omega)) (fun x hx => by cases hx; exact ((NW.owns hown7).2.2 g7 rfl).1) : Below W.heap.size W w9))
              | (refine step_appS rfl (.tmp 49) (.tmp 54) rfl W.heap.size g7 c7 (.slice (some ⟨W.heap.size, 0, none⟩) 1 1) st [l[k]] (by simp [Act.eval]) (hown7) (by simp [Act.eval]) (x7) (by simp; omega) (by have := b7.size; first | exact this | (simp; omega)) ?_; intro g9 c9 w9 hown9 G9; have bF := (b7.grown G9 (by have := b7.size; first | exact this | (simp; omega)) (fun x hx => by cases hx; exact ((NW.owns hown7).2.2 g7 rfl).1) : Below W.heap.size W w9)))
            all_goals
              go_wp2_with fail
              go_roundw
              case rel =>
                have RF := RW.below bF
                rw [show X = ({ e with last := l[k] } : En).vals al gr from HX.out] at RF
                have hs2 : st ++ [l[k]] = Ge.stays e.lim e.em now l[k] := by rw [HSL.out.1, HSTq.out]
                have hg2 : lst = Ge.goes e.lim e.em now l[k] := HL2q.out.trans HSL.out.2.symm
                refine ⟨k + 1, g9, c9, l[k], st ++ [l[k]], gone ++ lst, by omega, by simp, by go_num, by omega, hb2, ?_, ⟨RF.hE, RF.hR, by have h9 := owns_mono hown9 RW.hs; rw [show (st ++ [l[k]]).length = st.length + 1 by simp] at h9 ⊢; exact h9, RF.hs, RF.hw⟩, ?_, ?_⟩
                · have := HLn.out
                  have := HSTL.out
                  simp only [List.length_append, List.length_singleton]
                  omega
                · rw [hs2]
                  exact ok_step e l2 g2 now m l[k] HOM.out hlt2 hb2
                · rw [hs2, hg2]
                  exact HF.out
              case measure => simp [intOf]; omega
    · obtain rfl : k = l.length := by omega
      have hF : Ge.foldG e.lim e.em l e.last ex [] = (0, m, now, gone) := by rw [HE.out, List.drop_eq_nil_of_le (Nat.le_refl _), Ge.foldG]
      have HF := Lib.hid hF
      have hH := HR.out.hR
      have rE := HR.out.hE.1
      have hs2 := HR.out.hs
      have ho : allOne (({ e with last := m } : En).vals al gr).toList = true := vals_one _ _ _ oal ogr
      clear hF
      go_wp2_with fail
      have hrow : row (wr.setRow (w.heap.size + 1) (({ e with last := m } : En).vals al gr)) (w.heap.size + 1) = ({ e with last := m } : En).vals al gr := row_setRow hH _
      refine bodyPost_ret (res_row_tmp2 (n := 32) rfl Tryz.underlying27 rfl (by kernel_rfl) _ _ (w.heap.size + 1) rfl ((congrArg Array.size hrow).trans (vals_size _ _ _))) rfl ?_
      rw [HF.out, hrow]
      exact ⟨.slice (some ⟨ng, 0, none⟩) now.length nc, congrArg (fun c => Ending.returned (.tuple #[.agg c, .slice (some ⟨ng, 0, none⟩) now.length nc, .int .i64 0])) (rolled_good e al gr m now gone).symm, fin_app HR.out.hO (by omega) (by omega) (by omega) _, below_setRow HR.out.hw (show w.heap.size ≤ w.heap.size + 1 by omega) _⟩
theorem rge_roll (e : En) (al gr exv lv : Value) (l2 ex l : List Int) (g2 : List Gr) (w : World) (h1 : IS w al l2) (h2 : GS w gr g2) (h3 : IS w exv ex) (h4 : IS w lv l) (hex : ex.length ≤ 200) (hll : l.length ≤ 200) (hsz : e.name.size ≤ 60) :
    Calls Tryz.prog 18 #[.agg (e.vals al gr), exv, lv] w fun r w' => ∃ v, r = .returned (.tuple #[.agg (rolled e al gr (foldA e l2 g2 ex l)), v, .int .i64 (foldA e l2 g2 ex l).1]) ∧ IB w.heap.size w' v (foldA e l2 g2 ex l).2.2.1 ∧ Below w.heap.size w w' := by
  unfold foldA
  cases hok : okE e l2 g2 ex
  · refine (rge_roll_bad e al gr exv lv l2 ex g2 w h1 h2 h3 hsz hok).mono ?_
    rintro r w' ⟨rfl, B⟩
    exact ⟨_, congrArg (fun c => Ending.returned (.tuple #[.agg c, .slice none 0 0, .int .i64 1])) (rolled_bad e al gr 1 0 [] [] (by decide)).symm, IB.nil _ _, B⟩
  · exact rge_roll_good e al gr exv lv l2 ex l g2 w h1 h2 h3 h4 hex hll hsz hok
end Go.Proofs.YtbkbgkicpfbjfaaGreatDoor
