/- Several texts in one: LaGs CardGs. -/
import Derived.Test.YtbkbgkicpfbjfaaGreatDoorGeU
import Derived.Test.YtbkbgkicpfbjfaaGreatDoorRsG
import Derived.Test.YtbkbgkicpfbjfaaGreatDoorFrameEn
section
/- The walk of the law GenerationSeveral. -/
namespace Go.Proofs.YtbkbgkicpfbjfaaGreatDoor
open Go.RowKit
set_option maxHeartbeats 1600000
set_option maxRecDepth 8000
theorem sameE_refl (e : En) (l : List Int) (g : List Gr) : sameE e e l l g g = true := by
  unfold sameE datEq
  simp
theorem rolled_form (e : En) (al gr : Value) (l2 : List Int) (g2 : List Gr) (F : Int × Int × List Int × List Int) (w : World) (h1 : IS w al l2) (h2 : GS w gr g2) :
    ∃ (f : En) (al' gr' : Value) (l' : List Int) (g' : List Gr), rolled e al gr F = f.vals al' gr' ∧ IS w al' l' ∧ GS w gr' g' := by
  unfold rolled
  split
  · exact ⟨_, _, _, _, _, rfl, h1, h2⟩
  · exact ⟨_, _, _, _, _, rfl, IS.nil w, GS.nil w⟩
attribute [local go_sem ↓] ldEnt stEnt
attribute [local go_sem] isHead_mk headOf_mk cellsOfV_mk isAggV_mk row_new row_new2 row_new2' row_drew row_drewN vals_size allOne_nil allOne_cons one_int one_bool one_string one_pointer one_slice
theorem law_sev_few (e : En) (a1 a2 a3 a4 : Option Addr) (n1 c1 n2 c2 n3 c3 n4 c4 : Nat) (w : World) (hm : MaxL w) (hf : (decide (e.name.size ≤ 60) && decide (n2 ≤ 12) && decide (n1 ≤ 8) && decide (n3 ≤ 80) && decide (n4 ≤ 20)) = false) :
    Calls Tryz.prog 3 #[.agg (e.vals (.slice a1 n1 c1) (.slice a2 n2 c2)), .slice a3 n3 c3, .slice a4 n4 c4] w fun r w' => r = .returned (.bool true) ∧ Below w.heap.size w w' := by
  go_enter Tryz.func3, Tryz.ntmps3
  go_wp2_with (first | (go_at_call 15; (with_reducible refine (aw38 _ (hm.below (by (repeat (first | exact Below.refl _ _ | assumption | (refine Below.drew ?_) | (refine Below.alloc ?_ (by first | (simp; done) | (simp; omega) | omega) _) | (refine Below.setCell ?_ (by first | (simp; done) | (simp; omega) | omega) _)))))).mono ?_); rintro _ w1 ⟨rfl, hb⟩; have R := row_below hb (row_new w _ _ _) (by simp [vals_size]); have B := below1 hb; clear hb) | (go_at_call 16; (with_reducible refine (few38 e _ _ _ _ _ _ _ _ _ _ _ _ _).mono ?_); rw [hf]; rintro _ w2 ⟨rfl, hb⟩; have B := bt B hb; clear hb))
  go_ret
  exact ⟨rfl, B⟩
theorem law_sev_good (e : En) (a1 a2 : Option Addr) (n1 c1 n2 c2 : Nat) (exv lv : Value) (l2 ex l : List Int) (g2 : List Gr) (w : World) (hm : MaxL w) (h1 : IS w (.slice a1 n1 c1) l2) (h2 : GS w (.slice a2 n2 c2) g2) (h3 : IS w exv ex) (h4 : IS w lv l)
    (hf : (decide (e.name.size ≤ 60) && decide (n2 ≤ 12) && decide (n1 ≤ 8) && decide (ex.length ≤ 80) && decide (l.length ≤ 20)) = true) :
    Calls Tryz.prog 3 #[.agg (e.vals (.slice a1 n1 c1) (.slice a2 n2 c2)), exv, lv] w fun r w' => r = .returned (.bool true) ∧ Below w.heap.size w w' := by
  have hf' := hf
  simp only [Bool.and_eq_true, decide_eq_true_eq] at hf'
  obtain ⟨⟨⟨⟨hsz, -⟩, -⟩, hex⟩, hll⟩ := hf'
  obtain ⟨a3, c3, rfl, -⟩ := id h3
  obtain ⟨a4, c4, rfl, -⟩ := id h4
  have hr1 := fun W (b : Below w.heap.size w W) => ge_roll e (.slice a1 n1 c1) (.slice a2 n2 c2) _ _ l2 ex l g2 W (hm.below b) (h1.below b) (h2.below b) (h3.below b) (h4.below b) (by omega) (by omega)
  have hr2 := fun W (b : Below w.heap.size w W) => rge_roll e (.slice a1 n1 c1) (.slice a2 n2 c2) _ _ l2 ex l g2 W (h1.below b) (h2.below b) (h3.below b) (h4.below b) (by omega) (by omega) hsz
  have ho := rolled_one e (.slice a1 n1 c1) (.slice a2 n2 c2) (foldA e l2 g2 ex l) h1.one h2.one
  have hx := rolled_size e (.slice a1 n1 c1) (.slice a2 n2 c2) (foldA e l2 g2 ex l)
  obtain ⟨f, al', gr', l', g', hform, i1, i2⟩ := rolled_form e (.slice a1 n1 c1) (.slice a2 n2 c2) l2 g2 (foldA e l2 g2 ex l) w h1 h2
  have hs := fun W (b : Below w.heap.size w W) => rsame f f al' gr' al' gr' l' l' g' g' W (i1.below b) (i1.below b) (i2.below b) (i2.below b)
  rw [← hform, sameE_refl] at hs
  generalize rolled e (.slice a1 n1 c1) (.slice a2 n2 c2) (foldA e l2 g2 ex l) = X at hr1 hr2 ho hx hs
  generalize (foldA e l2 g2 ex l).1 = E at hr1 hr2
  generalize (foldA e l2 g2 ex l).2.2.1 = st at hr1 hr2
  have q1 : (E == E) = true := by simp
  have H1 := Lib.hid hr1
  have H2 := Lib.hid hr2
  have HS := Lib.hid hs
  clear hr1 hr2 h1 h2 h3 h4 hs i1 i2 hform hex hll
  go_enter Tryz.func3, Tryz.ntmps3
  go_wp2_with (first
    | (go_at_call 15; (with_reducible refine (aw38 _ (hm.below (by (repeat (first | exact Below.refl _ _ | assumption | (refine Below.drew ?_) | (refine Below.alloc ?_ (by first | (simp; done) | (simp; omega) | omega) _) | (refine Below.setCell ?_ (by first | (simp; done) | (simp; omega) | omega) _)))))).mono ?_); rintro _ w1 ⟨rfl, hb⟩; have R := row_below hb (row_new w _ _ _) (by simp [vals_size]); have B := below1 hb; clear hb)
    | (go_at_call 16; (with_reducible refine (few38 e _ _ _ _ _ _ _ _ _ _ _ _ _).mono ?_); rw [hf]; rintro _ w2 ⟨rfl, hb⟩; have R := row_below hb R (by simp [vals_size]); have B := bt B hb; clear hb)
    | (go_at_call 17; (with_reducible refine (H1.out _ B).mono ?_); rintro _ w3 ⟨v1, rfl, ⟨j1, -⟩, hb⟩; have R := row_below hb R (by simp [vals_size]); have R5 := row_keep R (by simp [vals_size]) (Below.refl _ _) (.cells X 27); have B := bt B hb; have BA := B.alloc B.size (.cells X 27); clear hb)
    | (go_at_call 18; (with_reducible refine (H2.out _ BA).mono ?_); rintro _ w4 ⟨v2, rfl, ⟨j2, -⟩, hb⟩; have k1 := j1.below (below1 hb); have RX := row_below hb (row_new w3 X 27 (0, 0)) (by rw [hx]; decide); have B := bt BA hb; have RX2 := row_keep RX (by rw [hx]; decide) (Below.refl _ _) (.cells X 27); have BA := B.alloc B.size (.cells X 27); have kk1 := k1.below ((Below.refl _ _).alloc (Nat.le_refl _) (.cells X 27)); have kk2 := j2.below ((Below.refl _ _).alloc (Nat.le_refl _) (.cells X 27)); clear hb)
    | (go_at_call 19; (with_reducible refine (HS.out _ BA).mono ?_); rintro _ w5 ⟨rfl, hb⟩; have k3 := kk1.below hb; have k4 := kk2.below hb; have B := bt BA hb; clear hb)
    | (go_at_call 20; (with_reducible refine (rints _ _ st st _ k3 k4).mono ?_); rw [decide_eq_true rfl]; rintro _ w6 ⟨rfl, hb⟩; have B := bt B hb; clear hb))
  go_ret
  exact ⟨rfl, B⟩
theorem law_sev_any (e : En) (a1 a2 a3 a4 : Option Addr) (n1 c1 n2 c2 n3 c3 n4 c4 : Nat) (w : World) (hm : MaxL w) (o1 : n1 ≤ 1000 → ∃ l : List Int, l.length = n1 ∧ IS w (.slice a1 n1 c1) l) (o2 : n2 ≤ 1000 → ∃ l : List Gr, l.length = n2 ∧ GS w (.slice a2 n2 c2) l) (o3 : n3 ≤ 1000 → ∃ l : List Int, l.length = n3 ∧ IS w (.slice a3 n3 c3) l) (o4 : n4 ≤ 1000 → ∃ l : List Int, l.length = n4 ∧ IS w (.slice a4 n4 c4) l) :
    Calls Tryz.prog 3 #[.agg (e.vals (.slice a1 n1 c1) (.slice a2 n2 c2)), .slice a3 n3 c3, .slice a4 n4 c4] w fun r w' => r = .returned (.bool true) ∧ Below w.heap.size w w' := by
  cases hf : (decide (e.name.size ≤ 60) && decide (n2 ≤ 12) && decide (n1 ≤ 8) && decide (n3 ≤ 80) && decide (n4 ≤ 20))
  · exact law_sev_few e a1 a2 a3 a4 n1 c1 n2 c2 n3 c3 n4 c4 w hm hf
  · have hf' := hf
    simp only [Bool.and_eq_true, decide_eq_true_eq] at hf'
    obtain ⟨l2, rfl, h1⟩ := o1 (by omega)
    obtain ⟨g2, rfl, h2⟩ := o2 (by omega)
    obtain ⟨ex, rfl, h3⟩ := o3 (by omega)
    obtain ⟨l, rfl, h4⟩ := o4 (by omega)
    exact law_sev_good e a1 a2 _ c1 _ c2 _ _ l2 ex l g2 w hm h1 h2 h3 h4 hf
end Go.Proofs.YtbkbgkicpfbjfaaGreatDoor

end
section
/- The statement GenerationSeveral: the walk, the frame of the row, the card. Conditions: none beyond the statement. -/
namespace Go.Proofs.YtbkbgkicpfbjfaaGreatDoor.generationSeveral
open Go.ChangeShapes Go.WideShapes Go.ChangeAt Go.RowKit Go.Proofs.YtbkbgkicpfbjfaaGreatDoor
open Go.ChangeMaps (open_string)

set_option maxRecDepth 100000 in
theorem contract (H : Type) (enc : TypeId × Value → H) (W : World) (base : Nat) (args : Array Value) (ds gs : List (DataW H)) (before : List MemPlace)
    (hval : ∀ (j : Nat) t v, Tryz.f3.params[j]? = some t → args[j]? = some v → Value.okWide Tryz.prog W .any base t v)
    (hW : DataW.Whole enc Tryz.prog Tryz.f3.params.toList Rows.generationSeveralSpec.vars false W args.toList ds gs before) (_hL : laidMetH Tryz.prog Rows.generationSeveralRow.laid W) (hS : W.ShapedOpen Tryz.prog) :
    Calls Tryz.prog 3 args W fun e W' => ∃ v, e = .returned v ∧ Rows.generationSeveralSpec.post enc Tryz.prog Tryz.f3 false true false false W args v W' := by
  have hW' := hW
  have hlt : ∀ x ∈ before, x.block < W.heap.size := fun x hx => by simpa using hW'.lt x hx
  obtain ⟨p, q, hA0, hV, rfl, hfz, hnd⟩ := hW
  have hA : DataW.TrodAll enc Tryz.prog W 0 (fun _ => true) true Tryz.f3.params.toList args.toList ds p := hA0
  have hK := hA
  rw [Tryz.params3] at hA hval
  obtain ⟨v0, vs0, d0, ds0, p0, q0, hargs, rfl, rfl, h0, r0⟩ := trodAll_cons hA
  obtain ⟨v1, vs1, d1, ds1, p1, q1, rfl, rfl, rfl, h1, r1⟩ := trodAll_cons r0
  obtain ⟨v2, vs2, d2, ds2, p2, q2, rfl, rfl, rfl, h2, r2⟩ := trodAll_cons r1
  obtain ⟨rfl, rfl, rfl⟩ := trodAll_nil r2
  obtain rfl : args = #[v0, v1, v2] := by cases args; simp_all
  obtain ⟨rfl, rfl⟩ := trodVars_none hV
  obtain ⟨e0, a0, n0, c0, x0, m0, k0, rfl, o0, u0⟩ := open_en (hval 0 27 v0 rfl rfl) h0
  obtain ⟨a1, n1, c1, rfl, o1⟩ := open_islice' (hval 1 24 v1 rfl rfl) h1
  obtain ⟨a2, n2, c2, rfl, o2⟩ := open_islice' (hval 2 24 v2 rfl rfl) h2
  refine (law_sev_any e0 a0 x0 a1 a2 n0 c0 m0 k0 n1 c1 n2 c2 W (max_of hS) o0 u0 o1 o2).mono fun e W' ⟨he, hb⟩ => ?_
  subst he
  exact ⟨_, rfl, _, _, _, [], _, [], hW', trodAll_cons_mk (shut_bool Tryz.underlying4 _) trodAll_mk0, args_below hb (by rw [Tryz.params3]; kernel_rfl) hK (fun x hx => hlt x (by simpa using hx)), rfl, hb.frame _, fun h => by cases h⟩

def zEnt : Value := .agg #[.int .i64 0, .string ⟨#[]⟩, .int .i64 0, .int .i64 0, .int .i64 0, .int .i64 0, .int .i64 0, .int .i64 0, .int .i64 0, .int .i64 0, .int .i64 0, .int .i64 0, .int .i64 0, .int .i64 0, .int .i64 0, .int .i64 0, .bool false, .int .i64 0, .string ⟨#[]⟩, .string ⟨#[]⟩, .int .i64 0, .int .i64 0, .bool false, .slice none 0 0, .int .i64 0, .int .i64 0, .int .i64 0, .bool false, .string ⟨#[]⟩, .string ⟨#[]⟩, .int .i64 0, .int .i64 0, .slice none 0 0]
def dEnt {H : Type} : DataW H := .agg [.lit (.int .i64 0), .lit (.string []), .agg [.lit (.int .i64 0), .lit (.int .i64 0), .lit (.int .i64 0), .lit (.int .i64 0), .lit (.int .i64 0), .lit (.int .i64 0), .lit (.int .i64 0), .lit (.int .i64 0), .lit (.int .i64 0), .lit (.int .i64 0), .lit (.int .i64 0), .lit (.int .i64 0), .lit (.int .i64 0), .lit (.int .i64 0), .lit (.bool false), .lit (.int .i64 0), .lit (.string []), .lit (.string []), .lit (.int .i64 0), .lit (.int .i64 0), .lit (.bool false)], .nil, .lit (.int .i64 0), .lit (.int .i64 0), .lit (.int .i64 0), .lit (.bool false), .lit (.string []), .lit (.string []), .lit (.int .i64 0), .lit (.int .i64 0), .nil]

theorem laid_met (os : Os) : laidMetH Tryz.prog Rows.generationSeveralRow.laid ((World.laidAll Tryz.prog os Rows.generationSeveralRow.laid).forCall (fun _ _ => 0) ⟨#[], #[(zEnt : Value), (.slice none 0 0 : Value), (.slice none 0 0 : Value)], []⟩).memory := by
  rw [MakeChecks.laidMetH_plain _ _ _ (by kernel_rfl)]; exact laidMet_laidAll _ (by kernel_rfl) (by kernel_rfl)
theorem reads (os : Os) {H : Type} (enc : TypeId × Value → H) : ∃ places, DataW.whole enc Tryz.prog ((World.laidAll Tryz.prog os Rows.generationSeveralRow.laid).forCall (fun _ _ => 0) ⟨#[], #[(zEnt : Value), (.slice none 0 0 : Value), (.slice none 0 0 : Value)], []⟩).memory Tryz.f3.params.toList Rows.generationSeveralSpec.vars false #[(zEnt : Value), (.slice none 0 0 : Value), (.slice none 0 0 : Value)].toList 8 = some ([dEnt, .nil, .nil], [], places) :=
  ⟨[], by kernel_rfl⟩

set_option maxRecDepth 100000 in
theorem lifted (os : Os) (started : os.Started) (H : Type) (enc : TypeId × Value → H) (F : Stop.Interp) :
    ReturnsInHanded {} Tryz.checked os 3 .any ((OpenSpec.ofChange Rows.generationSeveralSpec).preRow enc Tryz.prog Tryz.f3 Rows.generationSeveralRow.domain false Rows.generationSeveralRow.laid) (((OpenSpec.ofChange Rows.generationSeveralSpec).at F).post enc Tryz.prog Tryz.f3 false true false false) := by
  obtain ⟨places, hx⟩ := reads os enc
  refine returnsInHanded_of_row (C := Tryz.checked) (s := OpenSpec.ofChange Rows.generationSeveralSpec) ownk started (by kernel_rfl) Tryz.func3
    (witness_lay (enc := enc) (C := Tryz.checked) false #[(zEnt : Value), (.slice none 0 0 : Value), (.slice none 0 0 : Value)] (World.shaped_of_ZipB (by kernel_rfl) (by kernel_rfl)) (by kernel_rfl)
      (OpenSpec.preRow_of_cond 8 hx (by kernel_rfl) (fun k hk => by cases hk) (by kernel_rfl) (laid_met os))) ?_
  intro W base args ds gs before hval hW _ _ _ hL hS _
  exact contract H enc W base args ds gs before hval hW hL hS

theorem said : Rows.GenerationSeveralSaid :=
  OpenClaim.holds_of_cond 3 Tryz.f3 rfl rfl rfl rfl rfl rfl rfl ⟨rfl, rfl, rfl, rfl, rfl⟩ rfl rfl rfl rfl rfl (by kernel_rfl) Tryz.func3 (by kernel_rfl)
    (of_decide_eq_true (by kernel_rfl)) (by unfold Func.isWrapper; first | (rw [if_pos (by decide +kernel)]; kernel_rfl) | (rw [if_neg (by decide +kernel)]; exact ⟨rfl, rfl⟩))
    (fun os started H enc _ F => by rw [OpenClaim.pre_eq_preRow]; exact lifted os started H enc F)

theorem plain (f : FuncId) (fn : Func) (hf : Tryz.pinned.checked.prog.funcNamed Rows.generationSeveralRow.func = some f) (hfn : Tryz.pinned.checked.prog.funcs[f]? = some fn) :
    false = Tryz.pinned.checked.prog.looks [] ∧ ∀ (j : Nat) t, fn.params[j]? = some t → Tryz.pinned.checked.prog.wantsStandIn t = false := by
  obtain rfl : f = 3 := Option.some.inj ((show Tryz.prog.funcNamed Rows.generationSeveralRow.func = some 3 by kernel_rfl).symm.trans hf) |>.symm
  obtain rfl : fn = Tryz.f3 := (Option.some.inj (Tryz.func3.symm.trans hfn)).symm
  refine ⟨by kernel_rfl, fun j t ht => ?_⟩
  rw [Tryz.params3] at ht
  have hm := Array.mem_of_getElem? ht
  have ha : (#[27, 24, 24] : Array TypeId).all (fun t => !Tryz.prog.wantsStandIn t) = true := by kernel_rfl
  have := (Array.all_eq_true_iff_forall_mem.1 ha) t hm
  exact (show Tryz.prog.wantsStandIn t = false by simpa using this)

/-- THE CARD -/
theorem card : Rows.GenerationSeveralCardSaid :=
  Claim7.holds_tied_plain_at .later [] _ _ _ _ said (fun _ h => by cases h) (by kernel_rfl) (fun _ h => by cases h) generationSeveral_row_tie rfl ⟨rfl, rfl⟩ (by kernel_rfl) rfl plain (by kernel_rfl)
end Go.Proofs.YtbkbgkicpfbjfaaGreatDoor.generationSeveral

end
