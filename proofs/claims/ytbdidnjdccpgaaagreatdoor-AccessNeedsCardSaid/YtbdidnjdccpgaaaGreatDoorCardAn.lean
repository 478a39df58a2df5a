/- Several texts in one: FrameDD LaAn CardAn. -/
import Derived.Test.YtbdidnjdccpgaaaGreatDoorFrameEs
import Derived.Test.YtbdidnjdccpgaaaGreatDoorAwQ
import Derived.Test.YtbdidnjdccpgaaaGreatDoorJAccessNeeds
section
/- Data definitions among the arguments: opened as far as Needs reads them. -/
namespace Go.Proofs.YtbdidnjdccpgaaaGreatDoor
open Go.ChangeShapes Go.WideShapes Go.RowKit
set_option maxRecDepth 100000
theorem enc_one {P : Program} {w : World} {r : Reach} {base : Nat} {u : TypeId} {v : Value} (h : Cell.okWide P w r base u v) : v.oneCell' = true := by
  cases v <;> simp_all [Cell.okWide, Cell.ok, Value.oneCell']
theorem allOne_of : ∀ (l : List Value), (∀ v ∈ l, v.oneCell' = true) → allOne l = true
  | [], _ => rfl
  | v :: r, h => by
    rw [allOne_cons, allOne_of r (fun x hx => h x (by simp [hx]))]
    have := h v (by simp)
    unfold one; rw [this]; rfl
theorem enc_at {P : Program} {w : World} {r : Reach} {base : Nat} {t u : TypeId} {cs : Array Value} {ts : List TypeId} (hts : P.cellTypes P.depth t = some ts) (h : Row.okWide P w r base t cs) (i : Nat) (hi : i < cs.size) (hu : ts[i % ts.length]? = some u) : ∃ v, cs[i]? = some v ∧ Cell.okWide P w r base u v :=
  ⟨cs[i], Array.getElem?_eq_getElem hi, enc_row hts h i _ (Array.getElem?_eq_getElem hi) hu⟩
theorem open_dd {W : World} {r : Reach} {base : Nat} {v : Value} (hv : Value.okWide Tryz.prog W r base 49 v) :
    ∃ cs : Array Value, v = .agg cs ∧ ∃ inl dum st s n a, DD cs inl dum st s n a := by
  obtain ⟨cs, rfl, hsz, hrow⟩ := enc_cells Tryz.underlying49 hv
  have e : Tryz.prog.cellsOf 49 = 35 := by kernel_rfl
  rw [e] at hsz
  have hts : Tryz.prog.cellTypes Tryz.prog.depth 49 = some [9, 9, 4, 3, 9, 9, 3, 3, 3, 3, 3, 3, 3, 3, 3, 3, 3, 3, 3, 3, 3, 3, 3, 4, 3, 9, 9, 3, 3, 4, 3, 3, 4, 33, 4] := by kernel_rfl
  have hone : allOne cs.toList = true := allOne_of _ (fun v hv => by
    obtain ⟨i, hi, rfl⟩ := List.mem_iff_getElem.1 hv
    obtain ⟨ts', _, _, h2⟩ := id hrow
    have hi' : i < cs.size := by simpa using hi
    obtain ⟨u, -, h3⟩ := h2 i cs[i] (Array.getElem?_eq_getElem hi')
    simpa using enc_one h3)
  obtain ⟨x4, c4, k4⟩ := enc_at hts hrow 4 (by omega) rfl
  obtain ⟨st, rfl⟩ := enc_str Tryz.underlying9 k4
  obtain ⟨x6, c6, k6⟩ := enc_at hts hrow 6 (by omega) rfl
  obtain ⟨s, rfl⟩ := enc_int Tryz.underlying3 k6
  obtain ⟨x7, c7, k7⟩ := enc_at hts hrow 7 (by omega) rfl
  obtain ⟨n, rfl⟩ := enc_int Tryz.underlying3 k7
  obtain ⟨x8, c8, k8⟩ := enc_at hts hrow 8 (by omega) rfl
  obtain ⟨a, rfl⟩ := enc_int Tryz.underlying3 k8
  obtain ⟨x32, c32, k32⟩ := enc_at hts hrow 32 (by omega) rfl
  obtain ⟨inl, rfl⟩ := enc_bool Tryz.underlying4 k32
  obtain ⟨x34, c34, k34⟩ := enc_at hts hrow 34 (by omega) rfl
  obtain ⟨dum, rfl⟩ := enc_bool Tryz.underlying4 k34
  exact ⟨cs, rfl, inl, dum, st, s, n, a, hsz, hone, c4, c6, c7, c8, c32, c34⟩
end Go.Proofs.YtbdidnjdccpgaaaGreatDoor

end
section
/- The walk of AccessNeeds. -/
namespace Go.Proofs.YtbdidnjdccpgaaaGreatDoor
open Go.RowKit
set_option maxHeartbeats 8000000
set_option maxRecDepth 8000
attribute [local go_sem ↓] ldDD stDD
attribute [local go_sem] Held_drew isHead_mk headOf_mk cellsOfV_mk isAggV_mk row_new row_new2 row_new2' row_drew row_drewN allOne_nil allOne_cons one_int one_bool one_string one_pointer one_slice
theorem keepD {W w1 w2 : World} {g : Nat} {cs : Array Value} (hb : Below w1.heap.size w1 w2) (h0 : 0 < cs.size) (s : row w1 g = cs ∧ Hid (Below W.heap.size W w1)) : row w2 g = cs ∧ Hid (Below W.heap.size W w2) := ⟨row_below hb s.1 h0, Lib.hid (bt s.2.out hb)⟩
theorem law_needs (cs : Array Value) (w : World) (h : ∃ inl dum st s n a, DD cs inl dum st s n a) (hm : MaxL w) (hT : Tab w) :
    Calls Tryz.prog 7 #[.agg cs] w fun r w' => r = .returned (.bool true) ∧ Below w.heap.size w w' := by
  obtain ⟨inl, dum, st, s, n, a, h⟩ := h
  have hz := h.sz
  have h1 := h.one
  have HA := Lib.hid (fun W (b : Below w.heap.size w W) => aw34 W (hm.below b) (hT.below b))
  have HN := Lib.hid (fun W => needs cs inl dum st s n a W h)
  have HR := Lib.hid (fun W => rneeds cs inl dum st s n a W h)
  generalize nd inl dum st s n a = k at HN HR
  have R0 := row_new w cs 49 (0, 0)
  clear h
  go_enter Tryz.func7, Tryz.ntmps7
  go_wp2_with fail
  go_region_held3 (fun w' => row w' w.heap.size = cs ∧ Hid (Below w.heap.size w w')) (first | assumption | exact ⟨R0, Lib.hid (by (repeat (first | exact Below.refl _ _ | assumption | (refine Below.drew ?_) | (refine Below.alloc ?_ (by first | (simp; done) | (simp; omega) | omega) _) | (refine Below.setCell ?_ (by first | (simp; done) | (simp; omega) | omega) _))))⟩ | exact keepD hb (by rw [hz]; decide) (by assumption)) (first
    | (go_at_call 29; (refine (HA.out _ (by assumption : row _ _ = _ ∧ Hid (Below _ _ _)).2.out).mono ?_); rintro _ w2 ⟨rfl, hb⟩)
    | (go_at_call 35; (with_reducible refine (HN.out _).mono ?_); rintro _ w3 ⟨rfl, hb⟩)
    | (go_at_call 36; (with_reducible refine (HR.out _).mono ?_); rintro _ w4 ⟨rfl, hb⟩))
  all_goals
    go_wp2_with fail
    go_ret
    exact ⟨by simp, (by assumption : row _ _ = _ ∧ Hid (Below _ _ _)).2.out⟩
end Go.Proofs.YtbdidnjdccpgaaaGreatDoor

end
section
/- The statement AccessNeeds: the walk, the frame of the row, the card. Conditions: none beyond the statement. -/
namespace Go.Proofs.YtbdidnjdccpgaaaGreatDoor.accessNeeds
open Go.ChangeShapes Go.WideShapes Go.ChangeAt Go.RowKit Go.Proofs.YtbdidnjdccpgaaaGreatDoor
open Go.ChangeMaps (open_string)

set_option maxRecDepth 100000 in
theorem contract (H : Type) (enc : TypeId × Value → H) (W : World) (base : Nat) (args : Array Value) (ds gs : List (DataW H)) (before : List MemPlace)
    (hval : ∀ (j : Nat) t v, Tryz.f7.params[j]? = some t → args[j]? = some v → Value.okWide Tryz.prog W .any base t v)
    (hW : DataW.Whole enc Tryz.prog Tryz.f7.params.toList Rows.accessNeedsSpec.vars false W args.toList ds gs before) (hL : laidMetH Tryz.prog Rows.accessNeedsRow.laid W) (hS : W.ShapedOpen Tryz.prog) :
    Calls Tryz.prog 7 args W fun e W' => ∃ v, e = .returned v ∧ Rows.accessNeedsSpec.post enc Tryz.prog Tryz.f7 false true false false W args v W' := by
  have hW' := hW
  have hlt : ∀ x ∈ before, x.block < W.heap.size := fun x hx => by simpa using hW'.lt x hx
  obtain ⟨p, q, hA0, hV, rfl, hfz, hnd⟩ := hW
  have hA : DataW.TrodAll enc Tryz.prog W 0 (fun _ => true) true Tryz.f7.params.toList args.toList ds p := hA0
  have hK := hA
  rw [Tryz.params7] at hA hval
  obtain ⟨v0, vs0, d0, ds0, p0, q0, hargs, rfl, rfl, h0, r0⟩ := trodAll_cons hA
  obtain ⟨rfl, rfl, rfl⟩ := trodAll_nil r0
  obtain rfl : args = #[v0] := by cases args; simp_all
  obtain ⟨rfl, rfl⟩ := trodVars_none hV
  obtain ⟨cs0, rfl, o0⟩ := open_dd (hval 0 49 v0 rfl rfl)
  rw [MakeChecks.laidMetH_plain _ _ _ (by kernel_rfl)] at hL
  refine (law_needs cs0 W o0 (max_of hS) (tab_of hL)).mono fun e W' ⟨he, hb⟩ => ?_
  subst he
  exact ⟨_, rfl, _, _, _, [], _, [], hW', trodAll_cons_mk (shut_bool Tryz.underlying4 _) trodAll_mk0, args_below hb (by rw [Tryz.params7]; kernel_rfl) hK (fun x hx => hlt x (by simpa using hx)), rfl, hb.frame _, fun h => by cases h⟩

def zDD : Value := .agg #[.string ⟨#[]⟩, .string ⟨#[]⟩, .bool false, .int .i64 0, .string ⟨#[]⟩, .string ⟨#[]⟩, .int .i64 0, .int .i64 0, .int .i64 0, .int .i64 0, .int .i64 0, .int .i64 0, .int .i64 0, .int .i64 0, .int .i64 0, .int .i64 0, .int .i64 0, .int .i64 0, .int .i64 0, .int .i64 0, .int .i64 0, .int .i64 0, .int .i64 0, .bool false, .int .i64 0, .string ⟨#[]⟩, .string ⟨#[]⟩, .int .i64 0, .int .i64 0, .bool false, .int .i64 0, .int .i64 0, .bool false, .slice none 0 0, .bool false]
def dDD {H : Type} : DataW H := .agg [.lit (.string []), .lit (.string []), .lit (.bool false), .lit (.int .i64 0), .lit (.string []), .lit (.string []), .lit (.int .i64 0), .lit (.int .i64 0), .lit (.int .i64 0), .agg [.lit (.int .i64 0), .lit (.int .i64 0), .lit (.int .i64 0), .lit (.int .i64 0), .lit (.int .i64 0), .lit (.int .i64 0), .lit (.int .i64 0), .lit (.int .i64 0), .lit (.int .i64 0), .lit (.int .i64 0), .lit (.int .i64 0), .lit (.int .i64 0), .lit (.int .i64 0), .lit (.int .i64 0), .lit (.bool false), .lit (.int .i64 0), .lit (.string []), .lit (.string []), .lit (.int .i64 0), .lit (.int .i64 0), .lit (.bool false)], .lit (.int .i64 0), .lit (.int .i64 0), .lit (.bool false), .nil, .lit (.bool false)]

theorem laid_met (os : Os) : laidMetH Tryz.prog Rows.accessNeedsRow.laid ((World.laidAll Tryz.prog os Rows.accessNeedsRow.laid).forCall (fun _ _ => 0) ⟨#[], #[(zDD : Value)], []⟩).memory := by
  rw [MakeChecks.laidMetH_plain _ _ _ (by kernel_rfl)]; exact laidMet_laidAll _ (by kernel_rfl) (by kernel_rfl)
theorem reads (os : Os) {H : Type} (enc : TypeId × Value → H) : ∃ places, DataW.whole enc Tryz.prog ((World.laidAll Tryz.prog os Rows.accessNeedsRow.laid).forCall (fun _ _ => 0) ⟨#[], #[(zDD : Value)], []⟩).memory Tryz.f7.params.toList Rows.accessNeedsSpec.vars false #[(zDD : Value)].toList 8 = some ([dDD], [], places) :=
  ⟨[], by kernel_rfl⟩

set_option maxRecDepth 100000 in
theorem lifted (os : Os) (started : os.Started) (H : Type) (enc : TypeId × Value → H) (F : Stop.Interp) :
    ReturnsInHanded {} Tryz.checked os 7 .any ((OpenSpec.ofChange Rows.accessNeedsSpec).preRow enc Tryz.prog Tryz.f7 Rows.accessNeedsRow.domain false Rows.accessNeedsRow.laid) (((OpenSpec.ofChange Rows.accessNeedsSpec).at F).post enc Tryz.prog Tryz.f7 false true false false) := by
  obtain ⟨places, hx⟩ := reads os enc
  refine returnsInHanded_of_row (C := Tryz.checked) (s := OpenSpec.ofChange Rows.accessNeedsSpec) ownk started (by kernel_rfl) Tryz.func7
    (witness_lay (enc := enc) (C := Tryz.checked) false #[(zDD : Value)] (World.shaped_of_ZipB (by kernel_rfl) (by kernel_rfl)) (by kernel_rfl)
      (OpenSpec.preRow_of_cond 8 hx (by kernel_rfl) (fun k hk => by cases hk) (by kernel_rfl) (laid_met os))) ?_
  intro W base args ds gs before hval hW _ _ _ hL hS _
  exact contract H enc W base args ds gs before hval hW hL hS

theorem said : Rows.AccessNeedsSaid :=
  OpenClaim.holds_of_cond 7 Tryz.f7 rfl rfl rfl rfl rfl rfl rfl ⟨rfl, rfl, rfl, rfl, rfl⟩ rfl rfl rfl rfl rfl (by kernel_rfl) Tryz.func7 joined_accessNeeds
    (of_decide_eq_true (by kernel_rfl)) (by unfold Func.isWrapper; first | (rw [if_pos (by decide +kernel)]; kernel_rfl) | (rw [if_neg (by decide +kernel)]; exact ⟨rfl, rfl⟩))
    (fun os started H enc _ F => by rw [OpenClaim.pre_eq_preRow]; exact lifted os started H enc F)

theorem plain (f : FuncId) (fn : Func) (hf : Tryz.pinned.checked.prog.funcNamed Rows.accessNeedsRow.func = some f) (hfn : Tryz.pinned.checked.prog.funcs[f]? = some fn) :
    false = Tryz.pinned.checked.prog.looks [] ∧ ∀ (j : Nat) t, fn.params[j]? = some t → Tryz.pinned.checked.prog.wantsStandIn t = false := by
  obtain rfl : f = 7 := Option.some.inj ((show Tryz.prog.funcNamed Rows.accessNeedsRow.func = some 7 by kernel_rfl).symm.trans hf) |>.symm
  obtain rfl : fn = Tryz.f7 := (Option.some.inj (Tryz.func7.symm.trans hfn)).symm
  refine ⟨by kernel_rfl, fun j t ht => ?_⟩
  rw [Tryz.params7] at ht
  have hm := Array.mem_of_getElem? ht
  have ha : (#[49] : Array TypeId).all (fun t => !Tryz.prog.wantsStandIn t) = true := by kernel_rfl
  have := (Array.all_eq_true_iff_forall_mem.1 ha) t hm
  exact (show Tryz.prog.wantsStandIn t = false by simpa using this)

/-- THE CARD -/
theorem card : Rows.AccessNeedsCardSaid :=
  Claim7.holds_tied_plain_at .later [] _ _ _ _ said (fun _ h => by cases h) (by kernel_rfl) (fun _ h => by cases h) accessNeeds_row_tie rfl ⟨rfl, rfl⟩ (by kernel_rfl) rfl plain (by kernel_rfl)
end Go.Proofs.YtbdidnjdccpgaaaGreatDoor.accessNeeds

end
