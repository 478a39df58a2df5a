/- Several texts in one: LaEd CardEd. -/
import Derived.Test.YtkmhegogiadjfaaGreatDoorAwE
import Derived.Test.YtkmhegogiadjfaaGreatDoorRh
import Derived.Test.YtkmhegogiadjfaaGreatDoorRsA
import Derived.Test.YtkmhegogiadjfaaGreatDoorFrameEn
import Derived.Test.YtkmhegogiadjfaaGreatDoorJEntryDecodes
section
/- The walk of EntryDecodes: Decode is the reference's Decode. -/
namespace Go.Proofs.YtkmhegogiadjfaaGreatDoor
open Go.RowKit
set_option maxHeartbeats 8000000
set_option maxRecDepth 8000
/-- what a record decodes to -/
theorem dec_uni (s : List UInt8) : ∃ (x : Fu) (code : Int), ∀ w r w', DecF w w' s r → ∃ al gr, r = .returned (.tuple #[.agg (x.1.vals al gr), .int .i64 code]) ∧ IS w' al x.2.1 ∧ GS w' gr x.2.2 ∧ Below w.heap.size w w' := by
  cases h : decX s with
  | none =>
    refine ⟨(En.zero, [], []), 11, ?_⟩
    rintro w r w' ⟨x, al, gr, code, rfl, h1, h2, h3, h4, -⟩
    rw [h] at h4
    rcases h4 with ⟨h4, -⟩ | ⟨-, rfl, rfl⟩
    · cases h4
    · exact ⟨al, gr, rfl, h1, h2, h3⟩
  | some y =>
    refine ⟨y, 0, ?_⟩
    rintro w r w' ⟨x, al, gr, code, rfl, h1, h2, h3, h4, -⟩
    rw [h] at h4
    rcases h4 with ⟨h4, rfl⟩ | ⟨h4, -⟩
    · cases Option.some.inj h4
      exact ⟨al, gr, rfl, h1, h2, h3⟩
    · cases h4
theorem rsame_refl (e : En) (l1 : List Int) (l2 : List Gr) (al gr al' gr' : Value) (w : World) (h1 : IS w al l1) (h2 : GS w gr l2) (h3 : IS w al' l1) (h4 : GS w gr' l2) :
    Calls Tryz.prog 16 #[.agg (e.vals al gr), .agg (e.vals al' gr')] w fun r w' => r = .returned (.bool true) ∧ Below w.heap.size w w' := by
  have := rsame e e al gr al' gr' l1 l1 l2 l2 w h1 h3 h2 h4
  rw [(sameE_eq e e l1 l1 l2 l2).2 ⟨rfl, rfl, rfl⟩] at this
  exact this
theorem below_y {w w1 : World} {o : Obj} (hb : Below (w.alloc o).heap.size (w.alloc o) w1) : Below w.heap.size w w1 := ((Below.refl _ _).alloc (Nat.le_refl _) _).trans (hb.mono (by simp))
attribute [local go_sem ↓] ldEnt stEnt
attribute [local go_sem] isHead_mk headOf_mk cellsOfV_mk isAggV_mk row_new row_new2 row_new2' row_drew row_drewN vals_size allOne_nil allOne_cons one_int one_bool one_string one_pointer one_slice one_func
theorem law_decodes (s : ByteArray) (w : World) (hm : MaxL w) (hT : Tab w) :
    Calls Tryz.prog 4 #[.string s] w fun r w' => r = .returned (.bool true) ∧ Below w.heap.size w w' := by
  have haw := aw33 w hm hT
  by_cases h : 300 < s.size
  · have e1 : decide (300 < (s.size : Int)) = true := by rw [decide_eq_true_eq]; omega
    clear h
    go_enter Tryz.func4, Tryz.ntmps4
    go_wp2_with (go_at_call 11; (with_reducible refine haw.mono ?_); rintro _ w1 ⟨rfl, B⟩)
    go_ret
    exact ⟨rfl, B⟩
  have e1 : decide (300 < (s.size : Int)) = false := by rw [decide_eq_false_iff_not]; omega
  clear h
  obtain ⟨⟨e, l1, l2⟩, code, hu⟩ := dec_uni (Ds.bl s)
  simp only at hu
  have HD := Lib.hid (fun (W : World) (hB : Below w.heap.size w W) => (en_decodeF s W (hm.below hB) (hT.below hB)).mono (hu W))
  have HR := Lib.hid (fun (W : World) => (rdec_any s W).mono (hu W))
  clear hu
  go_enter Tryz.func4, Tryz.ntmps4
  go_wp2_with (first
    | (go_at_call 11; (with_reducible refine haw.mono ?_); rintro _ w1 ⟨rfl, B⟩)
    | (go_at_call 22; (with_reducible refine (HD.out _ B).mono ?_); rintro _ w2 ⟨al, gr, rfl, hI, hG, hb⟩; have B2 := bt B hb; have hone := vals_one e al gr (is_one hI) (gs_one hG); have HI := Lib.hid hI; have HG := Lib.hid hG; clear hb hI hG; have R2 := row_new w2 (e.vals al gr) 27 (0, 0))
    | (go_at_call 23; (with_reducible refine (HR.out _).mono ?_); rintro _ w3 ⟨al2, gr2, rfl, hI2, hG2, hb⟩; have R3 := row_below hb R2 (by simp [vals_size]); have R4 := row_below ((Below.refl _ _).alloc (Nat.le_refl _) (.cells (e.vals al2 gr2) 27)) R3 (by simp [vals_size]); have B23 := below_y hb; have B3 := bt B2 B23; have hone2 := vals_one e al2 gr2 (is_one hI2) (gs_one hG2); have HI2 := Lib.hid hI2; have HG2 := Lib.hid hG2; clear hb hI2 hG2)
    | (go_at_call 16; (refine (rsame_refl e l1 l2 _ _ _ _ _ (HI.out.below (bt B23 ((Below.refl _ _).alloc (Nat.le_refl _) _))) (HG.out.below (bt B23 ((Below.refl _ _).alloc (Nat.le_refl _) _))) (HI2.out.below ((Below.refl _ _).alloc (Nat.le_refl _) _)) (HG2.out.below ((Below.refl _ _).alloc (Nat.le_refl _) _))).mono ?_); rintro _ w4 ⟨rfl, hb⟩; have B4 := bt (B3.alloc B3.size _) hb))
  all_goals
    go_ret
    exact ⟨rfl, B4⟩
end Go.Proofs.YtkmhegogiadjfaaGreatDoor

end
section
/- The statement EntryDecodes: the walk, the frame of the row, the card. Conditions: none beyond the statement. -/
namespace Go.Proofs.YtkmhegogiadjfaaGreatDoor.entryDecodes
open Go.ChangeShapes Go.WideShapes Go.ChangeAt Go.RowKit Go.Proofs.YtkmhegogiadjfaaGreatDoor
open Go.ChangeMaps (open_string)

set_option maxRecDepth 100000 in
theorem contract (H : Type) (enc : TypeId × Value → H) (W : World) (base : Nat) (args : Array Value) (ds gs : List (DataW H)) (before : List MemPlace)
    (hval : ∀ (j : Nat) t v, Tryz.f4.params[j]? = some t → args[j]? = some v → Value.okWide Tryz.prog W .any base t v)
    (hW : DataW.Whole enc Tryz.prog Tryz.f4.params.toList Rows.entryDecodesSpec.vars false W args.toList ds gs before) (hL : laidMetH Tryz.prog Rows.entryDecodesRow.laid W) (hS : W.ShapedOpen Tryz.prog) :
    Calls Tryz.prog 4 args W fun e W' => ∃ v, e = .returned v ∧ Rows.entryDecodesSpec.post enc Tryz.prog Tryz.f4 false true false false W args v W' := by
  have hW' := hW
  have hlt : ∀ x ∈ before, x.block < W.heap.size := fun x hx => by simpa using hW'.lt x hx
  obtain ⟨p, q, hA0, hV, rfl, hfz, hnd⟩ := hW
  have hA : DataW.TrodAll enc Tryz.prog W 0 (fun _ => true) true Tryz.f4.params.toList args.toList ds p := hA0
  have hK := hA
  rw [Tryz.params4] at hA hval
  obtain ⟨v0, vs0, d0, ds0, p0, q0, hargs, rfl, rfl, h0, r0⟩ := trodAll_cons hA
  obtain ⟨rfl, rfl, rfl⟩ := trodAll_nil r0
  obtain rfl : args = #[v0] := by cases args; simp_all
  obtain ⟨rfl, rfl⟩ := trodVars_none hV
  have hs0 := hval 0 9 v0 rfl rfl
  obtain ⟨s0, rfl⟩ := okWide_string Tryz.underlying9 hs0
  rw [MakeChecks.laidMetH_plain _ _ _ (by kernel_rfl)] at hL
  refine (law_decodes s0 W (max_of hS) (tab_of hL)).mono fun e W' ⟨he, hb⟩ => ?_
  subst he
  exact ⟨_, rfl, _, _, _, [], _, [], hW', trodAll_cons_mk (shut_bool Tryz.underlying4 _) trodAll_mk0, args_below hb (by rw [Tryz.params4]; kernel_rfl) hK (fun x hx => hlt x (by simpa using hx)), rfl, hb.frame _, fun h => by cases h⟩


theorem laid_met (os : Os) : laidMetH Tryz.prog Rows.entryDecodesRow.laid ((World.laidAll Tryz.prog os Rows.entryDecodesRow.laid).forCall (fun _ _ => 0) ⟨#[], #[(.string ⟨#[]⟩ : Value)], []⟩).memory := by
  rw [MakeChecks.laidMetH_plain _ _ _ (by kernel_rfl)]; exact laidMet_laidAll _ (by kernel_rfl) (by kernel_rfl)
theorem reads (os : Os) {H : Type} (enc : TypeId × Value → H) : ∃ places, DataW.whole enc Tryz.prog ((World.laidAll Tryz.prog os Rows.entryDecodesRow.laid).forCall (fun _ _ => 0) ⟨#[], #[(.string ⟨#[]⟩ : Value)], []⟩).memory Tryz.f4.params.toList Rows.entryDecodesSpec.vars false #[(.string ⟨#[]⟩ : Value)].toList 8 = some ([.lit (.string [])], [], places) :=
  ⟨[], by kernel_rfl⟩

set_option maxRecDepth 100000 in
theorem lifted (os : Os) (started : os.Started) (H : Type) (enc : TypeId × Value → H) (F : Stop.Interp) :
    ReturnsInHanded {} Tryz.checked os 4 .any ((OpenSpec.ofChange Rows.entryDecodesSpec).preRow enc Tryz.prog Tryz.f4 Rows.entryDecodesRow.domain false Rows.entryDecodesRow.laid) (((OpenSpec.ofChange Rows.entryDecodesSpec).at F).post enc Tryz.prog Tryz.f4 false true false false) := by
  obtain ⟨places, hx⟩ := reads os enc
  refine returnsInHanded_of_row (C := Tryz.checked) (s := OpenSpec.ofChange Rows.entryDecodesSpec) ownk started (by kernel_rfl) Tryz.func4
    (witness_lay (enc := enc) (C := Tryz.checked) false #[(.string ⟨#[]⟩ : Value)] (World.shaped_of_ZipB (by kernel_rfl) (by kernel_rfl)) (by kernel_rfl)
      (OpenSpec.preRow_of_cond 8 hx (by kernel_rfl) (fun k hk => by cases hk) (by kernel_rfl) (laid_met os))) ?_
  intro W base args ds gs before hval hW _ _ _ hL hS _
  exact contract H enc W base args ds gs before hval hW hL hS

theorem said : Rows.EntryDecodesSaid :=
  OpenClaim.holds_of_cond 4 Tryz.f4 rfl rfl rfl rfl rfl rfl rfl ⟨rfl, rfl, rfl, rfl, rfl⟩ rfl rfl rfl rfl rfl (by kernel_rfl) Tryz.func4 joined_entryDecodes
    (of_decide_eq_true (by kernel_rfl)) (by unfold Func.isWrapper; first | (rw [if_pos (by decide +kernel)]; kernel_rfl) | (rw [if_neg (by decide +kernel)]; exact ⟨rfl, rfl⟩))
    (fun os started H enc _ F => by rw [OpenClaim.pre_eq_preRow]; exact lifted os started H enc F)

theorem plain (f : FuncId) (fn : Func) (hf : Tryz.pinned.checked.prog.funcNamed Rows.entryDecodesRow.func = some f) (hfn : Tryz.pinned.checked.prog.funcs[f]? = some fn) :
    false = Tryz.pinned.checked.prog.looks [] ∧ ∀ (j : Nat) t, fn.params[j]? = some t → Tryz.pinned.checked.prog.wantsStandIn t = false := by
  obtain rfl : f = 4 := Option.some.inj ((show Tryz.prog.funcNamed Rows.entryDecodesRow.func = some 4 by kernel_rfl).symm.trans hf) |>.symm
  obtain rfl : fn = Tryz.f4 := (Option.some.inj (Tryz.func4.symm.trans hfn)).symm
  refine ⟨by kernel_rfl, fun j t ht => ?_⟩
  rw [Tryz.params4] at ht
  have hm := Array.mem_of_getElem? ht
  have ha : (#[9] : Array TypeId).all (fun t => !Tryz.prog.wantsStandIn t) = true := by kernel_rfl
  have := (Array.all_eq_true_iff_forall_mem.1 ha) t hm
  exact (show Tryz.prog.wantsStandIn t = false by simpa using this)

/-- THE CARD -/
theorem card : Rows.EntryDecodesCardSaid :=
  Claim7.holds_tied_plain_at .later [] _ _ _ _ said (fun _ h => by cases h) (by kernel_rfl) (fun _ h => by cases h) entryDecodes_row_tie rfl ⟨rfl, rfl⟩ (by kernel_rfl) rfl plain (by kernel_rfl)
end Go.Proofs.YtkmhegogiadjfaaGreatDoor.entryDecodes

end
