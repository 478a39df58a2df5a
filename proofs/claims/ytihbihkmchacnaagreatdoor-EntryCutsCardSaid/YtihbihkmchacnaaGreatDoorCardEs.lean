/- Several texts in one: LaEs CardEs. -/
import Derived.Test.YtihbihkmchacnaaGreatDoorAwE
import Derived.Test.YtihbihkmchacnaaGreatDoorFrameDs
section
/- The walk of EntryStrict: what Decode accepts is the record of its result. -/
namespace Go.Proofs.YtihbihkmchacnaaGreatDoor
open Go.RowKit
set_option maxHeartbeats 8000000
set_option maxRecDepth 8000
theorem enc_rec (x : Fu) (al gr : Value) (s : ByteArray) (w : World) (hm : MaxL w) (hT : Tab w) (hx : okX x = true) (hr : recX x = Ds.bl s) (h1 : IS w al x.2.1) (h2 : GS w gr x.2.2) :
    Calls Tryz.prog 26 #[.agg (x.1.vals al gr)] w fun r w' => r = .returned (.tuple #[.string s, .int .i64 0]) ∧ Below w.heap.size w w' := by
  have hn := (okX_name x hx).1
  rw [Ds.bl_length] at hn
  refine (en_encode x.1 al gr x.2.1 x.2.2 w hm hT (by omega) h1 h2).mono ?_
  rintro r w' ⟨t, rfl, ht, hb⟩
  rw [show okX (x.1, x.2.1, x.2.2) = true from hx] at ht ⊢
  simp only [if_true] at ht ⊢
  have : t = s := Ds.bl_inj (ht.trans hr)
  subst this
  exact ⟨rfl, hb⟩
theorem val_rec (x : Fu) (al gr : Value) (w : World) (hm : MaxL w) (hT : Tab w) (hx : okX x = true) (h1 : IS w al x.2.1) (h2 : GS w gr x.2.2) :
    Calls Tryz.prog 17 #[.agg (x.1.vals al gr)] w fun r w' => r = .returned (.bool true) ∧ Below w.heap.size w w' := by
  have hn := (okX_name x hx).1
  rw [Ds.bl_length] at hn
  have := va_any x.1 al gr x.2.1 x.2.2 w hm hT (by omega) h1 h2
  rw [show okX (x.1, x.2.1, x.2.2) = true from hx] at this
  exact this
theorem below_al {w w1 : World} {o : Obj} (hb : Below (w.alloc o).heap.size (w.alloc o) w1) : Below w.heap.size w w1 := ((Below.refl _ _).alloc (Nat.le_refl _) _).trans (hb.mono (by simp))
theorem same_zero (al gr : Value) (w : World) (h1 : IS w al []) (h2 : GS w gr []) :
    Calls Tryz.prog 19 #[.agg (En.zero.vals al gr), .agg (zlit 0 ⟨#[]⟩)] w fun r w' => r = .returned (.bool true) ∧ Below w.heap.size w w' := by
  have := en_same En.zero En.zero al gr (.slice none 0 0) (.slice none 0 0) [] [] [] [] w h1 (IS.nil w) h2 (GS.nil w)
  rw [(sameE_eq En.zero En.zero [] [] [] []).2 ⟨rfl, rfl, rfl⟩] at this
  rw [zlit_eq]
  exact this
attribute [local go_sem ↓] ldEnt stEnt
attribute [local go_sem] isHead_mk headOf_mk cellsOfV_mk isAggV_mk row_new row_new2 row_new2' row_drew row_drewN vals_size allOne_nil allOne_cons one_int one_bool one_string one_pointer one_slice one_func
theorem law_strict (s : ByteArray) (w : World) (hm : MaxL w) (hT : Tab w) :
    Calls Tryz.prog 7 #[.string s] w fun r w' => r = .returned (.bool true) ∧ Below w.heap.size w w' := by
  have haw := aw33 w hm hT
  by_cases h : 300 < s.size
  · have e1 : decide (300 < (s.size : Int)) = true := by rw [decide_eq_true_eq]; omega
    clear h
    go_enter Tryz.func7, Tryz.ntmps7
    go_wp2_with (go_at_call 15; (with_reducible refine haw.mono ?_); rintro _ w1 ⟨rfl, B⟩)
    go_ret
    exact ⟨rfl, B⟩
  have e1 : decide (300 < (s.size : Int)) = false := by rw [decide_eq_false_iff_not]; omega
  clear h
  have hsz := fun (al gr : Value) (W : World) h1 h2 => same_zero al gr W h1 h2
  unfold zlit at hsz
  have HS := Lib.hid hsz
  have HE := Lib.hid (fun (x : Fu) (al gr : Value) (W : World) (hB : Below w.heap.size w W) hx hr h1 h2 => enc_rec x al gr s W (hm.below hB) (hT.below hB) hx hr h1 h2)
  have HV := Lib.hid (fun (x : Fu) (al gr : Value) (W : World) (hB : Below w.heap.size w W) hx h1 h2 => val_rec x al gr W (hm.below hB) (hT.below hB) hx h1 h2)
  have HD := Lib.hid (fun (W : World) (hB : Below w.heap.size w W) => en_decode s W (hm.below hB) (hT.below hB))
  clear hsz
  go_enter Tryz.func7, Tryz.ntmps7
  go_wp2_with (first
    | (go_at_call 15; (with_reducible refine haw.mono ?_); rintro _ w1 ⟨rfl, B⟩)
    | (go_at_call 28; (with_reducible refine (HD.out _ B).mono ?_); rintro _ w2 ⟨x, al, gr, code, rfl, hI, hG, hb, hd⟩; have B2 := bt B hb; have hone := vals_one x.1 al gr (is_one hI) (gs_one hG); have HI := Lib.hid hI; have HG := Lib.hid hG; clear hb hI hG; rcases hd with ⟨hd, rfl⟩ | ⟨hd, rfl, rfl⟩; have HS2 := Lib.hid (decX_sound _ _ hd); clear hd)
    | (go_at_call 26; (with_reducible refine (HE.out x al gr _ (B2.alloc B2.size _) HS2.out.1 HS2.out.2 (HI.out.below ((Below.refl _ _).alloc (Nat.le_refl _) _)) (HG.out.below ((Below.refl _ _).alloc (Nat.le_refl _) _))).mono ?_); rintro _ w3 ⟨rfl, hb⟩; have R3 := row_below hb (row_new w2 _ _ _) (by simp [vals_size]); have B23 := below_al hb; have B3 := bt B2 B23; clear hb)
    | (go_at_call 19; (with_reducible refine (HS.out al gr _ (HI.out.below ((Below.refl _ _).alloc (Nat.le_refl _) _)) (HG.out.below ((Below.refl _ _).alloc (Nat.le_refl _) _))).mono ?_); rintro _ w4 ⟨rfl, hb⟩; have B4 := bt (B2.alloc B2.size _) hb)
    | (go_at_call 17; (with_reducible refine (HV.out x al gr _ B3 HS2.out.1 (HI.out.below B23) (HG.out.below B23)).mono ?_); rintro _ w5 ⟨rfl, hb⟩; have B5 := bt B3 hb))
  all_goals
    go_ret
    exact ⟨rfl, by first | exact B5 | exact B4⟩
end Go.Proofs.YtihbihkmchacnaaGreatDoor

end
section
/- The statement EntryStrict: the walk, the frame of the row, the card. Conditions: none beyond the statement. -/
namespace Go.Proofs.YtihbihkmchacnaaGreatDoor.entryStrict
open Go.ChangeShapes Go.WideShapes Go.ChangeAt Go.RowKit Go.Proofs.YtihbihkmchacnaaGreatDoor
open Go.ChangeMaps (open_string)

set_option maxRecDepth 100000 in
theorem contract (H : Type) (enc : TypeId × Value → H) (W : World) (base : Nat) (args : Array Value) (ds gs : List (DataW H)) (before : List MemPlace)
    (hval : ∀ (j : Nat) t v, Tryz.f7.params[j]? = some t → args[j]? = some v → Value.okWide Tryz.prog W .any base t v)
    (hW : DataW.Whole enc Tryz.prog Tryz.f7.params.toList Rows.entryStrictSpec.vars false W args.toList ds gs before) (hL : laidMetH Tryz.prog Rows.entryStrictRow.laid W) (hS : W.ShapedOpen Tryz.prog) :
    Calls Tryz.prog 7 args W fun e W' => ∃ v, e = .returned v ∧ Rows.entryStrictSpec.post enc Tryz.prog Tryz.f7 false true false false W args v W' := by
  have hW' := hW
  have hlt : ∀ x ∈ before, x.block < W.heap.size := fun x hx => by simpa using hW'.lt x hx
  obtain ⟨p, q, hA0, hV, rfl, hfz, hnd⟩ := hW
  have hA : DataW.TrodAll enc Tryz.prog W 0 (fun _ => true) true Tryz.f7.params.toList args.toList ds p := hA0
  have hK := hA
  rw [Tryz.params7] at hA hval
  obtain ⟨v0, vs0, d0, ds0, p0, q0, hargs, rfl, rfl, h0, r0⟩ := trodAll_cons hA
  obtain ⟨rfl, rfl, rfl⟩ := trodAll_nil r0
  obtain rfl : args = #[v0] := by cases args; simp_all
  obtain ⟨rfl, rfl⟩ := trodVars_none hV
  have hs0 := hval 0 9 v0 rfl rfl
  obtain ⟨s0, rfl⟩ := okWide_string Tryz.underlying9 hs0
  rw [MakeChecks.laidMetH_plain _ _ _ (by kernel_rfl)] at hL
  refine (law_strict s0 W (max_of hS) (tab_of hL)).mono fun e W' ⟨he, hb⟩ => ?_
  subst he
  exact ⟨_, rfl, _, _, _, [], _, [], hW', trodAll_cons_mk (shut_bool Tryz.underlying4 _) trodAll_mk0, args_below hb (by rw [Tryz.params7]; kernel_rfl) hK (fun x hx => hlt x (by simpa using hx)), rfl, hb.frame _, fun h => by cases h⟩


theorem laid_met (os : Os) : laidMetH Tryz.prog Rows.entryStrictRow.laid ((World.laidAll Tryz.prog os Rows.entryStrictRow.laid).forCall (fun _ _ => 0) ⟨#[], #[(.string ⟨#[]⟩ : Value)], []⟩).memory := by
  rw [MakeChecks.laidMetH_plain _ _ _ (by kernel_rfl)]; exact laidMet_laidAll _ (by kernel_rfl) (by kernel_rfl)
theorem reads (os : Os) {H : Type} (enc : TypeId × Value → H) : ∃ places, DataW.whole enc Tryz.prog ((World.laidAll Tryz.prog os Rows.entryStrictRow.laid).forCall (fun _ _ => 0) ⟨#[], #[(.string ⟨#[]⟩ : Value)], []⟩).memory Tryz.f7.params.toList Rows.entryStrictSpec.vars false #[(.string ⟨#[]⟩ : Value)].toList 8 = some ([.lit (.string [])], [], places) :=
  ⟨[], by kernel_rfl⟩

set_option maxRecDepth 100000 in
theorem lifted (os : Os) (started : os.Started) (H : Type) (enc : TypeId × Value → H) (F : Stop.Interp) :
    ReturnsInHanded {} Tryz.checked os 7 .any ((OpenSpec.ofChange Rows.entryStrictSpec).preRow enc Tryz.prog Tryz.f7 Rows.entryStrictRow.domain false Rows.entryStrictRow.laid) (((OpenSpec.ofChange Rows.entryStrictSpec).at F).post enc Tryz.prog Tryz.f7 false true false false) := by
  obtain ⟨places, hx⟩ := reads os enc
  refine returnsInHanded_of_row (C := Tryz.checked) (s := OpenSpec.ofChange Rows.entryStrictSpec) ownk started (by kernel_rfl) Tryz.func7
    (witness_lay (enc := enc) (C := Tryz.checked) false #[(.string ⟨#[]⟩ : Value)] (World.shaped_of_ZipB (by kernel_rfl) (by kernel_rfl)) (by kernel_rfl)
      (OpenSpec.preRow_of_cond 8 hx (by kernel_rfl) (fun k hk => by cases hk) (by kernel_rfl) (laid_met os))) ?_
  intro W base args ds gs before hval hW _ _ _ hL hS _
  exact contract H enc W base args ds gs before hval hW hL hS

theorem said : Rows.EntryStrictSaid :=
  OpenClaim.holds_of_cond 7 Tryz.f7 rfl rfl rfl rfl rfl rfl rfl ⟨rfl, rfl, rfl, rfl, rfl⟩ rfl rfl rfl rfl rfl (by kernel_rfl) Tryz.func7 (by kernel_rfl)
    (of_decide_eq_true (by kernel_rfl)) (by unfold Func.isWrapper; first | (rw [if_pos (by decide +kernel)]; kernel_rfl) | (rw [if_neg (by decide +kernel)]; exact ⟨rfl, rfl⟩))
    (fun os started H enc _ F => by rw [OpenClaim.pre_eq_preRow]; exact lifted os started H enc F)

theorem plain (f : FuncId) (fn : Func) (hf : Tryz.pinned.checked.prog.funcNamed Rows.entryStrictRow.func = some f) (hfn : Tryz.pinned.checked.prog.funcs[f]? = some fn) :
    false = Tryz.pinned.checked.prog.looks [] ∧ ∀ (j : Nat) t, fn.params[j]? = some t → Tryz.pinned.checked.prog.wantsStandIn t = false := by
  obtain rfl : f = 7 := Option.some.inj ((show Tryz.prog.funcNamed Rows.entryStrictRow.func = some 7 by kernel_rfl).symm.trans hf) |>.symm
  obtain rfl : fn = Tryz.f7 := (Option.some.inj (Tryz.func7.symm.trans hfn)).symm
  refine ⟨by kernel_rfl, fun j t ht => ?_⟩
  rw [Tryz.params7] at ht
  have hm := Array.mem_of_getElem? ht
  have ha : (#[9] : Array TypeId).all (fun t => !Tryz.prog.wantsStandIn t) = true := by kernel_rfl
  have := (Array.all_eq_true_iff_forall_mem.1 ha) t hm
  exact (show Tryz.prog.wantsStandIn t = false by simpa using this)

/-- THE CARD -/
theorem card : Rows.EntryStrictCardSaid :=
  Claim7.holds_tied_plain_at .later [] _ _ _ _ said (fun _ h => by cases h) (by kernel_rfl) (fun _ h => by cases h) entryStrict_row_tie rfl ⟨rfl, rfl⟩ (by kernel_rfl) rfl plain (by kernel_rfl)
end Go.Proofs.YtihbihkmchacnaaGreatDoor.entryStrict

end
