/- Several texts in one: LaEk CardEk. -/
import Derived.Test.YtihbihkmchacnaaGreatDoorAwE
import Derived.Test.YtihbihkmchacnaaGreatDoorDsR
import Derived.Deep.RegionHeld3
import Derived.Test.YtihbihkmchacnaaGreatDoorFrameDs
section
/- The walk of EntryKeys: keys have 32 bytes, differ where kind or name differ, and are ordered as the padded names. -/
namespace Go.Proofs.YtihbihkmchacnaaGreatDoor
open Go.RowKit
set_option maxHeartbeats 8000000
set_option maxRecDepth 8000
def padB (s : ByteArray) : ByteArray := ⟨(Ek.pad (Ds.bl s)).toArray⟩
def keyB (k : Int) (s : ByteArray) : ByteArray := ⟨(Ek.key k (Ds.bl s)).toArray⟩
theorem padB_bl (s : ByteArray) : Ds.bl (padB s) = Ek.pad (Ds.bl s) := Ds.bl_mk _
theorem keyB_bl (k : Int) (s : ByteArray) : Ds.bl (keyB k s) = Ek.key k (Ds.bl s) := Ds.bl_mk _
theorem ek_pad (s : ByteArray) (w : World) (hs : s.size ≤ 31) :
    Calls Tryz.prog 32 #[.string s] w fun r w' => r = .returned (.string (padB s)) ∧ Below w.heap.size w w' := by
  have hr := rep_blank s hs
  have hw31 : IntKind.i64.wrap (31 - (s.size : Int)) = 31 - (s.size : Int) := IntWalk.i64_in _ ⟨by omega, by omega⟩
  have HR := Lib.hid hr
  clear hr
  go_enter Tryz.func32, Tryz.ntmps32
  go_wp2_with (go_at_call 33; (with_reducible refine (HR.out _).mono ?_); rintro _ w2 ⟨t, rfl, ht, hz, hb⟩; have l2 : ¬ 9223372036854775807 < s.size + t.size := (by omega); have HT := Lib.hid ht; clear ht)
  go_ret
  refine ⟨?_, hb⟩
  have : s ++ t = padB s := Ds.bl_inj (by rw [padB_bl, Ds.bl_append, HT.out]; unfold Ek.pad; rw [Ds.bl_length])
  exact congrArg (fun z => Ending.returned (.string z)) this
theorem ek_key (k : Int) (s : ByteArray) (w : World) : Calls Tryz.prog 21 #[.int .i64 k, .string s] w fun r w' => r = .returned (.string (keyB k s)) ∧ Below w.heap.size w w' := by
  refine (en_key k s w).mono ?_
  rintro r w' ⟨t, rfl, ht, hb⟩
  rw [Ds.bl_inj (ht.trans (keyB_bl k s).symm)]
  exact ⟨rfl, hb⟩
theorem bl_beq2 (a b : ByteArray) : (a.toList == b.toList) = decide (Ds.bl a = Ds.bl b) := by
  rw [Bool.eq_iff_iff, beq_iff_eq, decide_eq_true_eq, tl_inj]
  exact ⟨fun h => by rw [h], fun h => Ds.bl_inj h⟩
theorem toList_bl (s : ByteArray) : s.toList = Ds.bl s := Lib.toList_data s
theorem law_keys_in (k o : Int) (a b : ByteArray) (w : World) (hm : MaxL w) (hT : Tab w) (h1 : 0 ≤ k ∧ k ≤ 4) (h2 : 0 ≤ o ∧ o ≤ 4) (ha : Ds.pat (Ds.bl a) = true) (hb : Ds.pat (Ds.bl b) = true) :
    Calls Tryz.prog 8 #[.int .i64 k, .int .i64 o, .string a, .string b] w fun r w' => r = .returned (.bool true) ∧ Below w.heap.size w w' := by
  have la := ((Ds.pat_parts _).1 ha).1.2
  have lb := ((Ds.pat_parts _).1 hb).1.2
  have x1 : (keyB k a).size = 32 := by rw [← Ds.bl_length, keyB_bl]; exact Ek.key_len _ _ h1 la
  have x2 : (((keyB k a).extract 1 32).toList == (padB a).toList) = true := by
    refine bl_beq' _ _ ?_
    rw [padB_bl]
    unfold Ds.bl
    rw [ByteArray.data_extract, Array.toList_extract]
    show ((Ds.bl (keyB k a)).drop 1).take 31 = _
    rw [keyB_bl, Ek.key_yes k _ h1 la, List.drop_succ_cons, List.drop_zero, List.take_of_length_le (by rw [Ek.pad_len _ la]; exact Nat.le_refl _)]
    rfl
  have x3 : ((keyB k a).toList == (keyB k b).toList) = (a.toList == b.toList) := by
    rw [bl_beq2, bl_beq2, keyB_bl, keyB_bl, Ek.key_yes k _ h1 la, Ek.key_yes k _ h1 lb, Bool.eq_iff_iff, decide_eq_true_eq, decide_eq_true_eq]
    constructor
    · intro h; exact Ek.pad_inj _ _ ha hb (List.cons.inj h).2
    · intro h; rw [h]
  have x4 : ((keyB k a).toList == (keyB o a).toList) = (k == o) := by
    rw [bl_beq2, keyB_bl, keyB_bl, Ek.key_yes k _ h1 la, Ek.key_yes o _ h2 la, Bool.eq_iff_iff, decide_eq_true_eq, beq_iff_eq]
    constructor
    · intro h; exact Ek.letter_inj _ _ h1 h2 (List.cons.inj h).1
    · intro h; rw [h]
  have x5 : Op.bytesLess (keyB k a).toList (keyB k b).toList = Op.bytesLess (padB a).toList (padB b).toList := by
    rw [toList_bl, toList_bl, toList_bl, toList_bl, keyB_bl, keyB_bl, padB_bl, padB_bl, Ek.key_yes k _ h1 la, Ek.key_yes k _ h1 lb, Ek.less_cons]
  have haw := aw33 w hm hT
  have hp1 := fun W => rds_pat a W
  have hp2 := fun W => rds_pat b W
  rw [ha] at hp1
  rw [hb] at hp2
  rw [Ds.bl_length] at la lb
  have hq1 := fun W => ek_pad a W la
  have hq2 := fun W => ek_pad b W lb
  have hk1 := fun W => ek_key k a W
  have hk2 := fun W => ek_key k b W
  have hk3 := fun W => ek_key o a W
  generalize keyB k a = x at *
  generalize keyB k b = y at *
  generalize keyB o a = z at *
  generalize padB a = p at *
  generalize padB b = q at *
  have n1 : ¬ k < 0 := by omega
  have n2 : ¬ 4 < k := by omega
  have n3 : ¬ o < 0 := by omega
  have n4 : ¬ 4 < o := by omega
  have HAW := Lib.hid haw
  have P1 := Lib.hid hp1
  have P2 := Lib.hid hp2
  have Q1 := Lib.hid hq1
  have Q2 := Lib.hid hq2
  have K1 := Lib.hid hk1
  have K2 := Lib.hid hk2
  have K3 := Lib.hid hk3
  clear haw hp1 hp2 hq1 hq2 hk1 hk2 hk3 ha hb la lb h1 h2
  go_enter Tryz.func8, Tryz.ntmps8
  go_upto_region 7 with (first
    | (go_at_call 15; (with_reducible refine HAW.out.mono ?_); rintro _ w1 ⟨rfl, B⟩)
    | (go_at_call 31; (with_reducible refine (P1.out _).mono ?_); rintro _ w1 ⟨rfl, hb⟩; have B := bt B hb; clear hb)
    | (go_at_call 31; (with_reducible refine (P2.out _).mono ?_); rintro _ w1 ⟨rfl, hb⟩; have B := bt B hb; clear hb)
    | (go_at_call 21; (with_reducible refine (K1.out _).mono ?_); rintro _ w1 ⟨rfl, hb⟩; have B := bt B hb; clear hb)
    | (go_at_call 21; (with_reducible refine (K2.out _).mono ?_); rintro _ w1 ⟨rfl, hb⟩; have B := bt B hb; clear hb)
    | (go_at_call 21; (with_reducible refine (K3.out _).mono ?_); rintro _ w1 ⟨rfl, hb⟩; have B := bt B hb; clear hb))
  go_region_held3 (fun w' => Below w.heap.size w w') (first | exact B.drew | exact bt (by assumption) hb) (first
    | (go_at_call 32; (with_reducible refine (Q1.out _).mono ?_); rintro e w3 ⟨rfl, hb⟩)
    | (go_at_call 32; (with_reducible refine (Q2.out _).mono ?_); rintro e w3 ⟨rfl, hb⟩))
  all_goals
    go_wp2_with fail
    go_ret
    exact ⟨rfl, by assumption⟩
theorem law_keys (k o : Int) (a b : ByteArray) (w : World) (hm : MaxL w) (hT : Tab w) :
    Calls Tryz.prog 8 #[.int .i64 k, .int .i64 o, .string a, .string b] w fun r w' => r = .returned (.bool true) ∧ Below w.heap.size w w' := by
  by_cases h1 : 0 ≤ k ∧ k ≤ 4
  rotate_left
  · have haw := aw33 w hm hT
    rcases (by omega : k < 0 ∨ (¬ k < 0 ∧ 4 < k)) with h | ⟨h, h'⟩
    all_goals
      go_enter Tryz.func8, Tryz.ntmps8
      go_wp2_with (go_at_call 15; (with_reducible refine haw.mono ?_); rintro _ w1 ⟨rfl, B⟩)
      all_goals (go_ret; exact ⟨rfl, by assumption⟩)
  by_cases h2 : 0 ≤ o ∧ o ≤ 4
  rotate_left
  · have haw := aw33 w hm hT
    have n1 : ¬ k < 0 := by omega
    have n2 : ¬ 4 < k := by omega
    rcases (by omega : o < 0 ∨ (¬ o < 0 ∧ 4 < o)) with h | ⟨h, h'⟩
    all_goals
      go_enter Tryz.func8, Tryz.ntmps8
      go_wp2_with (go_at_call 15; (with_reducible refine haw.mono ?_); rintro _ w1 ⟨rfl, B⟩)
      all_goals (go_ret; exact ⟨rfl, by assumption⟩)
  have hp1 := fun W => rds_pat a W
  have hp2 := fun W => rds_pat b W
  cases ha : Ds.pat (Ds.bl a)
  · have haw := aw33 w hm hT
    rw [ha] at hp1
    have n1 : ¬ k < 0 := by omega
    have n2 : ¬ 4 < k := by omega
    have n3 : ¬ o < 0 := by omega
    have n4 : ¬ 4 < o := by omega
    go_enter Tryz.func8, Tryz.ntmps8
    go_wp2_with (first | (go_at_call 15; (with_reducible refine haw.mono ?_); rintro _ w1 ⟨rfl, B⟩) | (go_at_call 31; (with_reducible refine (hp1 _).mono ?_); rintro _ w1 ⟨rfl, hb⟩; have B := bt B hb; clear hb))
    all_goals (go_ret; exact ⟨rfl, by assumption⟩)
  cases hb : Ds.pat (Ds.bl b)
  · have haw := aw33 w hm hT
    rw [ha] at hp1
    rw [hb] at hp2
    have n1 : ¬ k < 0 := by omega
    have n2 : ¬ 4 < k := by omega
    have n3 : ¬ o < 0 := by omega
    have n4 : ¬ 4 < o := by omega
    clear hb
    go_enter Tryz.func8, Tryz.ntmps8
    go_wp2_with (first | (go_at_call 15; (with_reducible refine haw.mono ?_); rintro _ w1 ⟨rfl, B⟩) | (go_at_call 31; (with_reducible refine (hp1 _).mono ?_); rintro _ w1 ⟨rfl, hb⟩; have B := bt B hb; clear hb) | (go_at_call 31; (with_reducible refine (hp2 _).mono ?_); rintro _ w1 ⟨rfl, hb⟩; have B := bt B hb; clear hb))
    all_goals (go_ret; exact ⟨rfl, by assumption⟩)
  · exact law_keys_in k o a b w hm hT h1 h2 ha hb
end Go.Proofs.YtihbihkmchacnaaGreatDoor

end
section
/- The statement EntryKeys: the walk, the frame of the row, the card. Conditions: none beyond the statement. -/
namespace Go.Proofs.YtihbihkmchacnaaGreatDoor.entryKeys
open Go.ChangeShapes Go.WideShapes Go.ChangeAt Go.RowKit Go.Proofs.YtihbihkmchacnaaGreatDoor
open Go.ChangeMaps (open_string)

set_option maxRecDepth 100000 in
theorem contract (H : Type) (enc : TypeId × Value → H) (W : World) (base : Nat) (args : Array Value) (ds gs : List (DataW H)) (before : List MemPlace)
    (hval : ∀ (j : Nat) t v, Tryz.f8.params[j]? = some t → args[j]? = some v → Value.okWide Tryz.prog W .any base t v)
    (hW : DataW.Whole enc Tryz.prog Tryz.f8.params.toList Rows.entryKeysSpec.vars false W args.toList ds gs before) (hL : laidMetH Tryz.prog Rows.entryKeysRow.laid W) (hS : W.ShapedOpen Tryz.prog) :
    Calls Tryz.prog 8 args W fun e W' => ∃ v, e = .returned v ∧ Rows.entryKeysSpec.post enc Tryz.prog Tryz.f8 false true false false W args v W' := by
  have hW' := hW
  have hlt : ∀ x ∈ before, x.block < W.heap.size := fun x hx => by simpa using hW'.lt x hx
  obtain ⟨p, q, hA0, hV, rfl, hfz, hnd⟩ := hW
  have hA : DataW.TrodAll enc Tryz.prog W 0 (fun _ => true) true Tryz.f8.params.toList args.toList ds p := hA0
  have hK := hA
  rw [Tryz.params8] at hA hval
  obtain ⟨v0, vs0, d0, ds0, p0, q0, hargs, rfl, rfl, h0, r0⟩ := trodAll_cons hA
  obtain ⟨v1, vs1, d1, ds1, p1, q1, rfl, rfl, rfl, h1, r1⟩ := trodAll_cons r0
  obtain ⟨v2, vs2, d2, ds2, p2, q2, rfl, rfl, rfl, h2, r2⟩ := trodAll_cons r1
  obtain ⟨v3, vs3, d3, ds3, p3, q3, rfl, rfl, rfl, h3, r3⟩ := trodAll_cons r2
  obtain ⟨rfl, rfl, rfl⟩ := trodAll_nil r3
  obtain rfl : args = #[v0, v1, v2, v3] := by cases args; simp_all
  obtain ⟨rfl, rfl⟩ := trodVars_none hV
  obtain ⟨n0, rfl⟩ := okWide_int Tryz.underlying3 (hval 0 3 v0 rfl rfl)
  obtain ⟨n1, rfl⟩ := okWide_int Tryz.underlying3 (hval 1 3 v1 rfl rfl)
  have hs2 := hval 2 9 v2 rfl rfl
  obtain ⟨s2, rfl⟩ := okWide_string Tryz.underlying9 hs2
  have hs3 := hval 3 9 v3 rfl rfl
  obtain ⟨s3, rfl⟩ := okWide_string Tryz.underlying9 hs3
  rw [MakeChecks.laidMetH_plain _ _ _ (by kernel_rfl)] at hL
  refine (law_keys n0 n1 s2 s3 W (max_of hS) (tab_of hL)).mono fun e W' ⟨he, hb⟩ => ?_
  subst he
  exact ⟨_, rfl, _, _, _, [], _, [], hW', trodAll_cons_mk (shut_bool Tryz.underlying4 _) trodAll_mk0, args_below hb (by rw [Tryz.params8]; kernel_rfl) hK (fun x hx => hlt x (by simpa using hx)), rfl, hb.frame _, fun h => by cases h⟩


theorem laid_met (os : Os) : laidMetH Tryz.prog Rows.entryKeysRow.laid ((World.laidAll Tryz.prog os Rows.entryKeysRow.laid).forCall (fun _ _ => 0) ⟨#[], #[(.int .i64 0 : Value), (.int .i64 0 : Value), (.string ⟨#[]⟩ : Value), (.string ⟨#[]⟩ : Value)], []⟩).memory := by
  rw [MakeChecks.laidMetH_plain _ _ _ (by kernel_rfl)]; exact laidMet_laidAll _ (by kernel_rfl) (by kernel_rfl)
theorem reads (os : Os) {H : Type} (enc : TypeId × Value → H) : ∃ places, DataW.whole enc Tryz.prog ((World.laidAll Tryz.prog os Rows.entryKeysRow.laid).forCall (fun _ _ => 0) ⟨#[], #[(.int .i64 0 : Value), (.int .i64 0 : Value), (.string ⟨#[]⟩ : Value), (.string ⟨#[]⟩ : Value)], []⟩).memory Tryz.f8.params.toList Rows.entryKeysSpec.vars false #[(.int .i64 0 : Value), (.int .i64 0 : Value), (.string ⟨#[]⟩ : Value), (.string ⟨#[]⟩ : Value)].toList 8 = some ([.lit (.int .i64 0), .lit (.int .i64 0), .lit (.string []), .lit (.string [])], [], places) :=
  ⟨[], by kernel_rfl⟩

set_option maxRecDepth 100000 in
theorem lifted (os : Os) (started : os.Started) (H : Type) (enc : TypeId × Value → H) (F : Stop.Interp) :
    ReturnsInHanded {} Tryz.checked os 8 .any ((OpenSpec.ofChange Rows.entryKeysSpec).preRow enc Tryz.prog Tryz.f8 Rows.entryKeysRow.domain false Rows.entryKeysRow.laid) (((OpenSpec.ofChange Rows.entryKeysSpec).at F).post enc Tryz.prog Tryz.f8 false true false false) := by
  obtain ⟨places, hx⟩ := reads os enc
  refine returnsInHanded_of_row (C := Tryz.checked) (s := OpenSpec.ofChange Rows.entryKeysSpec) ownk started (by kernel_rfl) Tryz.func8
    (witness_lay (enc := enc) (C := Tryz.checked) false #[(.int .i64 0 : Value), (.int .i64 0 : Value), (.string ⟨#[]⟩ : Value), (.string ⟨#[]⟩ : Value)] (World.shaped_of_ZipB (by kernel_rfl) (by kernel_rfl)) (by kernel_rfl)
      (OpenSpec.preRow_of_cond 8 hx (by kernel_rfl) (fun k hk => by cases hk) (by kernel_rfl) (laid_met os))) ?_
  intro W base args ds gs before hval hW _ _ _ hL hS _
  exact contract H enc W base args ds gs before hval hW hL hS

theorem said : Rows.EntryKeysSaid :=
  OpenClaim.holds_of_cond 8 Tryz.f8 rfl rfl rfl rfl rfl rfl rfl ⟨rfl, rfl, rfl, rfl, rfl⟩ rfl rfl rfl rfl rfl (by kernel_rfl) Tryz.func8 (by kernel_rfl)
    (of_decide_eq_true (by kernel_rfl)) (by unfold Func.isWrapper; first | (rw [if_pos (by decide +kernel)]; kernel_rfl) | (rw [if_neg (by decide +kernel)]; exact ⟨rfl, rfl⟩))
    (fun os started H enc _ F => by rw [OpenClaim.pre_eq_preRow]; exact lifted os started H enc F)

theorem plain (f : FuncId) (fn : Func) (hf : Tryz.pinned.checked.prog.funcNamed Rows.entryKeysRow.func = some f) (hfn : Tryz.pinned.checked.prog.funcs[f]? = some fn) :
    false = Tryz.pinned.checked.prog.looks [] ∧ ∀ (j : Nat) t, fn.params[j]? = some t → Tryz.pinned.checked.prog.wantsStandIn t = false := by
  obtain rfl : f = 8 := Option.some.inj ((show Tryz.prog.funcNamed Rows.entryKeysRow.func = some 8 by kernel_rfl).symm.trans hf) |>.symm
  obtain rfl : fn = Tryz.f8 := (Option.some.inj (Tryz.func8.symm.trans hfn)).symm
  refine ⟨by kernel_rfl, fun j t ht => ?_⟩
  rw [Tryz.params8] at ht
  have hm := Array.mem_of_getElem? ht
  have ha : (#[3, 3, 9, 9] : Array TypeId).all (fun t => !Tryz.prog.wantsStandIn t) = true := by kernel_rfl
  have := (Array.all_eq_true_iff_forall_mem.1 ha) t hm
  exact (show Tryz.prog.wantsStandIn t = false by simpa using this)

/-- THE CARD -/
theorem card : Rows.EntryKeysCardSaid :=
  Claim7.holds_tied_plain_at .later [] _ _ _ _ said (fun _ h => by cases h) (by kernel_rfl) (fun _ h => by cases h) entryKeys_row_tie rfl ⟨rfl, rfl⟩ (by kernel_rfl) rfl plain (by kernel_rfl)
end Go.Proofs.YtihbihkmchacnaaGreatDoor.entryKeys

end
