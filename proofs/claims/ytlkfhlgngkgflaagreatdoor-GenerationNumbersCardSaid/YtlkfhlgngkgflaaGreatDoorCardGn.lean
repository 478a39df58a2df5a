/- Several texts in one: LaGn CardGn. -/
import Derived.Test.YtlkfhlgngkgflaaGreatDoorGeU
import Derived.Test.YtlkfhlgngkgflaaGreatDoorFrameGe
section
/- The walk of the law GenerationNumbers. -/
namespace Go.Proofs.YtlkfhlgngkgflaaGreatDoor
open Go.RowKit
set_option maxHeartbeats 1600000
set_option maxRecDepth 8000
theorem law_numbers_long (b : ByteArray) (last rel : Int) (a : Option Addr) (n c : Nat) (w : World) (hm : MaxL w) (hn : 80 < n) :
    Calls Tryz.prog 3 #[.agg #[.string b, .int .i64 last, .slice a n c], .int .i64 rel] w fun r w' => r = .returned (.bool true) ∧ Below w.heap.size w w' := by
  have e1 : decide ((80 : Int) < (n : Int)) = true := by rw [decide_eq_true_eq]; omega
  go_enter Tryz.func3, Tryz.ntmps3
  go_wp2_with (go_at_call 10; (with_reducible refine (aw38 _ (hm.below (by (repeat (first | exact Below.refl _ _ | assumption | (refine Below.drew ?_) | (refine Below.alloc ?_ (by first | (simp; done) | (simp; omega) | omega) _) | (refine Below.setCell ?_ (by first | (simp; done) | (simp; omega) | omega) _)))))).mono ?_); rintro _ w1 ⟨rfl, hb⟩; have c2 := below_cell hb (cell_row (row_new w _ _ _) 2 _ rfl); have B := below1 hb; clear hb)
  go_ret
  exact ⟨rfl, B⟩
theorem law_numbers (b : ByteArray) (last rel : Int) (exv : Value) (ex : List Int) (w : World) (hm : MaxL w) (h : IS w exv ex) (hn : ex.length ≤ 80) :
    Calls Tryz.prog 3 #[.agg #[.string b, .int .i64 last, exv], .int .i64 rel] w fun r w' => r = .returned (.bool true) ∧ Below w.heap.size w w' := by
  have h0 := h
  obtain ⟨a, c, rfl, hz, -⟩ := h
  have HI := Lib.hid h0
  have e1 : decide ((80 : Int) < (ex.length : Int)) = false := by rw [decide_eq_false_iff_not]; omega
  clear h0
  go_enter Tryz.func3, Tryz.ntmps3
  go_wp2_with (first | (go_at_call 10; (with_reducible refine (aw38 _ (hm.below (by (repeat (first | exact Below.refl _ _ | assumption | (refine Below.drew ?_) | (refine Below.alloc ?_ (by first | (simp; done) | (simp; omega) | omega) _) | (refine Below.setCell ?_ (by first | (simp; done) | (simp; omega) | omega) _)))))).mono ?_); rintro _ w1 ⟨rfl, hb⟩; have r0 := row_below hb (row_new w _ _ _) (by simp); have c0 := cell_row r0 0 _ rfl; have c1 := cell_row r0 1 _ rfl; have c2 := cell_row r0 2 _ rfl; have B := below1 hb; clear hb) | (go_at_call 11; (with_reducible refine (ge_abs _ _ _ _ _ _ (HI.out.below B)).mono ?_); rintro _ w2 ⟨rfl, hb⟩; have r1 := row_below hb r0 (by simp); have d0 := cell_row r1 0 _ rfl; have d1 := cell_row r1 1 _ rfl; have d2 := cell_row r1 2 _ rfl; have B := bt B hb; clear hb) | (go_at_call 12; (with_reducible refine (rge_abs _ _ _ _ _ _ (HI.out.below B)).mono ?_); rintro _ w3 ⟨rfl, hb⟩; have B := bt B hb; clear hb))

  go_ret
  exact ⟨rfl, B⟩
theorem law_numbers_any (b : ByteArray) (last : Int) (a : Option Addr) (n c : Nat) (rel : Int) (w : World) (hm : MaxL w) (h : n ≤ 1000 → ∃ l : List Int, l.length = n ∧ IS w (.slice a n c) l) :
    Calls Tryz.prog 3 #[.agg #[.string b, .int .i64 last, .slice a n c], .int .i64 rel] w fun r w' => r = .returned (.bool true) ∧ Below w.heap.size w w' := by
  rcases Nat.lt_or_ge 80 n with hn | hn
  · exact law_numbers_long b last rel a n c w hm hn
  · obtain ⟨l, hl, hi⟩ := h (by omega)
    exact law_numbers b last rel _ l w hm hi (by omega)
end Go.Proofs.YtlkfhlgngkgflaaGreatDoor

end
section
/- The statement GenerationNumbers: the walk, the frame of the row, the card. Conditions: none beyond the statement. -/
namespace Go.Proofs.YtlkfhlgngkgflaaGreatDoor.generationNumbers
open Go.ChangeShapes Go.WideShapes Go.ChangeAt Go.RowKit Go.Proofs.YtlkfhlgngkgflaaGreatDoor
open Go.ChangeMaps (open_string)

set_option maxRecDepth 100000 in
theorem contract (H : Type) (enc : TypeId × Value → H) (W : World) (base : Nat) (args : Array Value) (ds gs : List (DataW H)) (before : List MemPlace)
    (hval : ∀ (j : Nat) t v, Tryz.f3.params[j]? = some t → args[j]? = some v → Value.okWide Tryz.prog W .any base t v)
    (hW : DataW.Whole enc Tryz.prog Tryz.f3.params.toList Rows.generationNumbersSpec.vars false W args.toList ds gs before) (_hL : laidMetH Tryz.prog Rows.generationNumbersRow.laid W) (hS : W.ShapedOpen Tryz.prog) :
    Calls Tryz.prog 3 args W fun e W' => ∃ v, e = .returned v ∧ Rows.generationNumbersSpec.post enc Tryz.prog Tryz.f3 false true false false W args v W' := by
  have hW' := hW
  have hlt : ∀ x ∈ before, x.block < W.heap.size := fun x hx => by simpa using hW'.lt x hx
  obtain ⟨p, q, hA0, hV, rfl, hfz, hnd⟩ := hW
  have hA : DataW.TrodAll enc Tryz.prog W 0 (fun _ => true) true Tryz.f3.params.toList args.toList ds p := hA0
  have hK := hA
  rw [Tryz.params3] at hA hval
  obtain ⟨v0, vs0, d0, ds0, p0, q0, hargs, rfl, rfl, h0, r0⟩ := trodAll_cons hA
  obtain ⟨v1, vs1, d1, ds1, p1, q1, rfl, rfl, rfl, h1, r1⟩ := trodAll_cons r0
  obtain ⟨rfl, rfl, rfl⟩ := trodAll_nil r1
  obtain rfl : args = #[v0, v1] := by cases args; simp_all
  obtain ⟨rfl, rfl⟩ := trodVars_none hV
  obtain ⟨b0, l0, a0, n0, c0, rfl, o0⟩ := open_gens (hval 0 24 v0 rfl rfl) h0
  obtain ⟨n1, rfl⟩ := okWide_int Tryz.underlying3 (hval 1 3 v1 rfl rfl)
  refine (law_numbers_any b0 l0 a0 n0 c0 n1 W (max_of hS) o0).mono fun e W' ⟨he, hb⟩ => ?_
  subst he
  exact ⟨_, rfl, _, _, _, [], _, [], hW', trodAll_cons_mk (shut_bool Tryz.underlying4 _) trodAll_mk0, args_below hb (by rw [Tryz.params3]; kernel_rfl) hK (fun x hx => hlt x (by simpa using hx)), rfl, hb.frame _, fun h => by cases h⟩


theorem laid_met (os : Os) : laidMetH Tryz.prog Rows.generationNumbersRow.laid ((World.laidAll Tryz.prog os Rows.generationNumbersRow.laid).forCall (fun _ _ => 0) ⟨#[], #[(.agg #[.string ⟨#[]⟩, .int .i64 0, .slice none 0 0] : Value), (.int .i64 0 : Value)], []⟩).memory := by
  rw [MakeChecks.laidMetH_plain _ _ _ (by kernel_rfl)]; exact laidMet_laidAll _ (by kernel_rfl) (by kernel_rfl)
theorem reads (os : Os) {H : Type} (enc : TypeId × Value → H) : ∃ places, DataW.whole enc Tryz.prog ((World.laidAll Tryz.prog os Rows.generationNumbersRow.laid).forCall (fun _ _ => 0) ⟨#[], #[(.agg #[.string ⟨#[]⟩, .int .i64 0, .slice none 0 0] : Value), (.int .i64 0 : Value)], []⟩).memory Tryz.f3.params.toList Rows.generationNumbersSpec.vars false #[(.agg #[.string ⟨#[]⟩, .int .i64 0, .slice none 0 0] : Value), (.int .i64 0 : Value)].toList 8 = some ([.agg [.lit (.string []), .lit (.int .i64 0), .nil], .lit (.int .i64 0)], [], places) :=
  ⟨[], by kernel_rfl⟩

set_option maxRecDepth 100000 in
theorem lifted (os : Os) (started : os.Started) (H : Type) (enc : TypeId × Value → H) (F : Stop.Interp) :
    ReturnsInHanded {} Tryz.checked os 3 .any ((OpenSpec.ofChange Rows.generationNumbersSpec).preRow enc Tryz.prog Tryz.f3 Rows.generationNumbersRow.domain false Rows.generationNumbersRow.laid) (((OpenSpec.ofChange Rows.generationNumbersSpec).at F).post enc Tryz.prog Tryz.f3 false true false false) := by
  obtain ⟨places, hx⟩ := reads os enc
  refine returnsInHanded_of_row (C := Tryz.checked) (s := OpenSpec.ofChange Rows.generationNumbersSpec) ownk started (by kernel_rfl) Tryz.func3
    (witness_lay (enc := enc) (C := Tryz.checked) false #[(.agg #[.string ⟨#[]⟩, .int .i64 0, .slice none 0 0] : Value), (.int .i64 0 : Value)] (World.shaped_of_ZipB (by kernel_rfl) (by kernel_rfl)) (by kernel_rfl)
      (OpenSpec.preRow_of_cond 8 hx (by kernel_rfl) (fun k hk => by cases hk) (by kernel_rfl) (laid_met os))) ?_
  intro W base args ds gs before hval hW _ _ _ hL hS _
  exact contract H enc W base args ds gs before hval hW hL hS

theorem said : Rows.GenerationNumbersSaid :=
  OpenClaim.holds_of_cond 3 Tryz.f3 rfl rfl rfl rfl rfl rfl rfl ⟨rfl, rfl, rfl, rfl, rfl⟩ rfl rfl rfl rfl rfl (by kernel_rfl) Tryz.func3 (by kernel_rfl)
    (of_decide_eq_true (by kernel_rfl)) (by unfold Func.isWrapper; first | (rw [if_pos (by decide +kernel)]; kernel_rfl) | (rw [if_neg (by decide +kernel)]; exact ⟨rfl, rfl⟩))
    (fun os started H enc _ F => by rw [OpenClaim.pre_eq_preRow]; exact lifted os started H enc F)

theorem plain (f : FuncId) (fn : Func) (hf : Tryz.pinned.checked.prog.funcNamed Rows.generationNumbersRow.func = some f) (hfn : Tryz.pinned.checked.prog.funcs[f]? = some fn) :
    false = Tryz.pinned.checked.prog.looks [] ∧ ∀ (j : Nat) t, fn.params[j]? = some t → Tryz.pinned.checked.prog.wantsStandIn t = false := by
  obtain rfl : f = 3 := Option.some.inj ((show Tryz.prog.funcNamed Rows.generationNumbersRow.func = some 3 by kernel_rfl).symm.trans hf) |>.symm
  obtain rfl : fn = Tryz.f3 := (Option.some.inj (Tryz.func3.symm.trans hfn)).symm
  refine ⟨by kernel_rfl, fun j t ht => ?_⟩
  rw [Tryz.params3] at ht
  have hm := Array.mem_of_getElem? ht
  have ha : (#[24, 3] : Array TypeId).all (fun t => !Tryz.prog.wantsStandIn t) = true := by kernel_rfl
  have := (Array.all_eq_true_iff_forall_mem.1 ha) t hm
  exact (show Tryz.prog.wantsStandIn t = false by simpa using this)

/-- THE CARD -/
theorem card : Rows.GenerationNumbersCardSaid :=
  Claim7.holds_tied_plain_at .later [] _ _ _ _ said (fun _ h => by cases h) (by kernel_rfl) (fun _ h => by cases h) generationNumbers_row_tie rfl ⟨rfl, rfl⟩ (by kernel_rfl) rfl plain (by kernel_rfl)
end Go.Proofs.YtlkfhlgngkgflaaGreatDoor.generationNumbers

end
