/- Contracts of package entry: what is valid in an alias and in a catalog's entry; their names. -/
import Derived.Test.YteeenpimaepieaaGreatDoorVaA
import Derived.Test.YteeenpimaepieaaGreatDoorRdA
import Derived.Test.YteeenpimaepieaaGreatDoorEn
import Derived.Test.YteeenpimaepieaaGreatDoorDsW
namespace Go.Proofs.YteeenpimaepieaaGreatDoor
open Go.RowKit
set_option maxHeartbeats 800000
set_option maxRecDepth 4000
attribute [local go_sem] vals_0 vals_1 vals_25 vals_26 vals_27 vals_28 vals_29 vals_30 vals_31
namespace Vp
def nameA (s : List UInt8) : Bool := Ds.name s && !Ds.gen s
def ali (e : En) : Bool := Ds.name (Ds.bl e.target) && !(e.target.toList == e.name.toList)
def nameC (s : List UInt8) : Bool := Ds.name s && decide ((Ds.pieces s).length ≤ 2)
def cat (e : En) : Bool := rng 1 15 [e.cat]
end Vp
theorem va_nameA (s : ByteArray) (w : World) (hs : s.size ≤ 1000) (hm : MaxL w) :
    Calls Tryz.prog 148 #[.string s] w fun r w' => r = .returned (.bool (Vp.nameA (Ds.bl s))) ∧ Below w.heap.size w w' := by
  have h1 := fun W (h : MaxL W) => ds_split s W hs h
  have h2 := fun W (h : MaxL W) => ds_valid s W h
  unfold Vp.nameA
  generalize Ds.gen (Ds.bl s) = y at h1 ⊢
  generalize Ds.name (Ds.bl s) = x at h2 ⊢
  have HS := Lib.hid h1
  have HV := Lib.hid h2
  clear h1 h2
  cases x
  all_goals
    go_enter Tryz.func148, Tryz.ntmps148
    go_wp2_with (first | (go_at_call 100; (with_reducible refine (HS.out _ hm).mono ?_); rintro _ w1 ⟨rfl, B⟩) | (go_at_call 50; (with_reducible refine (HV.out _ (hm.below B)).mono ?_); rintro _ w2 ⟨rfl, hb⟩; have B := bt B hb; clear hb))
    go_ret
    exact ⟨rfl, B⟩
theorem va_alias (e : En) (al gr : Value) (w : World) (hm : MaxL w) :
    Calls Tryz.prog 150 #[.agg (e.vals al gr)] w fun r w' => r = .returned (.bool (Vp.ali e)) ∧ Below w.heap.size w w' := by
  have h2 := fun W (h : MaxL W) => ds_valid e.target W h
  unfold Vp.ali
  generalize Ds.name (Ds.bl e.target) = x at h2 ⊢
  have q : (e.target.toList != e.name.toList) = !(e.target.toList == e.name.toList) := rfl
  have HV := Lib.hid h2
  clear h2
  cases x
  · clear q
    go_enter Tryz.func150, Tryz.ntmps150
    go_wp2_with (go_at_call 50; (with_reducible refine (HV.out _ (hm.below (by (repeat (first | exact Below.refl _ _ | assumption | (refine Below.drew ?_) | (refine Below.alloc ?_ (by first | (simp; done) | (simp; omega) | omega) _) | (refine Below.setCell ?_ (by first | (simp; done) | (simp; omega) | omega) _)))))).mono ?_); rintro _ w2 ⟨rfl, hb⟩; have B := ((Below.refl w.heap.size w).alloc (Nat.le_refl _) _).trans (hb.mono (by simp)); clear hb)
    go_ret
    exact ⟨rfl, B⟩
  · rw [Bool.true_and]
    cases hc : (e.target.toList == e.name.toList)
    all_goals
      rw [hc] at q
      go_enter Tryz.func150, Tryz.ntmps150
      go_wp2_with (go_at_call 50; (with_reducible refine (HV.out _ (hm.below (by (repeat (first | exact Below.refl _ _ | assumption | (refine Below.drew ?_) | (refine Below.alloc ?_ (by first | (simp; done) | (simp; omega) | omega) _) | (refine Below.setCell ?_ (by first | (simp; done) | (simp; omega) | omega) _)))))).mono ?_); rintro _ w2 ⟨rfl, hb⟩; have R := row_below hb (row_new w _ _ _) (by simp [vals_size]); have c29 := cell_row R 29 _ (vals_29 e al gr); have c1 := cell_row R 1 _ (vals_1 e al gr); have B := ((Below.refl w.heap.size w).alloc (Nat.le_refl _) _).trans (hb.mono (by simp)); clear hb)
      go_ret
      exact ⟨rfl, B⟩
theorem va_nameC (s : ByteArray) (w : World) (hm : MaxL w) :
    Calls Tryz.prog 151 #[.string s] w fun r w' => r = .returned (.bool (Vp.nameC (Ds.bl s))) ∧ Below w.heap.size w w' := by
  have h2 := fun W (h : MaxL W) => ds_valid s W h
  have hc : ∀ W, Calls Tryz.prog 152 #[.string s, .string ⟨#[46]⟩] W fun e w' => e = .returned (.int .i64 (Lib.countByte s.data.toList 46)) ∧ w' = W := fun W => Tryz.strings_Count_one s 46 W
  have hp : decide ((Ds.pieces (Ds.bl s)).length ≤ 2) = decide (Lib.countByte s.data.toList 46 < 2) := by
    rw [Ds.pieces_len, Bool.eq_iff_iff, decide_eq_true_eq, decide_eq_true_eq]
    unfold Lib.countByte Ds.bl
    omega
  unfold Vp.nameC
  rw [hp]
  generalize Ds.name (Ds.bl s) = x at h2 ⊢
  generalize Lib.countByte s.data.toList 46 = k at hc ⊢
  have HV := Lib.hid h2
  have HC := Lib.hid hc
  clear h2 hc hp
  cases x
  · go_enter Tryz.func151, Tryz.ntmps151
    go_wp2_with (go_at_call 50; (with_reducible refine (HV.out _ hm).mono ?_); rintro _ w2 ⟨rfl, B⟩)
    go_ret
    exact ⟨rfl, B⟩
  · go_enter Tryz.func151, Tryz.ntmps151
    go_wp2_with (first | (go_at_call 50; (with_reducible refine (HV.out _ hm).mono ?_); rintro _ w2 ⟨rfl, B⟩) | (go_at_call 152; (with_reducible refine (HC.out _).mono ?_); rintro _ w3 ⟨rfl, rfl⟩))
    go_ret
    exact ⟨ret_bool (by rw [Bool.true_and, Bool.eq_iff_iff, decide_eq_true_eq, decide_eq_true_eq]; omega), B⟩
theorem va_cat (e : En) (al gr : Value) (w : World) :
    Calls Tryz.prog 155 #[.agg (e.vals al gr)] w fun r w' => r = .returned (.bool (Vp.cat e)) ∧ Below w.heap.size w w' := by
  have h1 := fun W b h => va_within1 1 15 e.cat b W h
  unfold Vp.cat
  generalize Vp.rng 1 15 [e.cat] = x at h1 ⊢
  go_enter Tryz.func155, Tryz.ntmps155
  go_wp2_with ((with_reducible refine (h1 _ _ (by simp [go_sem])).mono ?_); rintro _ w' ⟨rfl, rfl⟩)
  go_ret
  exact ⟨rfl, by (repeat (first | exact Below.refl _ _ | assumption | (refine Below.drew ?_) | (refine Below.alloc ?_ (by first | (simp; done) | (simp; omega) | omega) _) | (refine Below.setCell ?_ (by first | (simp; done) | (simp; omega) | omega) _)))⟩
end Go.Proofs.YteeenpimaepieaaGreatDoor
