/- Contracts of package entry: what is valid in a group, an alias, a catalog's entry. -/
import Derived.Test.YtlkfhlgngkgflaaGreatDoorVaA
import Derived.Test.YtlkfhlgngkgflaaGreatDoorRdC
import Derived.Test.YtlkfhlgngkgflaaGreatDoorEn
namespace Go.Proofs.YtlkfhlgngkgflaaGreatDoor
open Go.RowKit
set_option maxHeartbeats 800000
set_option maxRecDepth 4000
attribute [local go_sem] vals_0 vals_1 vals_25 vals_26 vals_27 vals_28 vals_29 vals_30 vals_31
namespace Vp
def grp (e : En) : Bool := rng 1 63 [e.lim] && rng 0 9999 [e.last] && own (Ds.bl e.owner)
end Vp
theorem va_group (e : En) (al gr : Value) (w : World) (hm : MaxL w) :
    Calls Tryz.prog 56 #[.agg (e.vals al gr)] w fun r w' => r = .returned (.bool (Vp.grp e)) ∧ Below w.heap.size w w' := by
  have h1 := fun W b h => va_within1 1 63 e.lim b W h
  have h2 := fun W b h => va_within1 0 9999 e.last b W h
  unfold Vp.grp Vp.own
  generalize Vp.rng 1 63 [e.lim] = x at h1 ⊢
  generalize Vp.rng 0 9999 [e.last] = y at h2 ⊢
  have hw := fun W (h : MaxL W) => va_word e.owner W h
  cases x
  · go_enter Tryz.func56, Tryz.ntmps56
    go_wp2_with ((with_reducible refine (h1 _ _ (by simp [go_sem])).mono ?_); rintro _ w' ⟨rfl, rfl⟩)
    go_ret
    exact ⟨rfl, by (repeat (first | exact Below.refl _ _ | assumption | (refine Below.drew ?_) | (refine Below.alloc ?_ (by first | (simp; done) | (simp; omega) | omega) _) | (refine Below.setCell ?_ (by first | (simp; done) | (simp; omega) | omega) _)))⟩
  cases y
  · go_enter Tryz.func56, Tryz.ntmps56
    go_wp2_with (first | ((with_reducible refine (h1 _ _ (by simp [go_sem])).mono ?_); rintro _ w' ⟨rfl, rfl⟩) | ((with_reducible refine (h2 _ _ (by simp [go_sem])).mono ?_); rintro _ w' ⟨rfl, rfl⟩))
    go_ret
    exact ⟨rfl, by (repeat (first | exact Below.refl _ _ | assumption | (refine Below.drew ?_) | (refine Below.alloc ?_ (by first | (simp; done) | (simp; omega) | omega) _) | (refine Below.setCell ?_ (by first | (simp; done) | (simp; omega) | omega) _)))⟩
  by_cases h0 : e.owner.size = 0
  · have e0 : e.owner.toList.isEmpty = true := isEmpty_nil _ h0
    have e1 : (Ds.bl e.owner).isEmpty = true := by rw [List.isEmpty_iff_length_eq_zero, Ds.bl_length]; exact h0
    rw [e1]
    clear h0 e1
    go_enter Tryz.func56, Tryz.ntmps56
    go_wp2_with (first | ((with_reducible refine (h1 _ _ (by simp [go_sem])).mono ?_); rintro _ w' ⟨rfl, rfl⟩) | ((with_reducible refine (h2 _ _ (by simp [go_sem])).mono ?_); rintro _ w' ⟨rfl, rfl⟩))
    go_ret
    exact ⟨rfl, by (repeat (first | exact Below.refl _ _ | assumption | (refine Below.drew ?_) | (refine Below.alloc ?_ (by first | (simp; done) | (simp; omega) | omega) _) | (refine Below.setCell ?_ (by first | (simp; done) | (simp; omega) | omega) _)))⟩
  · have e0 : e.owner.toList.isEmpty = false := isEmpty_of _ (by omega)
    have e1 : (Ds.bl e.owner).isEmpty = false := by rw [Bool.eq_false_iff, Ne, List.isEmpty_iff_length_eq_zero, Ds.bl_length]; exact h0
    rw [e1]
    clear h0 e1
    go_enter Tryz.func56, Tryz.ntmps56
    go_wp2_with (first | ((with_reducible refine (h1 _ _ (by simp [go_sem])).mono ?_); rintro _ w' ⟨rfl, rfl⟩) | ((with_reducible refine (h2 _ _ (by simp [go_sem])).mono ?_); rintro _ w' ⟨rfl, rfl⟩) | ((with_reducible refine (hw _ (hm.below (by (repeat (first | exact Below.refl _ _ | assumption | (refine Below.drew ?_) | (refine Below.alloc ?_ (by first | (simp; done) | (simp; omega) | omega) _) | (refine Below.setCell ?_ (by first | (simp; done) | (simp; omega) | omega) _)))))).mono ?_); rintro _ w' ⟨rfl, B⟩))
    go_ret
    exact ⟨rfl, Below.trans (by (repeat (first | exact Below.refl _ _ | assumption | (refine Below.drew ?_) | (refine Below.alloc ?_ (by first | (simp; done) | (simp; omega) | omega) _) | (refine Below.setCell ?_ (by first | (simp; done) | (simp; omega) | omega) _)))) (B.mono (by simp; omega))⟩
end Go.Proofs.YtlkfhlgngkgflaaGreatDoor
