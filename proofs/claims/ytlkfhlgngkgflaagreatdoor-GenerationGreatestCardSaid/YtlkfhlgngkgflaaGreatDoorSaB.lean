/- Entries compared: the description of a data set. -/
import Derived.Test.YtlkfhlgngkgflaaGreatDoorSaA
import Derived.Test.YtlkfhlgngkgflaaGreatDoorEn
import Derived.Test.YtlkfhlgngkgflaaGreatDoorEnt
namespace Go.Proofs.YtlkfhlgngkgflaaGreatDoor
open Go.RowKit
set_option maxHeartbeats 1600000
set_option maxRecDepth 8000
def isDat : Value → Bool | .pointer (some ⟨_, 2, none⟩) => true | _ => false
theorem isDat_mk (g : Nat) : isDat (.pointer (some ⟨g, 2, none⟩)) = true := rfl
theorem ldDat (ev : Operand → Value) (w : World) (dst x t pos af gd) (h1 : isDat (ev x) = true) (h2 : (row w (headOf (ev x))).size = 33) :
    (execOp ev ⟨dst, .load 31 x, t, pos, af, gd⟩).run Tryz.prog w = .ok (.value (.agg ((row w (headOf (ev x))).extract 2 23))) w := by
  obtain ⟨g, hg⟩ : ∃ g, ev x = .pointer (some ⟨g, 2, none⟩) := by
    unfold isDat at h1
    split at h1
    · rename_i g h; exact ⟨g, h⟩
    · cases h1
  rw [hg, headOf_mk] at h2 ⊢
  simp only at h2 ⊢
  unfold execOp
  have hc : w.rangeAt g 2 ((row w g).extract 2 23).toList := fun j v hv => by
    rw [Array.getElem?_toList, Array.getElem?_extract] at hv
    split at hv
    · exact cell_row rfl (2 + j) v hv
    · cases hv
  have hl : ((row w g).extract 2 23).toList.length = 21 := by simp [h2]
  have hr := run_loadAt_mid (P := Tryz.prog) w g 2 31 _ _ hc Tryz.underlying31 rfl (by rw [hl]; kernel_rfl)
  simp only [hg, Sem.run_bind, hr, Result.andThen_ok, Sem.run_pure, Array.toArray_toList]
theorem tl_inj (a b : ByteArray) : (a.toList = b.toList) ↔ (a = b) := ⟨fun h => by
    have h1 := Lib.toList_data a
    have h2 := Lib.toList_data b
    exact Ds.bl_inj (h1.symm.trans (h.trans h2)), fun h => by rw [h]⟩
theorem ite_ok (c : Prop) [Decidable c] (b : Bool) (w : World) : (if c then (Result.ok (Value.bool b) w : Result Value) else .ok (.bool false) w) = .ok (.bool (decide c && b)) w := by by_cases h : c <;> simp [h]
theorem dat_eql (e f : En) (w : World) : (binOp .eql 31 (.agg e.dat) (.agg f.dat)).run Tryz.prog w = .ok (.bool (datEq e f)) w := by
  rw [run_eql_struct, run_equalIn_struct w 9999 31 _ _ (by simp [Program.fieldsOf, Tryz.underlying31]) (by kernel_rfl)]
  unfold En.dat
  simp [Program.fieldsOf, Tryz.underlying31, Op.eqFields, go_sem]
  simp only [ite_ok]
  have hb : ∀ x y : Bool, x = y → (Result.ok (Value.bool x) w : Result Value) = .ok (.bool y) w := fun x y h => by rw [h]
  apply hb
  unfold datEq
  rw [Bool.eq_iff_iff]
  simp only [Bool.and_eq_true, decide_eq_true_eq, beq_iff_eq, and_assoc, and_true]
end Go.Proofs.YtlkfhlgngkgflaaGreatDoor
