/- Several texts in one: GeT GeU. -/
import Derived.Test.YtbkbgkicpfbjfaaGreatDoorGeS
import Derived.Test.YtbkbgkicpfbjfaaGreatDoorGeE
import Derived.BigGuardPart
import Derived.BigCall
section
/- The walk of awake. -/
namespace Go.Proofs.YtbkbgkicpfbjfaaGreatDoor
open Go.RowKit
set_option maxHeartbeats 1600000
set_option maxRecDepth 8000
def gPay : En := { En.zero with kind := 1, name := ⟨#[80, 65, 89]⟩, lim := 3, last := 7 }
def litPay : Array Value := #[.int .i64 1, .string ⟨#[80, 65, 89]⟩, .int .i64 0, .int .i64 0, .int .i64 0, .int .i64 0, .int .i64 0, .int .i64 0, .int .i64 0, .int .i64 0, .int .i64 0, .int .i64 0, .int .i64 0, .int .i64 0, .int .i64 0, .int .i64 0, .bool false, .int .i64 0, .string ⟨#[]⟩, .string ⟨#[]⟩, .int .i64 0, .int .i64 0, .bool false, .slice none 0 0, .int .i64 0, .int .i64 3, .int .i64 7, .bool false, .string ⟨#[]⟩, .string ⟨#[]⟩, .int .i64 0, .int .i64 0, .slice none 0 0]
theorem gpay_lit : gPay.vals (.slice none 0 0) (.slice none 0 0) = litPay := by unfold En.vals; rfl
theorem same_pay : sameE (onlyG gPay) gPay [] [] [] [] = true := by
  unfold sameE datEq
  simp [onlyG, gPay, En.zero]
theorem ok_pay : okE gPay [] [] [4, 6, 7] = true := by
  unfold okE okG
  rw [same_pay]
  decide +kernel
theorem fold_pay : foldA gPay [] [] [4, 6, 7] [8] = (0, 8, [6, 7, 8], [4]) := by
  unfold foldA
  rw [ok_pay]
  decide +kernel
theorem rolled_pay : rolled gPay (.slice none 0 0) (.slice none 0 0) (0, 8, [6, 7, 8], [4]) = ({ gPay with last := 8 } : En).vals (.slice none 0 0) (.slice none 0 0) := by unfold rolled; rw [if_pos rfl]
theorem is467 (w : World) (t : TypeId) : IS (w.alloc (.cells #[.int .i64 4, .int .i64 6, .int .i64 7] t)) (.slice (some ⟨w.heap.size, 0, none⟩) 3 3) [4, 6, 7] :=
  ⟨_, 3, rfl, by decide, fun _ => ⟨w.heap.size, 0, rfl, by simp, fun k hk => by
    rw [cell_of_row _ w.heap.size (0 + k) _ t (0, 0) (heap_alloc_new w _)]
    rcases (by simp at hk; omega : k = 0 ∨ k = 1 ∨ k = 2) with rfl | rfl | rfl <;> rfl⟩⟩
theorem is467' (w : World) (t : TypeId) (k : Nat) (h : w.heap.size = k) : IS (w.alloc (.cells #[.int .i64 4, .int .i64 6, .int .i64 7] t)) (.slice (some ⟨k, 0, none⟩) 3 3) [4, 6, 7] := by subst h; exact is467 w t
theorem aw_rollin (w : World) (hm : MaxL w) (exv : Value) (h : IS w exv [4, 6, 7]) :
    Calls Tryz.prog 24 #[.agg litPay, exv, .int .i64 8] w fun r w' => ∃ b o c, r = .returned (.tuple #[.agg (({ gPay with last := 8 } : En).vals (.slice none 0 0) (.slice none 0 0)), .slice (some ⟨b, o, none⟩) 1 c, .int .i64 0]) ∧ w'.cell? ⟨b, o, none⟩ = some (.int .i64 4) ∧ Below w.heap.size w w' := by
  have hr := ge_rollin gPay (.slice none 0 0) (.slice none 0 0) exv [] [4, 6, 7] [] 8 w hm (IS.nil w) (GS.nil w) h (by decide)
  rw [fold_pay, rolled_pay, gpay_lit] at hr
  refine hr.mono ?_
  rintro r w' ⟨v, rfl, ⟨⟨a, c, rfl, -, hc⟩, -⟩, hb⟩
  obtain ⟨b, o, rfl, -, hc⟩ := hc (by decide)
  exact ⟨b, o, c, rfl, hc 0 (by decide), hb⟩
theorem aw_abs1 (w : World) (exv : Value) (h : IS w exv [4, 6, 7]) :
    Calls Tryz.prog 23 #[.agg #[.string ⟨#[]⟩, .int .i64 7, exv], .int .i64 (-1)] w fun r w' => r = .returned (.tuple #[.int .i64 6, .int .i64 0]) ∧ Below w.heap.size w w' := by
  have := ge_abs ⟨#[]⟩ 7 (-1) exv [4, 6, 7] w h
  rw [show Ge.abs 7 [4, 6, 7] (-1) = (6, 0) by decide] at this
  exact this
theorem aw_abs2 (w : World) (exv : Value) (h : IS w exv [4, 6, 7]) :
    Calls Tryz.prog 23 #[.agg #[.string ⟨#[]⟩, .int .i64 7, exv], .int .i64 1] w fun r w' => r = .returned (.tuple #[.int .i64 8, .int .i64 0]) ∧ Below w.heap.size w w' := by
  have := ge_abs ⟨#[]⟩ 7 1 exv [4, 6, 7] w h
  rw [show Ge.abs 7 [4, 6, 7] 1 = (8, 0) by decide] at this
  exact this
theorem aw_valid (w : World) (hm : MaxL w) (exv : Value) (h : IS w exv [4, 6, 7]) :
    Calls Tryz.prog 22 #[.agg litPay, exv] w fun r w' => r = .returned (.bool true) ∧ Below w.heap.size w w' := by
  have := ge_valid gPay (.slice none 0 0) (.slice none 0 0) exv [] [4, 6, 7] [] w hm (IS.nil w) (GS.nil w) h
  rw [ok_pay, gpay_lit] at this
  exact this
end Go.Proofs.YtbkbgkicpfbjfaaGreatDoor

end
section
/- The walk of awake; the law GenerationNumbers. -/
namespace Go.Proofs.YtbkbgkicpfbjfaaGreatDoor
open Go.RowKit
set_option maxHeartbeats 1600000
set_option maxRecDepth 8000
attribute [local go_sem ↓] ldEnt stEnt
attribute [local go_sem] isHead_mk headOf_mk cellsOfV_mk isAggV_mk row_new row_new2 row_new2' row_drew row_drewN vals_size vals_26 allOne_nil allOne_cons one_int one_bool one_string one_pointer one_slice
theorem vone (e : En) : allOne (e.vals (.slice none 0 0) (.slice none 0 0)).toList = true := vals_one _ _ _ rfl rfl
theorem cell_alloc {w : World} {a : Addr} {v : Value} (o : Obj) (h : w.cell? a = some v) : (w.alloc o).cell? a = some v := below_cell ((Below.refl _ _).alloc (Nat.le_refl _) o) h
theorem row_keep {w w' : World} {g : Nat} {cs : Array Value} (h : row w g = cs) (h0 : 0 < cs.size) (hb : Below w.heap.size w w') (o : Obj) : row (w'.alloc o) g = cs := row_below ((Below.refl w'.heap.size w').alloc (Nat.le_refl _) o) (row_below hb h h0) h0
theorem aw38 (w : World) (hm : MaxL w) :
    Calls Tryz.prog 15 #[] w fun r w' => r = .returned (.bool true) ∧ Below w.heap.size w w' := by
  have hr := aw_rollin
  have hv := aw_valid
  unfold litPay at hr hv
  have HR := Lib.hid hr
  have HV := Lib.hid hv
  clear hr hv
  have h8 := vone ({ gPay with last := 8 } : En)
  have v26 := vals_26 ({ gPay with last := 8 } : En) (.slice none 0 0) (.slice none 0 0)
  have vz := vals_size ({ gPay with last := 8 } : En) (.slice none 0 0) (.slice none 0 0)
  have v26 : (({ gPay with last := 8 } : En).vals (.slice none 0 0) (.slice none 0 0))[26]? = some (.int .i64 8) := v26
  generalize hX : ({ gPay with last := 8 } : En).vals (.slice none 0 0) (.slice none 0 0) = X at h8 v26 vz
  rw [hX] at HR
  clear hX
  go_enter Tryz.func15, Tryz.ntmps15
  go_wp2_with (first | (go_at_call 24; (with_reducible refine (HR.out _ (hm.below (by (repeat (first | exact Below.refl _ _ | assumption | (refine Below.drew ?_) | (refine Below.alloc ?_ (by first | (simp; done) | (simp; omega) | omega) _) | (refine Below.setCell ?_ (by first | (simp; done) | (simp; omega) | omega) _))))) _ (is467' _ _ _ (by simp))).mono ?_); rintro _ w1 ⟨b, o, c, rfl, c4, hb⟩; have rL := row_below hb (row_new2 w _ _ _ _) (by simp); have B := below2 hb; clear hb) | (go_at_call 23; (with_reducible refine (aw_abs1 _ _ (is467' _ _ _ (by simp))).mono ?_); rintro _ w2 ⟨rfl, hb⟩; have K := below2 hb; have d4 := below_cell K c4; have sL := row_below K rL (by simp); have x8 := below_cell hb (cell_alloc _ (cell_row (row_new w1 X 27 (0, 0)) 26 _ v26)); have B2 := bt B K; clear hb) | (go_at_call 23; (with_reducible refine (aw_abs2 _ _ (is467' _ _ _ (by simp))).mono ?_); rintro _ w3 ⟨rfl, hb⟩; have K2 := below1 hb; have e4 := below_cell K2 d4; have tL := row_below K2 sL (by simp); have y8 := below_cell K2 x8; have B3 := bt B2 K2; clear hb) | (go_at_call 22; (with_reducible refine (HV.out _ (hm.below (B3.alloc B3.size _)) _ (is467' _ _ _ (by simp))).mono ?_); rintro _ w4 ⟨rfl, hb⟩; have B4 := bt B3 (below1 hb)))
  go_ret
  exact ⟨rfl, B4⟩
end Go.Proofs.YtbkbgkicpfbjfaaGreatDoor

end
