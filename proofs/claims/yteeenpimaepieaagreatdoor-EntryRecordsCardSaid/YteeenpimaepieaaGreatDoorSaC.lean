/- Contracts of package entry: Same. Printed by wip/mksame.py. -/
import Derived.Test.YteeenpimaepieaaGreatDoorSaA
import Derived.Test.YteeenpimaepieaaGreatDoorKit
import Derived.BigGuardPart
import Derived.BigCall
namespace Go.Proofs.YteeenpimaepieaaGreatDoor
open Go.RowKit
set_option maxHeartbeats 800000
set_option maxRecDepth 8000
attribute [local go_sem ↓ high] ldDat dat_eql
attribute [local go_sem] isDat_mk headOf_mk row_new row_new2 row_new2' row_drew row_drewN vals_size vals_dat vals_0 vals_1 vals_23 vals_24 vals_25 vals_26 vals_27 vals_28 vals_29 vals_30 vals_31 vals_32
/-- are two entries equal? -/
def sameE (e f : En) (l1 l2 : List Int) (g1 g2 : List Gr) : Bool :=
  (e.kind == f.kind) && (e.name.toList == f.name.toList) && datEq e f && decide (l1 = l2) && (e.used == f.used) && (e.lim == f.lim) && (e.last == f.last) && (e.em == f.em) && (e.owner.toList == f.owner.toList) && (e.target.toList == f.target.toList) && (e.cat == f.cat) && (e.lev == f.lev) && decide (g1 = g2)
theorem en_same0 (e f : En) (al1 gr1 al2 gr2 : Value) (l1 l2 : List Int) (g1 g2 : List Gr) (w : World) (h1 : IS w al1 l1) (h2 : IS w al2 l2) (h3 : GS w gr1 g1) (h4 : GS w gr2 g2)  (t0 : (e.kind == f.kind) = false) :
    Calls Tryz.prog 16 #[.agg (e.vals al1 gr1), .agg (f.vals al2 gr2)] w fun r w' => r = .returned (.bool false) ∧ Below w.heap.size w w' := by
  have hi := fun W (b : Below w.heap.size w W) => is_equal al1 al2 l1 l2 W (h1.below b) (h2.below b)
  have hg := fun W (b : Below w.heap.size w W) => gs_equal gr1 gr2 g1 g2 W (h3.below b) (h4.below b)
  have B := Below.refl w.heap.size w
  clear h1 h2 h3 h4
  go_enter Tryz.func16, Tryz.ntmps16
  simp only [List.append_eq, List.cons_append, List.nil_append]
  go_wp2_with (first | (go_at_call 73; (with_reducible refine (hi _ (by (repeat (first | exact Below.refl _ _ | assumption | (refine Below.drew ?_) | (refine Below.alloc ?_ (by first | (simp; done) | (simp; omega) | omega) _) | (refine Below.setCell ?_ (by first | (simp; done) | (simp; omega) | omega) _))))).mono ?_); rintro _ w1 ⟨rfl, hb⟩; obtain ⟨hc1, hf1⟩ := bcell hb; have B := Below.trans (show Below w.heap.size w _ by (repeat (first | exact Below.refl _ _ | assumption | (refine Below.drew ?_) | (refine Below.alloc ?_ (by first | (simp; done) | (simp; omega) | omega) _) | (refine Below.setCell ?_ (by first | (simp; done) | (simp; omega) | omega) _)))) (hb.mono (by simp; omega))) | (go_at_call 74; (with_reducible refine (hg _ B).mono ?_); rintro _ w2 ⟨rfl, hb2⟩; have B := bt B hb2))
  go_ret
  exact ⟨rfl, by first | exact B | (repeat (first | exact Below.refl _ _ | assumption | (refine Below.drew ?_) | (refine Below.alloc ?_ (by first | (simp; done) | (simp; omega) | omega) _) | (refine Below.setCell ?_ (by first | (simp; done) | (simp; omega) | omega) _)))⟩
theorem en_same1 (e f : En) (al1 gr1 al2 gr2 : Value) (l1 l2 : List Int) (g1 g2 : List Gr) (w : World) (h1 : IS w al1 l1) (h2 : IS w al2 l2) (h3 : GS w gr1 g1) (h4 : GS w gr2 g2) (t0 : (e.kind == f.kind) = true) (t1 : (e.name.toList == f.name.toList) = false) :
    Calls Tryz.prog 16 #[.agg (e.vals al1 gr1), .agg (f.vals al2 gr2)] w fun r w' => r = .returned (.bool false) ∧ Below w.heap.size w w' := by
  have hi := fun W (b : Below w.heap.size w W) => is_equal al1 al2 l1 l2 W (h1.below b) (h2.below b)
  have hg := fun W (b : Below w.heap.size w W) => gs_equal gr1 gr2 g1 g2 W (h3.below b) (h4.below b)
  have B := Below.refl w.heap.size w
  clear h1 h2 h3 h4
  go_enter Tryz.func16, Tryz.ntmps16
  simp only [List.append_eq, List.cons_append, List.nil_append]
  go_wp2_with (first | (go_at_call 73; (with_reducible refine (hi _ (by (repeat (first | exact Below.refl _ _ | assumption | (refine Below.drew ?_) | (refine Below.alloc ?_ (by first | (simp; done) | (simp; omega) | omega) _) | (refine Below.setCell ?_ (by first | (simp; done) | (simp; omega) | omega) _))))).mono ?_); rintro _ w1 ⟨rfl, hb⟩; obtain ⟨hc1, hf1⟩ := bcell hb; have B := Below.trans (show Below w.heap.size w _ by (repeat (first | exact Below.refl _ _ | assumption | (refine Below.drew ?_) | (refine Below.alloc ?_ (by first | (simp; done) | (simp; omega) | omega) _) | (refine Below.setCell ?_ (by first | (simp; done) | (simp; omega) | omega) _)))) (hb.mono (by simp; omega))) | (go_at_call 74; (with_reducible refine (hg _ B).mono ?_); rintro _ w2 ⟨rfl, hb2⟩; have B := bt B hb2))
  go_ret
  exact ⟨rfl, by first | exact B | (repeat (first | exact Below.refl _ _ | assumption | (refine Below.drew ?_) | (refine Below.alloc ?_ (by first | (simp; done) | (simp; omega) | omega) _) | (refine Below.setCell ?_ (by first | (simp; done) | (simp; omega) | omega) _)))⟩
theorem en_same2 (e f : En) (al1 gr1 al2 gr2 : Value) (l1 l2 : List Int) (g1 g2 : List Gr) (w : World) (h1 : IS w al1 l1) (h2 : IS w al2 l2) (h3 : GS w gr1 g1) (h4 : GS w gr2 g2) (t0 : (e.kind == f.kind) = true) (t1 : (e.name.toList == f.name.toList) = true) (t2 : datEq e f = false) :
    Calls Tryz.prog 16 #[.agg (e.vals al1 gr1), .agg (f.vals al2 gr2)] w fun r w' => r = .returned (.bool false) ∧ Below w.heap.size w w' := by
  have hi := fun W (b : Below w.heap.size w W) => is_equal al1 al2 l1 l2 W (h1.below b) (h2.below b)
  have hg := fun W (b : Below w.heap.size w W) => gs_equal gr1 gr2 g1 g2 W (h3.below b) (h4.below b)
  have B := Below.refl w.heap.size w
  clear h1 h2 h3 h4
  go_enter Tryz.func16, Tryz.ntmps16
  simp only [List.append_eq, List.cons_append, List.nil_append]
  go_wp2_with (first | (go_at_call 73; (with_reducible refine (hi _ (by (repeat (first | exact Below.refl _ _ | assumption | (refine Below.drew ?_) | (refine Below.alloc ?_ (by first | (simp; done) | (simp; omega) | omega) _) | (refine Below.setCell ?_ (by first | (simp; done) | (simp; omega) | omega) _))))).mono ?_); rintro _ w1 ⟨rfl, hb⟩; obtain ⟨hc1, hf1⟩ := bcell hb; have B := Below.trans (show Below w.heap.size w _ by (repeat (first | exact Below.refl _ _ | assumption | (refine Below.drew ?_) | (refine Below.alloc ?_ (by first | (simp; done) | (simp; omega) | omega) _) | (refine Below.setCell ?_ (by first | (simp; done) | (simp; omega) | omega) _)))) (hb.mono (by simp; omega))) | (go_at_call 74; (with_reducible refine (hg _ B).mono ?_); rintro _ w2 ⟨rfl, hb2⟩; have B := bt B hb2))
  go_ret
  exact ⟨rfl, by first | exact B | (repeat (first | exact Below.refl _ _ | assumption | (refine Below.drew ?_) | (refine Below.alloc ?_ (by first | (simp; done) | (simp; omega) | omega) _) | (refine Below.setCell ?_ (by first | (simp; done) | (simp; omega) | omega) _)))⟩
theorem en_same3 (e f : En) (al1 gr1 al2 gr2 : Value) (l1 l2 : List Int) (g1 g2 : List Gr) (w : World) (h1 : IS w al1 l1) (h2 : IS w al2 l2) (h3 : GS w gr1 g1) (h4 : GS w gr2 g2) (t0 : (e.kind == f.kind) = true) (t1 : (e.name.toList == f.name.toList) = true) (t2 : datEq e f = true) (t3 : decide (l1 = l2) = false) :
    Calls Tryz.prog 16 #[.agg (e.vals al1 gr1), .agg (f.vals al2 gr2)] w fun r w' => r = .returned (.bool false) ∧ Below w.heap.size w w' := by
  have hi := fun W (b : Below w.heap.size w W) => is_equal al1 al2 l1 l2 W (h1.below b) (h2.below b)
  have hg := fun W (b : Below w.heap.size w W) => gs_equal gr1 gr2 g1 g2 W (h3.below b) (h4.below b)
  rw [t3] at hi
  have B := Below.refl w.heap.size w
  clear h1 h2 h3 h4
  go_enter Tryz.func16, Tryz.ntmps16
  simp only [List.append_eq, List.cons_append, List.nil_append]
  go_wp2_with (first | (go_at_call 73; (with_reducible refine (hi _ (by (repeat (first | exact Below.refl _ _ | assumption | (refine Below.drew ?_) | (refine Below.alloc ?_ (by first | (simp; done) | (simp; omega) | omega) _) | (refine Below.setCell ?_ (by first | (simp; done) | (simp; omega) | omega) _))))).mono ?_); rintro _ w1 ⟨rfl, hb⟩; obtain ⟨hc1, hf1⟩ := bcell hb; have B := Below.trans (show Below w.heap.size w _ by (repeat (first | exact Below.refl _ _ | assumption | (refine Below.drew ?_) | (refine Below.alloc ?_ (by first | (simp; done) | (simp; omega) | omega) _) | (refine Below.setCell ?_ (by first | (simp; done) | (simp; omega) | omega) _)))) (hb.mono (by simp; omega))) | (go_at_call 74; (with_reducible refine (hg _ B).mono ?_); rintro _ w2 ⟨rfl, hb2⟩; have B := bt B hb2))
  go_ret
  exact ⟨rfl, by first | exact B | (repeat (first | exact Below.refl _ _ | assumption | (refine Below.drew ?_) | (refine Below.alloc ?_ (by first | (simp; done) | (simp; omega) | omega) _) | (refine Below.setCell ?_ (by first | (simp; done) | (simp; omega) | omega) _)))⟩
theorem en_same4 (e f : En) (al1 gr1 al2 gr2 : Value) (l1 l2 : List Int) (g1 g2 : List Gr) (w : World) (h1 : IS w al1 l1) (h2 : IS w al2 l2) (h3 : GS w gr1 g1) (h4 : GS w gr2 g2) (t0 : (e.kind == f.kind) = true) (t1 : (e.name.toList == f.name.toList) = true) (t2 : datEq e f = true) (t3 : decide (l1 = l2) = true) (t4 : (e.used == f.used) = false) :
    Calls Tryz.prog 16 #[.agg (e.vals al1 gr1), .agg (f.vals al2 gr2)] w fun r w' => r = .returned (.bool false) ∧ Below w.heap.size w w' := by
  have hi := fun W (b : Below w.heap.size w W) => is_equal al1 al2 l1 l2 W (h1.below b) (h2.below b)
  have hg := fun W (b : Below w.heap.size w W) => gs_equal gr1 gr2 g1 g2 W (h3.below b) (h4.below b)
  rw [t3] at hi
  have B := Below.refl w.heap.size w
  clear h1 h2 h3 h4
  go_enter Tryz.func16, Tryz.ntmps16
  simp only [List.append_eq, List.cons_append, List.nil_append]
  go_wp2_with (first | (go_at_call 73; (with_reducible refine (hi _ (by (repeat (first | exact Below.refl _ _ | assumption | (refine Below.drew ?_) | (refine Below.alloc ?_ (by first | (simp; done) | (simp; omega) | omega) _) | (refine Below.setCell ?_ (by first | (simp; done) | (simp; omega) | omega) _))))).mono ?_); rintro _ w1 ⟨rfl, hb⟩; obtain ⟨hc1, hf1⟩ := bcell hb; have B := Below.trans (show Below w.heap.size w _ by (repeat (first | exact Below.refl _ _ | assumption | (refine Below.drew ?_) | (refine Below.alloc ?_ (by first | (simp; done) | (simp; omega) | omega) _) | (refine Below.setCell ?_ (by first | (simp; done) | (simp; omega) | omega) _)))) (hb.mono (by simp; omega))) | (go_at_call 74; (with_reducible refine (hg _ B).mono ?_); rintro _ w2 ⟨rfl, hb2⟩; have B := bt B hb2))
  go_ret
  exact ⟨rfl, by first | exact B | (repeat (first | exact Below.refl _ _ | assumption | (refine Below.drew ?_) | (refine Below.alloc ?_ (by first | (simp; done) | (simp; omega) | omega) _) | (refine Below.setCell ?_ (by first | (simp; done) | (simp; omega) | omega) _)))⟩
theorem en_same5 (e f : En) (al1 gr1 al2 gr2 : Value) (l1 l2 : List Int) (g1 g2 : List Gr) (w : World) (h1 : IS w al1 l1) (h2 : IS w al2 l2) (h3 : GS w gr1 g1) (h4 : GS w gr2 g2) (t0 : (e.kind == f.kind) = true) (t1 : (e.name.toList == f.name.toList) = true) (t2 : datEq e f = true) (t3 : decide (l1 = l2) = true) (t4 : (e.used == f.used) = true) (t5 : (e.lim == f.lim) = false) :
    Calls Tryz.prog 16 #[.agg (e.vals al1 gr1), .agg (f.vals al2 gr2)] w fun r w' => r = .returned (.bool false) ∧ Below w.heap.size w w' := by
  have hi := fun W (b : Below w.heap.size w W) => is_equal al1 al2 l1 l2 W (h1.below b) (h2.below b)
  have hg := fun W (b : Below w.heap.size w W) => gs_equal gr1 gr2 g1 g2 W (h3.below b) (h4.below b)
  rw [t3] at hi
  have B := Below.refl w.heap.size w
  clear h1 h2 h3 h4
  go_enter Tryz.func16, Tryz.ntmps16
  simp only [List.append_eq, List.cons_append, List.nil_append]
  go_wp2_with (first | (go_at_call 73; (with_reducible refine (hi _ (by (repeat (first | exact Below.refl _ _ | assumption | (refine Below.drew ?_) | (refine Below.alloc ?_ (by first | (simp; done) | (simp; omega) | omega) _) | (refine Below.setCell ?_ (by first | (simp; done) | (simp; omega) | omega) _))))).mono ?_); rintro _ w1 ⟨rfl, hb⟩; obtain ⟨hc1, hf1⟩ := bcell hb; have B := Below.trans (show Below w.heap.size w _ by (repeat (first | exact Below.refl _ _ | assumption | (refine Below.drew ?_) | (refine Below.alloc ?_ (by first | (simp; done) | (simp; omega) | omega) _) | (refine Below.setCell ?_ (by first | (simp; done) | (simp; omega) | omega) _)))) (hb.mono (by simp; omega))) | (go_at_call 74; (with_reducible refine (hg _ B).mono ?_); rintro _ w2 ⟨rfl, hb2⟩; have B := bt B hb2))
  go_ret
  exact ⟨rfl, by first | exact B | (repeat (first | exact Below.refl _ _ | assumption | (refine Below.drew ?_) | (refine Below.alloc ?_ (by first | (simp; done) | (simp; omega) | omega) _) | (refine Below.setCell ?_ (by first | (simp; done) | (simp; omega) | omega) _)))⟩
theorem en_same6 (e f : En) (al1 gr1 al2 gr2 : Value) (l1 l2 : List Int) (g1 g2 : List Gr) (w : World) (h1 : IS w al1 l1) (h2 : IS w al2 l2) (h3 : GS w gr1 g1) (h4 : GS w gr2 g2) (t0 : (e.kind == f.kind) = true) (t1 : (e.name.toList == f.name.toList) = true) (t2 : datEq e f = true) (t3 : decide (l1 = l2) = true) (t4 : (e.used == f.used) = true) (t5 : (e.lim == f.lim) = true) (t6 : (e.last == f.last) = false) :
    Calls Tryz.prog 16 #[.agg (e.vals al1 gr1), .agg (f.vals al2 gr2)] w fun r w' => r = .returned (.bool false) ∧ Below w.heap.size w w' := by
  have hi := fun W (b : Below w.heap.size w W) => is_equal al1 al2 l1 l2 W (h1.below b) (h2.below b)
  have hg := fun W (b : Below w.heap.size w W) => gs_equal gr1 gr2 g1 g2 W (h3.below b) (h4.below b)
  rw [t3] at hi
  have B := Below.refl w.heap.size w
  clear h1 h2 h3 h4
  go_enter Tryz.func16, Tryz.ntmps16
  simp only [List.append_eq, List.cons_append, List.nil_append]
  go_wp2_with (first | (go_at_call 73; (with_reducible refine (hi _ (by (repeat (first | exact Below.refl _ _ | assumption | (refine Below.drew ?_) | (refine Below.alloc ?_ (by first | (simp; done) | (simp; omega) | omega) _) | (refine Below.setCell ?_ (by first | (simp; done) | (simp; omega) | omega) _))))).mono ?_); rintro _ w1 ⟨rfl, hb⟩; obtain ⟨hc1, hf1⟩ := bcell hb; have B := Below.trans (show Below w.heap.size w _ by (repeat (first | exact Below.refl _ _ | assumption | (refine Below.drew ?_) | (refine Below.alloc ?_ (by first | (simp; done) | (simp; omega) | omega) _) | (refine Below.setCell ?_ (by first | (simp; done) | (simp; omega) | omega) _)))) (hb.mono (by simp; omega))) | (go_at_call 74; (with_reducible refine (hg _ B).mono ?_); rintro _ w2 ⟨rfl, hb2⟩; have B := bt B hb2))
  go_ret
  exact ⟨rfl, by first | exact B | (repeat (first | exact Below.refl _ _ | assumption | (refine Below.drew ?_) | (refine Below.alloc ?_ (by first | (simp; done) | (simp; omega) | omega) _) | (refine Below.setCell ?_ (by first | (simp; done) | (simp; omega) | omega) _)))⟩
theorem en_same7 (e f : En) (al1 gr1 al2 gr2 : Value) (l1 l2 : List Int) (g1 g2 : List Gr) (w : World) (h1 : IS w al1 l1) (h2 : IS w al2 l2) (h3 : GS w gr1 g1) (h4 : GS w gr2 g2) (t0 : (e.kind == f.kind) = true) (t1 : (e.name.toList == f.name.toList) = true) (t2 : datEq e f = true) (t3 : decide (l1 = l2) = true) (t4 : (e.used == f.used) = true) (t5 : (e.lim == f.lim) = true) (t6 : (e.last == f.last) = true) (t7 : (e.em == f.em) = false) :
    Calls Tryz.prog 16 #[.agg (e.vals al1 gr1), .agg (f.vals al2 gr2)] w fun r w' => r = .returned (.bool false) ∧ Below w.heap.size w w' := by
  have hi := fun W (b : Below w.heap.size w W) => is_equal al1 al2 l1 l2 W (h1.below b) (h2.below b)
  have hg := fun W (b : Below w.heap.size w W) => gs_equal gr1 gr2 g1 g2 W (h3.below b) (h4.below b)
  rw [t3] at hi
  have B := Below.refl w.heap.size w
  clear h1 h2 h3 h4
  go_enter Tryz.func16, Tryz.ntmps16
  simp only [List.append_eq, List.cons_append, List.nil_append]
  go_wp2_with (first | (go_at_call 73; (with_reducible refine (hi _ (by (repeat (first | exact Below.refl _ _ | assumption | (refine Below.drew ?_) | (refine Below.alloc ?_ (by first | (simp; done) | (simp; omega) | omega) _) | (refine Below.setCell ?_ (by first | (simp; done) | (simp; omega) | omega) _))))).mono ?_); rintro _ w1 ⟨rfl, hb⟩; obtain ⟨hc1, hf1⟩ := bcell hb; have B := Below.trans (show Below w.heap.size w _ by (repeat (first | exact Below.refl _ _ | assumption | (refine Below.drew ?_) | (refine Below.alloc ?_ (by first | (simp; done) | (simp; omega) | omega) _) | (refine Below.setCell ?_ (by first | (simp; done) | (simp; omega) | omega) _)))) (hb.mono (by simp; omega))) | (go_at_call 74; (with_reducible refine (hg _ B).mono ?_); rintro _ w2 ⟨rfl, hb2⟩; have B := bt B hb2))
  go_ret
  exact ⟨rfl, by first | exact B | (repeat (first | exact Below.refl _ _ | assumption | (refine Below.drew ?_) | (refine Below.alloc ?_ (by first | (simp; done) | (simp; omega) | omega) _) | (refine Below.setCell ?_ (by first | (simp; done) | (simp; omega) | omega) _)))⟩
theorem en_same8 (e f : En) (al1 gr1 al2 gr2 : Value) (l1 l2 : List Int) (g1 g2 : List Gr) (w : World) (h1 : IS w al1 l1) (h2 : IS w al2 l2) (h3 : GS w gr1 g1) (h4 : GS w gr2 g2) (t0 : (e.kind == f.kind) = true) (t1 : (e.name.toList == f.name.toList) = true) (t2 : datEq e f = true) (t3 : decide (l1 = l2) = true) (t4 : (e.used == f.used) = true) (t5 : (e.lim == f.lim) = true) (t6 : (e.last == f.last) = true) (t7 : (e.em == f.em) = true) (t8 : (e.owner.toList == f.owner.toList) = false) :
    Calls Tryz.prog 16 #[.agg (e.vals al1 gr1), .agg (f.vals al2 gr2)] w fun r w' => r = .returned (.bool false) ∧ Below w.heap.size w w' := by
  have hi := fun W (b : Below w.heap.size w W) => is_equal al1 al2 l1 l2 W (h1.below b) (h2.below b)
  have hg := fun W (b : Below w.heap.size w W) => gs_equal gr1 gr2 g1 g2 W (h3.below b) (h4.below b)
  rw [t3] at hi
  have B := Below.refl w.heap.size w
  clear h1 h2 h3 h4
  go_enter Tryz.func16, Tryz.ntmps16
  simp only [List.append_eq, List.cons_append, List.nil_append]
  go_wp2_with (first | (go_at_call 73; (with_reducible refine (hi _ (by (repeat (first | exact Below.refl _ _ | assumption | (refine Below.drew ?_) | (refine Below.alloc ?_ (by first | (simp; done) | (simp; omega) | omega) _) | (refine Below.setCell ?_ (by first | (simp; done) | (simp; omega) | omega) _))))).mono ?_); rintro _ w1 ⟨rfl, hb⟩; obtain ⟨hc1, hf1⟩ := bcell hb; have B := Below.trans (show Below w.heap.size w _ by (repeat (first | exact Below.refl _ _ | assumption | (refine Below.drew ?_) | (refine Below.alloc ?_ (by first | (simp; done) | (simp; omega) | omega) _) | (refine Below.setCell ?_ (by first | (simp; done) | (simp; omega) | omega) _)))) (hb.mono (by simp; omega))) | (go_at_call 74; (with_reducible refine (hg _ B).mono ?_); rintro _ w2 ⟨rfl, hb2⟩; have B := bt B hb2))
  go_ret
  exact ⟨rfl, by first | exact B | (repeat (first | exact Below.refl _ _ | assumption | (refine Below.drew ?_) | (refine Below.alloc ?_ (by first | (simp; done) | (simp; omega) | omega) _) | (refine Below.setCell ?_ (by first | (simp; done) | (simp; omega) | omega) _)))⟩
theorem en_same9 (e f : En) (al1 gr1 al2 gr2 : Value) (l1 l2 : List Int) (g1 g2 : List Gr) (w : World) (h1 : IS w al1 l1) (h2 : IS w al2 l2) (h3 : GS w gr1 g1) (h4 : GS w gr2 g2) (t0 : (e.kind == f.kind) = true) (t1 : (e.name.toList == f.name.toList) = true) (t2 : datEq e f = true) (t3 : decide (l1 = l2) = true) (t4 : (e.used == f.used) = true) (t5 : (e.lim == f.lim) = true) (t6 : (e.last == f.last) = true) (t7 : (e.em == f.em) = true) (t8 : (e.owner.toList == f.owner.toList) = true) (t9 : (e.target.toList == f.target.toList) = false) :
    Calls Tryz.prog 16 #[.agg (e.vals al1 gr1), .agg (f.vals al2 gr2)] w fun r w' => r = .returned (.bool false) ∧ Below w.heap.size w w' := by
  have hi := fun W (b : Below w.heap.size w W) => is_equal al1 al2 l1 l2 W (h1.below b) (h2.below b)
  have hg := fun W (b : Below w.heap.size w W) => gs_equal gr1 gr2 g1 g2 W (h3.below b) (h4.below b)
  rw [t3] at hi
  have B := Below.refl w.heap.size w
  clear h1 h2 h3 h4
  go_enter Tryz.func16, Tryz.ntmps16
  simp only [List.append_eq, List.cons_append, List.nil_append]
  go_wp2_with (first | (go_at_call 73; (with_reducible refine (hi _ (by (repeat (first | exact Below.refl _ _ | assumption | (refine Below.drew ?_) | (refine Below.alloc ?_ (by first | (simp; done) | (simp; omega) | omega) _) | (refine Below.setCell ?_ (by first | (simp; done) | (simp; omega) | omega) _))))).mono ?_); rintro _ w1 ⟨rfl, hb⟩; obtain ⟨hc1, hf1⟩ := bcell hb; have B := Below.trans (show Below w.heap.size w _ by (repeat (first | exact Below.refl _ _ | assumption | (refine Below.drew ?_) | (refine Below.alloc ?_ (by first | (simp; done) | (simp; omega) | omega) _) | (refine Below.setCell ?_ (by first | (simp; done) | (simp; omega) | omega) _)))) (hb.mono (by simp; omega))) | (go_at_call 74; (with_reducible refine (hg _ B).mono ?_); rintro _ w2 ⟨rfl, hb2⟩; have B := bt B hb2))
  go_ret
  exact ⟨rfl, by first | exact B | (repeat (first | exact Below.refl _ _ | assumption | (refine Below.drew ?_) | (refine Below.alloc ?_ (by first | (simp; done) | (simp; omega) | omega) _) | (refine Below.setCell ?_ (by first | (simp; done) | (simp; omega) | omega) _)))⟩
theorem en_same10 (e f : En) (al1 gr1 al2 gr2 : Value) (l1 l2 : List Int) (g1 g2 : List Gr) (w : World) (h1 : IS w al1 l1) (h2 : IS w al2 l2) (h3 : GS w gr1 g1) (h4 : GS w gr2 g2) (t0 : (e.kind == f.kind) = true) (t1 : (e.name.toList == f.name.toList) = true) (t2 : datEq e f = true) (t3 : decide (l1 = l2) = true) (t4 : (e.used == f.used) = true) (t5 : (e.lim == f.lim) = true) (t6 : (e.last == f.last) = true) (t7 : (e.em == f.em) = true) (t8 : (e.owner.toList == f.owner.toList) = true) (t9 : (e.target.toList == f.target.toList) = true) (t10 : (e.cat == f.cat) = false) :
    Calls Tryz.prog 16 #[.agg (e.vals al1 gr1), .agg (f.vals al2 gr2)] w fun r w' => r = .returned (.bool false) ∧ Below w.heap.size w w' := by
  have hi := fun W (b : Below w.heap.size w W) => is_equal al1 al2 l1 l2 W (h1.below b) (h2.below b)
  have hg := fun W (b : Below w.heap.size w W) => gs_equal gr1 gr2 g1 g2 W (h3.below b) (h4.below b)
  rw [t3] at hi
  have B := Below.refl w.heap.size w
  clear h1 h2 h3 h4
  go_enter Tryz.func16, Tryz.ntmps16
  simp only [List.append_eq, List.cons_append, List.nil_append]
  go_wp2_with (first | (go_at_call 73; (with_reducible refine (hi _ (by (repeat (first | exact Below.refl _ _ | assumption | (refine Below.drew ?_) | (refine Below.alloc ?_ (by first | (simp; done) | (simp; omega) | omega) _) | (refine Below.setCell ?_ (by first | (simp; done) | (simp; omega) | omega) _))))).mono ?_); rintro _ w1 ⟨rfl, hb⟩; obtain ⟨hc1, hf1⟩ := bcell hb; have B := Below.trans (show Below w.heap.size w _ by (repeat (first | exact Below.refl _ _ | assumption | (refine Below.drew ?_) | (refine Below.alloc ?_ (by first | (simp; done) | (simp; omega) | omega) _) | (refine Below.setCell ?_ (by first | (simp; done) | (simp; omega) | omega) _)))) (hb.mono (by simp; omega))) | (go_at_call 74; (with_reducible refine (hg _ B).mono ?_); rintro _ w2 ⟨rfl, hb2⟩; have B := bt B hb2))
  go_ret
  exact ⟨rfl, by first | exact B | (repeat (first | exact Below.refl _ _ | assumption | (refine Below.drew ?_) | (refine Below.alloc ?_ (by first | (simp; done) | (simp; omega) | omega) _) | (refine Below.setCell ?_ (by first | (simp; done) | (simp; omega) | omega) _)))⟩
theorem en_same11 (e f : En) (al1 gr1 al2 gr2 : Value) (l1 l2 : List Int) (g1 g2 : List Gr) (w : World) (h1 : IS w al1 l1) (h2 : IS w al2 l2) (h3 : GS w gr1 g1) (h4 : GS w gr2 g2) (t0 : (e.kind == f.kind) = true) (t1 : (e.name.toList == f.name.toList) = true) (t2 : datEq e f = true) (t3 : decide (l1 = l2) = true) (t4 : (e.used == f.used) = true) (t5 : (e.lim == f.lim) = true) (t6 : (e.last == f.last) = true) (t7 : (e.em == f.em) = true) (t8 : (e.owner.toList == f.owner.toList) = true) (t9 : (e.target.toList == f.target.toList) = true) (t10 : (e.cat == f.cat) = true) (t11 : (e.lev == f.lev) = false) :
    Calls Tryz.prog 16 #[.agg (e.vals al1 gr1), .agg (f.vals al2 gr2)] w fun r w' => r = .returned (.bool false) ∧ Below w.heap.size w w' := by
  have hi := fun W (b : Below w.heap.size w W) => is_equal al1 al2 l1 l2 W (h1.below b) (h2.below b)
  have hg := fun W (b : Below w.heap.size w W) => gs_equal gr1 gr2 g1 g2 W (h3.below b) (h4.below b)
  rw [t3] at hi
  have B := Below.refl w.heap.size w
  clear h1 h2 h3 h4
  go_enter Tryz.func16, Tryz.ntmps16
  simp only [List.append_eq, List.cons_append, List.nil_append]
  go_wp2_with (first | (go_at_call 73; (with_reducible refine (hi _ (by (repeat (first | exact Below.refl _ _ | assumption | (refine Below.drew ?_) | (refine Below.alloc ?_ (by first | (simp; done) | (simp; omega) | omega) _) | (refine Below.setCell ?_ (by first | (simp; done) | (simp; omega) | omega) _))))).mono ?_); rintro _ w1 ⟨rfl, hb⟩; obtain ⟨hc1, hf1⟩ := bcell hb; have B := Below.trans (show Below w.heap.size w _ by (repeat (first | exact Below.refl _ _ | assumption | (refine Below.drew ?_) | (refine Below.alloc ?_ (by first | (simp; done) | (simp; omega) | omega) _) | (refine Below.setCell ?_ (by first | (simp; done) | (simp; omega) | omega) _)))) (hb.mono (by simp; omega))) | (go_at_call 74; (with_reducible refine (hg _ B).mono ?_); rintro _ w2 ⟨rfl, hb2⟩; have B := bt B hb2))
  go_ret
  exact ⟨rfl, by first | exact B | (repeat (first | exact Below.refl _ _ | assumption | (refine Below.drew ?_) | (refine Below.alloc ?_ (by first | (simp; done) | (simp; omega) | omega) _) | (refine Below.setCell ?_ (by first | (simp; done) | (simp; omega) | omega) _)))⟩
theorem en_same12 (e f : En) (al1 gr1 al2 gr2 : Value) (l1 l2 : List Int) (g1 g2 : List Gr) (w : World) (h1 : IS w al1 l1) (h2 : IS w al2 l2) (h3 : GS w gr1 g1) (h4 : GS w gr2 g2) (t0 : (e.kind == f.kind) = true) (t1 : (e.name.toList == f.name.toList) = true) (t2 : datEq e f = true) (t3 : decide (l1 = l2) = true) (t4 : (e.used == f.used) = true) (t5 : (e.lim == f.lim) = true) (t6 : (e.last == f.last) = true) (t7 : (e.em == f.em) = true) (t8 : (e.owner.toList == f.owner.toList) = true) (t9 : (e.target.toList == f.target.toList) = true) (t10 : (e.cat == f.cat) = true) (t11 : (e.lev == f.lev) = true) (t12 : decide (g1 = g2) = false) :
    Calls Tryz.prog 16 #[.agg (e.vals al1 gr1), .agg (f.vals al2 gr2)] w fun r w' => r = .returned (.bool false) ∧ Below w.heap.size w w' := by
  have hi := fun W (b : Below w.heap.size w W) => is_equal al1 al2 l1 l2 W (h1.below b) (h2.below b)
  have hg := fun W (b : Below w.heap.size w W) => gs_equal gr1 gr2 g1 g2 W (h3.below b) (h4.below b)
  rw [t3] at hi
  rw [t12] at hg
  have B := Below.refl w.heap.size w
  clear h1 h2 h3 h4
  go_enter Tryz.func16, Tryz.ntmps16
  simp only [List.append_eq, List.cons_append, List.nil_append]
  go_wp2_with (first | (go_at_call 73; (with_reducible refine (hi _ (by (repeat (first | exact Below.refl _ _ | assumption | (refine Below.drew ?_) | (refine Below.alloc ?_ (by first | (simp; done) | (simp; omega) | omega) _) | (refine Below.setCell ?_ (by first | (simp; done) | (simp; omega) | omega) _))))).mono ?_); rintro _ w1 ⟨rfl, hb⟩; obtain ⟨hc1, hf1⟩ := bcell hb; have B := Below.trans (show Below w.heap.size w _ by (repeat (first | exact Below.refl _ _ | assumption | (refine Below.drew ?_) | (refine Below.alloc ?_ (by first | (simp; done) | (simp; omega) | omega) _) | (refine Below.setCell ?_ (by first | (simp; done) | (simp; omega) | omega) _)))) (hb.mono (by simp; omega))) | (go_at_call 74; (with_reducible refine (hg _ B).mono ?_); rintro _ w2 ⟨rfl, hb2⟩; have B := bt B hb2))
  go_ret
  exact ⟨rfl, by first | exact B | (repeat (first | exact Below.refl _ _ | assumption | (refine Below.drew ?_) | (refine Below.alloc ?_ (by first | (simp; done) | (simp; omega) | omega) _) | (refine Below.setCell ?_ (by first | (simp; done) | (simp; omega) | omega) _)))⟩
theorem en_same13 (e f : En) (al1 gr1 al2 gr2 : Value) (l1 l2 : List Int) (g1 g2 : List Gr) (w : World) (h1 : IS w al1 l1) (h2 : IS w al2 l2) (h3 : GS w gr1 g1) (h4 : GS w gr2 g2) (t0 : (e.kind == f.kind) = true) (t1 : (e.name.toList == f.name.toList) = true) (t2 : datEq e f = true) (t3 : decide (l1 = l2) = true) (t4 : (e.used == f.used) = true) (t5 : (e.lim == f.lim) = true) (t6 : (e.last == f.last) = true) (t7 : (e.em == f.em) = true) (t8 : (e.owner.toList == f.owner.toList) = true) (t9 : (e.target.toList == f.target.toList) = true) (t10 : (e.cat == f.cat) = true) (t11 : (e.lev == f.lev) = true) (t12 : decide (g1 = g2) = true) :
    Calls Tryz.prog 16 #[.agg (e.vals al1 gr1), .agg (f.vals al2 gr2)] w fun r w' => r = .returned (.bool true) ∧ Below w.heap.size w w' := by
  have hi := fun W (b : Below w.heap.size w W) => is_equal al1 al2 l1 l2 W (h1.below b) (h2.below b)
  have hg := fun W (b : Below w.heap.size w W) => gs_equal gr1 gr2 g1 g2 W (h3.below b) (h4.below b)
  rw [t3] at hi
  rw [t12] at hg
  have B := Below.refl w.heap.size w
  clear h1 h2 h3 h4
  go_enter Tryz.func16, Tryz.ntmps16
  simp only [List.append_eq, List.cons_append, List.nil_append]
  go_wp2_with (first | (go_at_call 73; (with_reducible refine (hi _ (by (repeat (first | exact Below.refl _ _ | assumption | (refine Below.drew ?_) | (refine Below.alloc ?_ (by first | (simp; done) | (simp; omega) | omega) _) | (refine Below.setCell ?_ (by first | (simp; done) | (simp; omega) | omega) _))))).mono ?_); rintro _ w1 ⟨rfl, hb⟩; obtain ⟨hc1, hf1⟩ := bcell hb; have B := Below.trans (show Below w.heap.size w _ by (repeat (first | exact Below.refl _ _ | assumption | (refine Below.drew ?_) | (refine Below.alloc ?_ (by first | (simp; done) | (simp; omega) | omega) _) | (refine Below.setCell ?_ (by first | (simp; done) | (simp; omega) | omega) _)))) (hb.mono (by simp; omega))) | (go_at_call 74; (with_reducible refine (hg _ B).mono ?_); rintro _ w2 ⟨rfl, hb2⟩; have B := bt B hb2))
  go_ret
  exact ⟨rfl, by first | exact B | (repeat (first | exact Below.refl _ _ | assumption | (refine Below.drew ?_) | (refine Below.alloc ?_ (by first | (simp; done) | (simp; omega) | omega) _) | (refine Below.setCell ?_ (by first | (simp; done) | (simp; omega) | omega) _)))⟩
theorem en_same (e f : En) (al1 gr1 al2 gr2 : Value) (l1 l2 : List Int) (g1 g2 : List Gr) (w : World) (h1 : IS w al1 l1) (h2 : IS w al2 l2) (h3 : GS w gr1 g1) (h4 : GS w gr2 g2) :
    Calls Tryz.prog 16 #[.agg (e.vals al1 gr1), .agg (f.vals al2 gr2)] w fun r w' => r = .returned (.bool (sameE e f l1 l2 g1 g2)) ∧ Below w.heap.size w w' := by
  unfold sameE
  rcases Bool.eq_false_or_eq_true ((e.kind == f.kind)) with t0 | t0
  rotate_left
  · rw [t0]; exact en_same0 e f al1 gr1 al2 gr2 l1 l2 g1 g2 w h1 h2 h3 h4 t0
  rcases Bool.eq_false_or_eq_true ((e.name.toList == f.name.toList)) with t1 | t1
  rotate_left
  · rw [t0, t1]; exact en_same1 e f al1 gr1 al2 gr2 l1 l2 g1 g2 w h1 h2 h3 h4 t0 t1
  rcases Bool.eq_false_or_eq_true (datEq e f) with t2 | t2
  rotate_left
  · rw [t0, t1, t2]; exact en_same2 e f al1 gr1 al2 gr2 l1 l2 g1 g2 w h1 h2 h3 h4 t0 t1 t2
  rcases Bool.eq_false_or_eq_true (decide (l1 = l2)) with t3 | t3
  rotate_left
  · rw [t0, t1, t2, t3]; exact en_same3 e f al1 gr1 al2 gr2 l1 l2 g1 g2 w h1 h2 h3 h4 t0 t1 t2 t3
  rcases Bool.eq_false_or_eq_true ((e.used == f.used)) with t4 | t4
  rotate_left
  · rw [t0, t1, t2, t3, t4]; exact en_same4 e f al1 gr1 al2 gr2 l1 l2 g1 g2 w h1 h2 h3 h4 t0 t1 t2 t3 t4
  rcases Bool.eq_false_or_eq_true ((e.lim == f.lim)) with t5 | t5
  rotate_left
  · rw [t0, t1, t2, t3, t4, t5]; exact en_same5 e f al1 gr1 al2 gr2 l1 l2 g1 g2 w h1 h2 h3 h4 t0 t1 t2 t3 t4 t5
  rcases Bool.eq_false_or_eq_true ((e.last == f.last)) with t6 | t6
  rotate_left
  · rw [t0, t1, t2, t3, t4, t5, t6]; exact en_same6 e f al1 gr1 al2 gr2 l1 l2 g1 g2 w h1 h2 h3 h4 t0 t1 t2 t3 t4 t5 t6
  rcases Bool.eq_false_or_eq_true ((e.em == f.em)) with t7 | t7
  rotate_left
  · rw [t0, t1, t2, t3, t4, t5, t6, t7]; exact en_same7 e f al1 gr1 al2 gr2 l1 l2 g1 g2 w h1 h2 h3 h4 t0 t1 t2 t3 t4 t5 t6 t7
  rcases Bool.eq_false_or_eq_true ((e.owner.toList == f.owner.toList)) with t8 | t8
  rotate_left
  · rw [t0, t1, t2, t3, t4, t5, t6, t7, t8]; exact en_same8 e f al1 gr1 al2 gr2 l1 l2 g1 g2 w h1 h2 h3 h4 t0 t1 t2 t3 t4 t5 t6 t7 t8
  rcases Bool.eq_false_or_eq_true ((e.target.toList == f.target.toList)) with t9 | t9
  rotate_left
  · rw [t0, t1, t2, t3, t4, t5, t6, t7, t8, t9]; exact en_same9 e f al1 gr1 al2 gr2 l1 l2 g1 g2 w h1 h2 h3 h4 t0 t1 t2 t3 t4 t5 t6 t7 t8 t9
  rcases Bool.eq_false_or_eq_true ((e.cat == f.cat)) with t10 | t10
  rotate_left
  · rw [t0, t1, t2, t3, t4, t5, t6, t7, t8, t9, t10]; exact en_same10 e f al1 gr1 al2 gr2 l1 l2 g1 g2 w h1 h2 h3 h4 t0 t1 t2 t3 t4 t5 t6 t7 t8 t9 t10
  rcases Bool.eq_false_or_eq_true ((e.lev == f.lev)) with t11 | t11
  rotate_left
  · rw [t0, t1, t2, t3, t4, t5, t6, t7, t8, t9, t10, t11]; exact en_same11 e f al1 gr1 al2 gr2 l1 l2 g1 g2 w h1 h2 h3 h4 t0 t1 t2 t3 t4 t5 t6 t7 t8 t9 t10 t11
  rcases Bool.eq_false_or_eq_true (decide (g1 = g2)) with t12 | t12
  rotate_left
  · rw [t0, t1, t2, t3, t4, t5, t6, t7, t8, t9, t10, t11, t12]; exact en_same12 e f al1 gr1 al2 gr2 l1 l2 g1 g2 w h1 h2 h3 h4 t0 t1 t2 t3 t4 t5 t6 t7 t8 t9 t10 t11 t12
  rw [t0, t1, t2, t3, t4, t5, t6, t7, t8, t9, t10, t11, t12]; exact en_same13 e f al1 gr1 al2 gr2 l1 l2 g1 g2 w h1 h2 h3 h4 t0 t1 t2 t3 t4 t5 t6 t7 t8 t9 t10 t11 t12
end Go.Proofs.YteeenpimaepieaaGreatDoor
