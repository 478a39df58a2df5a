/- Contracts of package entry: Text at an alias. -/
import Derived.Test.YteeenpimaepieaaGreatDoorTxB
import Derived.Test.YteeenpimaepieaaGreatDoorSaL
import Derived.Deep.DeepCutAuto
import Derived.Deep.RegionLaw
import Derived.Laws.EntriesVeiled
namespace Go.Proofs.YteeenpimaepieaaGreatDoor
open Go.RowKit
set_option maxHeartbeats 32000000
set_option maxRecDepth 8000
def kinds5 : List ByteArray := [⟨#[100, 97, 116, 97]⟩, ⟨#[103, 114, 111, 117, 112]⟩, ⟨#[97, 108, 105, 97, 115]⟩, ⟨#[99, 97, 116, 97, 108, 111, 103]⟩, ⟨#[112, 114, 111, 102, 105, 108, 101]⟩]
theorem strs_kinds (W W2 : World) (t : TypeId) (b : Nat) (h : W2.heap[b]? = (W.alloc (.cells #[.string ⟨#[100, 97, 116, 97]⟩, .string ⟨#[103, 114, 111, 117, 112]⟩, .string ⟨#[97, 108, 105, 97, 115]⟩, .string ⟨#[99, 97, 116, 97, 108, 111, 103]⟩, .string ⟨#[112, 114, 111, 102, 105, 108, 101]⟩] t)).heap[b]?) (hb : b = W.heap.size) : Strs W2 b kinds5 := fun k hk => by
  subst hb
  rw [World.cell?_of_block (a := ⟨W.heap.size, k, none⟩) h, cell_of_row _ W.heap.size k _ t (0, 0) (heap_alloc_new W _)]
  have hk : k < 5 := hk
  rcases (by omega : k = 0 ∨ k = 1 ∨ k = 2 ∨ k = 3 ∨ k = 4) with rfl | rfl | rfl | rfl | rfl <;> rfl
theorem pick_alias (b : Nat) (W : World) (h : Strs W b kinds5) : Calls Tryz.prog 76 #[.int .i64 2, .slice (some ⟨b, 0, none⟩) 5 5] W fun r w' => r = .returned (.string ⟨#[97, 108, 105, 97, 115]⟩) ∧ W = w' := tx_pick kinds5 2 b 5 W (by decide) (by decide) h
theorem pick_al1 (X : World) (t : TypeId) (b : Nat) (hb : b = X.heap.size) : Calls Tryz.prog 76 #[.int .i64 2, .slice (some ⟨b, 0, none⟩) 5 5] (X.alloc (.cells #[.string ⟨#[100, 97, 116, 97]⟩, .string ⟨#[103, 114, 111, 117, 112]⟩, .string ⟨#[97, 108, 105, 97, 115]⟩, .string ⟨#[99, 97, 116, 97, 108, 111, 103]⟩, .string ⟨#[112, 114, 111, 102, 105, 108, 101]⟩] t)).drew fun r w' => r = .returned (.string ⟨#[97, 108, 105, 97, 115]⟩) ∧ (X.alloc (.cells #[.string ⟨#[100, 97, 116, 97]⟩, .string ⟨#[103, 114, 111, 117, 112]⟩, .string ⟨#[97, 108, 105, 97, 115]⟩, .string ⟨#[99, 97, 116, 97, 108, 111, 103]⟩, .string ⟨#[112, 114, 111, 102, 105, 108, 101]⟩] t)).drew = w' := pick_alias b _ (strs_kinds X _ t b rfl hb)
theorem pick_al2 (X : World) (t t' : TypeId) (v : Value) (b : Nat) (hb : b = X.heap.size) : Calls Tryz.prog 76 #[.int .i64 2, .slice (some ⟨b, 0, none⟩) 5 5] ((X.alloc (.cells #[.string ⟨#[100, 97, 116, 97]⟩, .string ⟨#[103, 114, 111, 117, 112]⟩, .string ⟨#[97, 108, 105, 97, 115]⟩, .string ⟨#[99, 97, 116, 97, 108, 111, 103]⟩, .string ⟨#[112, 114, 111, 102, 105, 108, 101]⟩] t)).alloc (.cells #[v] t')).drew fun r w' => r = .returned (.string ⟨#[97, 108, 105, 97, 115]⟩) ∧ ((X.alloc (.cells #[.string ⟨#[100, 97, 116, 97]⟩, .string ⟨#[103, 114, 111, 117, 112]⟩, .string ⟨#[97, 108, 105, 97, 115]⟩, .string ⟨#[99, 97, 116, 97, 108, 111, 103]⟩, .string ⟨#[112, 114, 111, 102, 105, 108, 101]⟩] t)).alloc (.cells #[v] t')).drew = w' := pick_alias b _ (strs_kinds X _ t b (by subst hb; exact heap_alloc_old _ _ (by simp)) hb)
attribute [local go_sem ↓] ldEnt stEnt ldDat stDat
attribute [local go_sem] isDat_mk isHead_mk headOf_mk cellsOfV_mk isAggV_mk row_new row_new2 row_new2' row_drew row_drewN vals_size vals_dat dat_size dat_one allOne_nil allOne_cons one_int one_bool one_string one_pointer one_slice one_func
theorem tx_alias (e : En) (al gr : Value) (l2 : List Int) (g2 : List Gr) (w : World) (hk : e.kind = 2) (hok : okX (e, l2, g2) = true) (hm : MaxL w) (hT : Tab w) (hsz : e.name.size ≤ 1000) (htz : e.target.size ≤ 1000) (ht0 : ¬ e.target.size = 0) (h1 : IS w al l2) (h2 : GS w gr g2) :
    Calls Tryz.prog 21 #[.agg (e.vals al gr)] w fun r w' => ∃ (g cap : Nat) (ps : List ByteArray), r = .returned (.slice (some ⟨g, 0, none⟩) ps.length cap) ∧ Strs w' g ps ∧ ps = [((⟨#[97, 108, 105, 97, 115]⟩ : ByteArray) ++ ⟨#[32]⟩) ++ e.name] ++ [((⟨#[32, 32]⟩ : ByteArray) ++ ⟨#[116, 97, 114, 103, 101, 116]⟩ ++ ⟨#[32]⟩) ++ e.target] ∧ Below w.heap.size w w' := by
  have hv := va_any e al gr l2 g2
  have hv := fun W (b : Below w.heap.size w W) => hv W (hm.below b) (hT.below b) hsz (h1.below b) (h2.below b)
  rw [hok] at hv
  have HV := Lib.hid hv
  have HK := Lib.hid hk
  clear hv h1 h2 hok hk
  have l1 : ¬ 9223372036854775807 < 6 + e.name.size := by omega
  go_enter Tryz.func21, Tryz.ntmps21
  go_upto_region 4 with (first | (go_at_call 14; (with_reducible refine (HV.out _ (by (repeat (first | exact Below.refl _ _ | assumption | (refine Below.drew ?_) | (refine Below.alloc ?_ (by first | (simp; done) | (simp; omega) | omega) _) | (refine Below.setCell ?_ (by first | (simp; done) | (simp; omega) | omega) _))))).mono ?_); rintro _ w2 ⟨rfl, hb⟩; have R2 := row_below hb (row_new w _ _ _) (by simp [vals_size]); have B2 := Below.trans (show Below w.heap.size w _ by (repeat (first | exact Below.refl _ _ | assumption | (refine Below.drew ?_) | (refine Below.alloc ?_ (by first | (simp; done) | (simp; omega) | omega) _) | (refine Below.setCell ?_ (by first | (simp; done) | (simp; omega) | omega) _)))) (hb.mono (by simp)); have z2 : w.heap.size < w2.heap.size := (by have := hb.size; simp at this; omega); clear hb))
  have n0 := cell_row R2 0 _ (vals_0 e al gr)
  rw [HK.out] at n0
  have n1 := cell_row R2 1 _ (vals_1 e al gr)
  have z3 : w.heap.size < w2.heap.size + 1 := by omega
  have z4 : w.heap.size < w2.heap.size + 1 + 1 := by omega
  have z5 : w.heap.size < w2.heap.size + 1 + 1 + 1 := by omega
  go_cut [4] (fun t4 wx => ∃ o g, t4 = .pointer (some ⟨o, 0, none⟩) ∧ TX wx w.heap.size o g [((⟨#[97, 108, 105, 97, 115]⟩ : ByteArray) ++ ⟨#[32]⟩) ++ e.name] ∧ row wx w.heap.size = e.vals al gr ∧ w.heap.size < wx.heap.size ∧ w.heap.size ≠ o ∧ w.heap.size ≠ g ∧ Below w.heap.size w wx)
  case first =>
    go_region_law (first | (go_simp; go_at_call 76; (first | (with_reducible refine (pick_al1 _ _ _ (by simp)).mono ?_) | (with_reducible refine (pick_al2 _ _ _ _ _ (by simp)).mono ?_)); rintro _ w3 ⟨rfl, rfl⟩))
    all_goals
      go_wp2_with fail
      go_meet
      have sV : ((w2.alloc (.cells e.dat 23)).alloc (.cells #[.string ⟨#[100, 97, 116, 97]⟩, .string ⟨#[103, 114, 111, 117, 112]⟩, .string ⟨#[97, 108, 105, 97, 115]⟩, .string ⟨#[99, 97, 116, 97, 108, 111, 103]⟩, .string ⟨#[112, 114, 111, 102, 105, 108, 101]⟩] 9)).heap.size = w2.heap.size + 1 + 1 := by simp
      have qa := TX.a ((w2.alloc (.cells e.dat 23)).alloc (.cells #[.string ⟨#[100, 97, 116, 97]⟩, .string ⟨#[103, 114, 111, 117, 112]⟩, .string ⟨#[97, 108, 105, 97, 115]⟩, .string ⟨#[99, 97, 116, 97, 108, 111, 103]⟩, .string ⟨#[112, 114, 111, 102, 105, 108, 101]⟩] 9)) w.heap.size (((⟨#[97, 108, 105, 97, 115]⟩ : ByteArray) ++ ⟨#[32]⟩) ++ e.name) 33 (by rw [sV]; omega)
      have qb := TX.b ((w2.alloc (.cells e.dat 23)).alloc (.cells #[.string ⟨#[100, 97, 116, 97]⟩, .string ⟨#[103, 114, 111, 117, 112]⟩, .string ⟨#[97, 108, 105, 97, 115]⟩, .string ⟨#[99, 97, 116, 97, 108, 111, 103]⟩, .string ⟨#[112, 114, 111, 102, 105, 108, 101]⟩] 9)) w.heap.size (((⟨#[97, 108, 105, 97, 115]⟩ : ByteArray) ++ ⟨#[32]⟩) ++ e.name) 33 (by rw [sV]; omega)
      rw [sV] at qa qb
      have qc := fun ob : Obj => TX.c (w2.alloc (.cells e.dat 23)) ob w.heap.size (((⟨#[97, 108, 105, 97, 115]⟩ : ByteArray) ++ ⟨#[32]⟩) ++ e.name) 33 (by simp; omega)
      rw [show (w2.alloc (.cells e.dat 23)).heap.size = w2.heap.size + 1 by simp] at qc
      have B2' : ∀ o1 o2 o3 o4 : Obj, Below w2.heap.size w2 ((((w2.alloc o1).alloc o2).alloc o3).alloc o4).drew := fun o1 o2 o3 o4 => by (repeat (first | exact Below.refl _ _ | assumption | (refine Below.drew ?_) | (refine Below.alloc ?_ (by first | (simp; done) | (simp; omega) | omega) _) | (refine Below.setCell ?_ (by first | (simp; done) | (simp; omega) | omega) _)))
      first
      | exact ⟨_, _, rfl, qa.drew, row_below (B2' _ _ _ _) R2 (by simp [vals_size]), by simp; omega, by omega, by omega, by (repeat (first | exact Below.refl _ _ | assumption | (refine Below.drew ?_) | (refine Below.alloc ?_ (by first | (simp; done) | (simp; omega) | omega) _) | (refine Below.setCell ?_ (by first | (simp; done) | (simp; omega) | omega) _)))⟩
      | exact ⟨_, _, rfl, (qc _).drew, row_below (B2' _ _ _ _) R2 (by simp [vals_size]), by simp; omega, by omega, by omega, by (repeat (first | exact Below.refl _ _ | assumption | (refine Below.drew ?_) | (refine Below.alloc ?_ (by first | (simp; done) | (simp; omega) | omega) _) | (refine Below.setCell ?_ (by first | (simp; done) | (simp; omega) | omega) _)))⟩
      | exact ⟨_, _, rfl, qb.drew, row_below (B2' _ _ _ _) R2 (by simp [vals_size]), by simp; omega, by omega, by omega, by (repeat (first | exact Below.refl _ _ | assumption | (refine Below.drew ?_) | (refine Below.alloc ?_ (by first | (simp; done) | (simp; omega) | omega) _) | (refine Below.setCell ?_ (by first | (simp; done) | (simp; omega) | omega) _)))⟩
  case rest =>
    obtain ⟨o, g, rfl, hTX, hrow, hlt, hno, hng, hB⟩ := hcut
    have n0 := cell_row hrow 0 _ (vals_0 e al gr)
    rw [HK.out] at n0
    have n29 := cell_row hrow 29 _ (vals_29 e al gr)
    have hsz2 := hB.size
    have hX := (fun (W : World) (h : TX W w.heap.size o g [((⟨#[97, 108, 105, 97, 115]⟩ : ByteArray) ++ ⟨#[32]⟩) ++ e.name]) (hb : w.heap.size ≤ W.heap.size) => tx_line w.heap.size o g [((⟨#[97, 108, 105, 97, 115]⟩ : ByteArray) ++ ⟨#[32]⟩) ++ e.name] ⟨#[116, 97, 114, 103, 101, 116]⟩ e.target W h hb (by simp) (by decide) htz)
    rw [if_neg ht0] at hX
    have HX := Lib.hid hX
    clear hX
    go_wp2_with (first | (go_at_call 77; (with_reducible refine (HX.out _ ((hTX.alloc _).alloc _) (by simp; omega)).mono ?_); rintro _ w5 ⟨rfl, g', hT', hgg, hB5, hblk⟩; obtain ⟨⟨cap, hcell, hown⟩, _⟩ := hT'; have HO := Lib.hid hown; have HB5 := Lib.hid hB5; clear hown hB5 hblk hgg))
    go_ret
    refine ⟨g', cap, _, ?_, owns_strs HO.out, rfl, Below.trans (show Below w.heap.size w _ by (repeat (first | exact Below.refl _ _ | assumption | (refine Below.drew ?_) | (refine Below.alloc ?_ (by first | (simp; done) | (simp; omega) | omega) _) | (refine Below.setCell ?_ (by first | (simp; done) | (simp; omega) | omega) _)))) HB5.out⟩
    rfl
end Go.Proofs.YteeenpimaepieaaGreatDoor
