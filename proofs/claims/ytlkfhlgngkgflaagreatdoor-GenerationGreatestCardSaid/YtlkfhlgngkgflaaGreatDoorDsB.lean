/- Contracts: strings.Split at a full stop; dsname.all; Valid, ValidPattern. -/
import Derived.Test.YtlkfhlgngkgflaaGreatDoorDsA
import Derived.Test.YtlkfhlgngkgflaaGreatDoorShelf
import Derived.Test.YtlkfhlgngkgflaaGreatDoorDsP
import Derived.Test.YtlkfhlgngkgflaaGreatDoorKit4
import Derived.Laws.EntriesVeiled
namespace Go.Proofs.YtlkfhlgngkgflaaGreatDoor
open Go.RowKit
set_option maxHeartbeats 400000

/-- internal/bytealg.MaxLen holds a number -/
def MaxL (w : World) : Prop := ∃ m : Int, w.cell? ⟨0, 0, none⟩ = some (.int .i64 m)
theorem MaxL.below {w w' : World} (h : MaxL w) (hb : Below w.heap.size w w') : MaxL w' := h.imp fun _ h => below_cell hb h

theorem split_dot (s : ByteArray) (w : World) (hs : s.size < 4294967281) (hm : MaxL w) :
    Calls Tryz.prog 88 #[.string s, .string ⟨#[46]⟩] w fun e w' => ∃ ps : List ByteArray, ps.length ≤ s.size + 1 ∧ ps.map Ds.bl = Ds.pieces (Ds.bl s) ∧ e = .returned (.slice (some ⟨w.heap.size, 0, none⟩) ps.length ps.length) ∧ w' = w.alloc (.cells (ps.map Value.string).toArray 9) := by
  obtain ⟨m, hm⟩ := hm
  refine (Tryz.strings_Split s ⟨#[46]⟩ m w hs hm (by decide)).mono ?_
  rintro e w' ⟨rfl, rfl⟩
  have h1 : (Lib.splitB ⟨#[46]⟩ 0 (Lib.countB s ⟨#[46]⟩) s).map Ds.bl = Ds.pieces (Ds.bl s) := by
    have := Lib.splitB_data ⟨#[46]⟩ 0 (Lib.countB s ⟨#[46]⟩) s
    rw [← Ds.splitK_pieces]
    exact this
  have h2 : (Lib.splitB ⟨#[46]⟩ 0 (Lib.countB s ⟨#[46]⟩) s).length = Lib.countB s ⟨#[46]⟩ + 1 := by
    have e1 := congrArg List.length h1
    rw [List.length_map, Ds.pieces_len] at e1
    rw [e1, ← Ds.count_eq]; rfl
  have h3 : (Ds.bl s).count 46 ≤ (Ds.bl s).length := List.count_le_length
  rw [Ds.bl_length, ← Ds.count_eq] at h3
  exact ⟨_, by rw [h2]; exact Nat.succ_le_succ h3, h1, by rw [h2], rfl⟩

theorem ds_valid1 (s : ByteArray) (w : World) :
    Calls Tryz.prog 81 #[.string s] w fun e w' => e = .returned (.bool (Ds.nameQ (Ds.bl s))) ∧ w = w' := by
  go_enter Tryz.func81, Tryz.ntmps81
  go_wp2_with (go_at_call 82; (with_reducible refine (ds_qual _ _).mono ?_); rintro e w' ⟨rfl, rfl⟩)
  go_ret
  exact ⟨rfl, rfl⟩

theorem ds_all_name (s : ByteArray) (w : World) (hm : MaxL w) :
    Calls Tryz.prog 80 #[.string s, .int .i64 31, .func (.func 81) #[] #[]] w fun e w' => e = .returned (.bool (Ds.name (Ds.bl s))) ∧ Below w.heap.size w w' := by
  have hl := Ds.bl_length s
  by_cases h1 : s.size < 1
  · have D := Lib.hid (show Ds.name (Ds.bl s) = false by unfold Ds.name; rw [decide_eq_false (by omega)]; rfl)
    have e1 : (decide ((s.size : Int) < 1)) = true := by rw [decide_eq_true_eq]; omega
    clear hl h1
    go_enter Tryz.func80, Tryz.ntmps80
    go_wp2_with fail
    go_ret
    exact ⟨ret_bool D.out.symm, Below.refl _ _⟩
  by_cases h8 : 31 < s.size
  · have D := Lib.hid (show Ds.name (Ds.bl s) = false by unfold Ds.name; rw [decide_eq_false (p := (Ds.bl s).length ≤ 31) (by omega)]; simp)
    have e1 : (decide ((s.size : Int) < 1)) = false := by rw [decide_eq_false_iff_not]; omega
    have e2 : (decide (31 < (s.size : Int))) = true := by rw [decide_eq_true_eq]; omega
    clear hl h1
    go_enter Tryz.func80, Tryz.ntmps80
    go_wp2_with fail
    go_ret
    exact ⟨ret_bool D.out.symm, Below.refl _ _⟩
  have e1 : (decide ((s.size : Int) < 1)) = false := by rw [decide_eq_false_iff_not]; omega
  have e2 : (decide (31 < (s.size : Int))) = false := by rw [decide_eq_false_iff_not]; omega
  have hs : s.size < 4294967281 := by omega
  have D := Lib.hid (show Ds.name (Ds.bl s) = (Ds.pieces (Ds.bl s)).all Ds.nameQ by unfold Ds.name; rw [decide_eq_true (by omega), decide_eq_true (by omega)]; rfl)
  clear hl h1 h8
  go_enter Tryz.func80, Tryz.ntmps80
  go_wp2_with (go_at_call 88; (with_reducible refine (split_dot _ _ hs hm).mono ?_); rintro e w' ⟨ps, hpl, hp, rfl, rfl⟩; have D2 := Lib.hid (D.out.trans (by rw [← hp, List.all_map]; rfl : _ = Ds.rest (fun q => Ds.nameQ (Ds.bl q)) ps 0)); clear hp D)
  have S := Strs.new w ps 9
  go_loopw [8, 21] (fun q i wr => ∃ k : Nat, k ≤ ps.length ∧ i = .int .i64 k ∧ Ds.name (Ds.bl s) = Ds.rest (fun q => Ds.nameQ (Ds.bl q)) ps k ∧ wr = w.alloc (.cells (ps.map Value.string).toArray 9)) (fun _ i _ => ps.length - (intOf i).toNat)
  case atStart => exact ⟨0, by omega, rfl, D2.out, rfl⟩
  case round =>
    obtain ⟨k, hk, rfl, hq, rfl⟩ := hrel
    have HQ := Lib.hid hq
    clear hq
    by_cases hlt : k < ps.length
    · have hr := Ds.rest_next (fun q => Ds.nameQ (Ds.bl q)) ps k hlt
      have hc := S k hlt
      cases hG : Ds.nameQ (Ds.bl ps[k])
      · rw [hG] at hr
        have HR := Lib.hid (HQ.out.trans hr)
        clear hr
        go_wp2_with (go_at_call 81; (with_reducible refine (ds_valid1 _ _).mono ?_); rintro e w' ⟨rfl, rfl⟩)
        go_ret
        exact ⟨ret_bool HR.out.symm, by (repeat (first | exact Below.refl _ _ | assumption | (refine Below.drew ?_) | (refine Below.alloc ?_ (by simp) _) | (refine Below.setCell ?_ (by simp) _)))⟩
      · rw [hG] at hr
        have HR := Lib.hid (HQ.out.trans hr)
        clear hr
        go_wp2_with (go_at_call 81; (with_reducible refine (ds_valid1 _ _).mono ?_); rintro e w' ⟨rfl, rfl⟩)
        go_roundw
        case rel => exact ⟨k + 1, by omega, by go_num, HR.out, trivial⟩
        case measure => simp [intOf]; omega
    · have hr := HQ.out.trans (Ds.rest_end (fun q => Ds.nameQ (Ds.bl q)) ps k (by omega))
      have HR := Lib.hid hr
      clear hr
      obtain rfl : k = ps.length := by omega
      go_wp2_with fail
      go_ret
      exact ⟨ret_bool HR.out.symm, by (repeat (first | exact Below.refl _ _ | assumption | (refine Below.drew ?_) | (refine Below.alloc ?_ (by simp) _) | (refine Below.setCell ?_ (by simp) _)))⟩

theorem ds_valid (s : ByteArray) (w : World) (hm : MaxL w) :
    Calls Tryz.prog 48 #[.string s] w fun e w' => e = .returned (.bool (Ds.name (Ds.bl s))) ∧ Below w.heap.size w w' := by
  go_enter Tryz.func48, Tryz.ntmps48
  go_wp2_with (go_at_call 80; (with_reducible refine (ds_all_name _ _ hm).mono ?_); rintro e w1 ⟨rfl, hb⟩)
  go_ret
  exact ⟨rfl, hb⟩

theorem ds_vpat2 (s : ByteArray) (p : Nat) (w : World) (hm : MaxL w) (hc : w.cell? ⟨p, 0, none⟩ = some (.func (.func 104) #[] #[])) :
    Calls Tryz.prog 105 #[.string s, .pointer (some ⟨p, 0, none⟩)] w fun e w' => e = .returned (.bool (Ds.patQ (Ds.bl s))) ∧ w = w' := by
  have hl := Ds.bl_length s
  by_cases h1 : s = ⟨#[42, 42]⟩
  · have h1' := (Ds.bl_eq s [42, 42]).1 h1
    have D := Lib.hid (show Ds.patQ (Ds.bl s) = true by unfold Ds.patQ; rw [decide_eq_true h1']; rfl)
    clear hl h1'
    subst h1
    go_enter Tryz.func105, Tryz.ntmps105
    go_wp2_with fail
    go_ret
    exact ⟨ret_bool D.out.symm, rfl⟩
  have D := Lib.hid (show Ds.patQ (Ds.bl s) = (Ds.qual Ds.ups Ds.pls (Ds.bl s) && !Ds.ss (Ds.bl s)) by unfold Ds.patQ; rw [decide_eq_false (fun h => h1 ((Ds.bl_eq s [42, 42]).2 h))]; rfl)
  have hne := Ds.bl_beq s [42, 42] h1
  clear h1
  cases hq : Ds.qual Ds.ups Ds.pls (Ds.bl s)
  · rw [hq] at D
    clear hl
    go_enter Tryz.func105, Tryz.ntmps105
    go_wp2_with (go_at_call 82; (with_reducible refine (ds_quals _ _).mono ?_); rintro e w' ⟨rfl, rfl⟩)
    go_ret
    exact ⟨ret_bool D.out.symm, rfl⟩
  · rw [hq] at D
    have hs := Ds.qual_le _ _ _ hq
    have hs' : s.size < 4294967281 := by omega
    clear hl hs
    obtain ⟨m, hm⟩ := hm
    have hss : Lib.contains s.data.toList [42, 42] = Ds.ss (Ds.bl s) := Ds.contains_ss _
    go_enter Tryz.func105, Tryz.ntmps105
    go_wp2_with (first | (go_at_call 82; (with_reducible refine (ds_quals _ _).mono ?_); rintro e w' ⟨rfl, rfl⟩) | (go_at_call 97; (with_reducible refine (Tryz.strings_Contains _ _ _ _ hs' hm).mono ?_); rintro e w' ⟨rfl, rfl⟩))
    go_ret
    exact ⟨ret_bool (D.out.symm), rfl⟩
theorem ds_all_pat (s : ByteArray) (p : Nat) (w : World) (hm : MaxL w) (hc : w.cell? ⟨p, 0, none⟩ = some (.func (.func 104) #[] #[])) :
    Calls Tryz.prog 80 #[.string s, .int .i64 31, .func (.func 105) #[] #[.pointer (some ⟨p, 0, none⟩)]] w fun e w' => e = .returned (.bool (Ds.pat (Ds.bl s))) ∧ Below w.heap.size w w' := by
  have hl := Ds.bl_length s
  by_cases h1 : s.size < 1
  · have D := Lib.hid (show Ds.pat (Ds.bl s) = false by unfold Ds.pat; rw [decide_eq_false (by omega)]; rfl)
    have e1 : (decide ((s.size : Int) < 1)) = true := by rw [decide_eq_true_eq]; omega
    clear hl h1
    go_enter Tryz.func80, Tryz.ntmps80
    go_wp2_with fail
    go_ret
    exact ⟨ret_bool D.out.symm, Below.refl _ _⟩
  by_cases h8 : 31 < s.size
  · have D := Lib.hid (show Ds.pat (Ds.bl s) = false by unfold Ds.pat; rw [decide_eq_false (p := (Ds.bl s).length ≤ 31) (by omega)]; simp)
    have e1 : (decide ((s.size : Int) < 1)) = false := by rw [decide_eq_false_iff_not]; omega
    have e2 : (decide (31 < (s.size : Int))) = true := by rw [decide_eq_true_eq]; omega
    clear hl h1
    go_enter Tryz.func80, Tryz.ntmps80
    go_wp2_with fail
    go_ret
    exact ⟨ret_bool D.out.symm, Below.refl _ _⟩
  have e1 : (decide ((s.size : Int) < 1)) = false := by rw [decide_eq_false_iff_not]; omega
  have e2 : (decide (31 < (s.size : Int))) = false := by rw [decide_eq_false_iff_not]; omega
  have hs : s.size < 4294967281 := by omega
  have D := Lib.hid (show Ds.pat (Ds.bl s) = (Ds.pieces (Ds.bl s)).all Ds.patQ by unfold Ds.pat; rw [decide_eq_true (by omega), decide_eq_true (by omega)]; rfl)
  clear hl h1 h8
  go_enter Tryz.func80, Tryz.ntmps80
  go_wp2_with (go_at_call 88; (with_reducible refine (split_dot _ _ hs hm).mono ?_); rintro e w' ⟨ps, hpl, hp, rfl, rfl⟩; have D2 := Lib.hid (D.out.trans (by rw [← hp, List.all_map]; rfl : _ = Ds.rest (fun q => Ds.patQ (Ds.bl q)) ps 0)); clear hp D)
  have S := Strs.new w ps 9
  have hm2 : MaxL (w.alloc (.cells (ps.map Value.string).toArray 9)) := hm.below (by (repeat (first | exact Below.refl _ _ | assumption | (refine Below.drew ?_) | (refine Below.alloc ?_ (by simp) _) | (refine Below.setCell ?_ (by simp) _))))
  have hc2 : (w.alloc (.cells (ps.map Value.string).toArray 9)).cell? ⟨p, 0, none⟩ = some (.func (.func 104) #[] #[]) := below_cell (by (repeat (first | exact Below.refl _ _ | assumption | (refine Below.drew ?_) | (refine Below.alloc ?_ (by simp) _) | (refine Below.setCell ?_ (by simp) _)))) hc
  clear hc
  go_loopw [8, 21] (fun q i wr => ∃ k : Nat, k ≤ ps.length ∧ i = .int .i64 k ∧ Ds.pat (Ds.bl s) = Ds.rest (fun q => Ds.patQ (Ds.bl q)) ps k ∧ wr = w.alloc (.cells (ps.map Value.string).toArray 9)) (fun _ i _ => ps.length - (intOf i).toNat)
  case atStart => exact ⟨0, by omega, rfl, D2.out, rfl⟩
  case round =>
    obtain ⟨k, hk, rfl, hq, rfl⟩ := hrel
    have HQ := Lib.hid hq
    clear hq
    by_cases hlt : k < ps.length
    · have hr := Ds.rest_next (fun q => Ds.patQ (Ds.bl q)) ps k hlt
      have hcell := S k hlt
      cases hG : Ds.patQ (Ds.bl ps[k])
      · rw [hG] at hr
        have HR := Lib.hid (HQ.out.trans hr)
        clear hr
        go_wp2_with (go_at_call 105; (with_reducible refine (ds_vpat2 _ p _ hm2 hc2).mono ?_); rintro e w' ⟨rfl, rfl⟩)
        go_ret
        exact ⟨ret_bool HR.out.symm, by (repeat (first | exact Below.refl _ _ | assumption | (refine Below.drew ?_) | (refine Below.alloc ?_ (by simp) _) | (refine Below.setCell ?_ (by simp) _)))⟩
      · rw [hG] at hr
        have HR := Lib.hid (HQ.out.trans hr)
        clear hr
        go_wp2_with (go_at_call 105; (with_reducible refine (ds_vpat2 _ p _ hm2 hc2).mono ?_); rintro e w' ⟨rfl, rfl⟩)
        go_roundw
        case rel => exact ⟨k + 1, by omega, by go_num, HR.out, trivial⟩
        case measure => simp [intOf]; omega
    · have hr := HQ.out.trans (Ds.rest_end (fun q => Ds.patQ (Ds.bl q)) ps k (by omega))
      have HR := Lib.hid hr
      clear hr
      obtain rfl : k = ps.length := by omega
      go_wp2_with fail
      go_ret
      exact ⟨ret_bool HR.out.symm, by (repeat (first | exact Below.refl _ _ | assumption | (refine Below.drew ?_) | (refine Below.alloc ?_ (by simp) _) | (refine Below.setCell ?_ (by simp) _)))⟩

theorem ds_pat (s : ByteArray) (w : World) (hm : MaxL w) :
    Calls Tryz.prog 68 #[.string s] w fun e w' => e = .returned (.bool (Ds.pat (Ds.bl s))) ∧ Below w.heap.size w w' := by
  go_enter Tryz.func68, Tryz.ntmps68
  go_wp2_with (go_at_call 80; (with_reducible refine (ds_all_pat _ _ _ (hm.below (by (repeat (first | exact Below.refl _ _ | assumption | (refine Below.drew ?_) | (refine Below.alloc ?_ (by simp) _) | (refine Below.setCell ?_ (by simp) _))))) (by simp [go_sem])).mono ?_); rintro e w1 ⟨rfl, hb⟩)
  go_ret
  exact ⟨rfl, (Below.alloc (Below.refl _ _) (Nat.le_refl _) _).trans (hb.mono (by simp))⟩
end Go.Proofs.YtlkfhlgngkgflaaGreatDoor
