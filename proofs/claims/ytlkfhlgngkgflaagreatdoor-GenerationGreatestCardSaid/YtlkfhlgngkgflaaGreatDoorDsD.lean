/- Contracts: IsGroup, Qualifiers, First. -/
import Derived.Test.YtlkfhlgngkgflaaGreatDoorDsB
import Derived.Test.YtlkfhlgngkgflaaGreatDoorDsC
namespace Go.Proofs.YtlkfhlgngkgflaaGreatDoor
open Go.RowKit
set_option maxHeartbeats 400000

theorem ds_group1 (s : ByteArray) (w : World) :
    Calls Tryz.prog 89 #[.string s] w fun e w' => e = .returned (.bool (decide (0 < Ds.num (Ds.bl s)))) ∧ w = w' := by
  go_enter Tryz.func89, Tryz.ntmps89
  go_wp2_with (go_at_call 90; (with_reducible refine (ds_number _ _).mono ?_); rintro e w' ⟨rfl, rfl⟩)
  go_ret
  exact ⟨ret_bool (by simp), rfl⟩
theorem ds_indexFunc (ps : List ByteArray) (b : Nat) (w : World) (hS : Strs w b ps) (hl : ps.length ≤ 100) :
    Calls Tryz.prog 114 #[.slice (some ⟨b, 0, none⟩) ps.length ps.length, .func (.func 89) #[] #[]] w fun e w' => (∃ i : Int, e = .returned (.int .i64 i) ∧ decide (0 ≤ i) = !(ps.all fun q => decide (Ds.num (Ds.bl q) = 0))) ∧ w = w' := by
  have D := Lib.hid (show (ps.all fun q => decide (Ds.num (Ds.bl q) = 0)) = Ds.rest (fun q => decide (Ds.num (Ds.bl q) = 0)) ps 0 from rfl)
  go_enter Tryz.func114, Tryz.ntmps114
  go_wp2_with fail
  go_loopw [5, 8] (fun _ i wr => ∃ k : Nat, k ≤ ps.length ∧ i = .int .i64 k ∧ (ps.all fun q => decide (Ds.num (Ds.bl q) = 0)) = Ds.rest (fun q => decide (Ds.num (Ds.bl q) = 0)) ps k ∧ w = wr) (fun _ i _ => ps.length - (intOf i).toNat)
  case atStart => exact ⟨0, by omega, rfl, rfl, rfl⟩
  case round =>
    obtain ⟨k, hk, rfl, hq, rfl⟩ := hrel
    have HQ := Lib.hid hq
    clear hq
    by_cases hlt : k < ps.length
    · have hr := Ds.rest_next (fun q => decide (Ds.num (Ds.bl q) = 0)) ps k hlt
      have hc := hS k hlt
      by_cases hG : 0 < Ds.num (Ds.bl ps[k])
      · rw [decide_eq_false (by omega), Bool.false_and] at hr
        have HR := Lib.hid (HQ.out.trans hr)
        clear hr
        have hG' : decide (0 < Ds.num (Ds.bl ps[k])) = true := decide_eq_true hG
        go_wp2_with (go_at_call 89; (with_reducible refine (ds_group1 _ _).mono ?_); rintro e w' ⟨rfl, rfl⟩)
        go_ret
        exact ⟨⟨k, rfl, by rw [HR.out]; simp⟩, rfl⟩
      · rw [decide_eq_true (by omega), Bool.true_and] at hr
        have HR := Lib.hid (HQ.out.trans hr)
        clear hr
        have hG' : decide (0 < Ds.num (Ds.bl ps[k])) = false := decide_eq_false hG
        go_wp2_with (go_at_call 89; (with_reducible refine (ds_group1 _ _).mono ?_); rintro e w' ⟨rfl, rfl⟩)
        go_roundw
        case rel => exact ⟨k + 1, by omega, by go_num, HR.out, trivial⟩
        case measure => simp [intOf]; omega
    · have hr := HQ.out.trans (Ds.rest_end (fun q => decide (Ds.num (Ds.bl q) = 0)) ps k (by omega))
      have HR := Lib.hid hr
      clear hr
      obtain rfl : k = ps.length := by omega
      go_wp2_with fail
      go_ret
      exact ⟨⟨-1, rfl, by rw [HR.out]; simp⟩, rfl⟩
theorem ds_containsFunc (ps : List ByteArray) (b : Nat) (w : World) (hS : Strs w b ps) (hl : ps.length ≤ 100) :
    Calls Tryz.prog 87 #[.slice (some ⟨b, 0, none⟩) ps.length ps.length, .func (.func 89) #[] #[]] w fun e w' => e = .returned (.bool (!(ps.all fun q => decide (Ds.num (Ds.bl q) = 0)))) ∧ w = w' := by
  go_enter Tryz.func87, Tryz.ntmps87
  go_wp2_with (go_at_call 114; (with_reducible refine (ds_indexFunc _ _ _ hS hl).mono ?_); rintro e w' ⟨⟨i, rfl, hi⟩, rfl⟩; have HI := Lib.hid hi; clear hi)
  go_ret
  exact ⟨ret_bool (by rw [← HI.out]; first | done | simp), rfl⟩
theorem ds_group (s : ByteArray) (w : World) (hm : MaxL w) :
    Calls Tryz.prog 51 #[.string s] w fun e w' => e = .returned (.bool (Ds.group (Ds.bl s))) ∧ Below w.heap.size w w' := by
  have hl := Ds.bl_length s
  by_cases h1 : 22 < s.size
  · have D := Lib.hid (show Ds.group (Ds.bl s) = false by unfold Ds.group; rw [decide_eq_false (p := (Ds.bl s).length ≤ 22) (by omega)]; simp)
    have e1 : (decide ((s.size : Int) ≤ 22)) = false := by rw [decide_eq_false_iff_not]; omega
    clear hl
    go_enter Tryz.func51, Tryz.ntmps51
    go_wp2_with fail
    go_ret
    exact ⟨ret_bool D.out.symm, Below.refl _ _⟩
  have e1 : (decide ((s.size : Int) ≤ 22)) = true := by rw [decide_eq_true_eq]; omega
  have hs : s.size < 4294967281 := by omega
  have hs1 : s.size ≤ 22 := by omega
  have D := Lib.hid (show Ds.group (Ds.bl s) = (Ds.name (Ds.bl s) && (Ds.pieces (Ds.bl s)).all fun q => decide (Ds.num q = 0)) by unfold Ds.group; rw [decide_eq_true (p := (Ds.bl s).length ≤ 22) (by omega), Bool.and_true])
  clear hl h1
  cases hn : Ds.name (Ds.bl s)
  · rw [hn, Bool.false_and] at D
    go_enter Tryz.func51, Tryz.ntmps51
    go_wp2_with (go_at_call 48; (with_reducible refine (ds_valid _ _ hm).mono ?_); rintro e w1 ⟨rfl, hb⟩)
    go_ret
    exact ⟨ret_bool D.out.symm, hb⟩
  · rw [hn, Bool.true_and] at D
    go_enter Tryz.func51, Tryz.ntmps51
    go_wp2_with (first
      | (go_at_call 48; (with_reducible refine (ds_valid _ _ hm).mono ?_); rintro e w1 ⟨rfl, hb⟩; have hm1 := hm.below hb)
      | (go_at_call 88; (with_reducible refine (split_dot _ _ hs hm1).mono ?_); rintro e w' ⟨ps, hpl, hp, rfl, rfl⟩; have S := Strs.new w1 ps 9; have hpl2 : ps.length ≤ 100 := (by omega); have D2 := Lib.hid (D.out.trans (by rw [← hp, List.all_map]; rfl : _ = ps.all fun q => decide (Ds.num (Ds.bl q) = 0))); clear hp)
      | (go_at_call 87; (with_reducible refine (ds_containsFunc _ _ _ S hpl2).mono ?_); rintro e w' ⟨rfl, rfl⟩))
    go_ret
    exact ⟨ret_bool (by rw [D2.out]), by (have hzz := (hb).size; (repeat (first | exact Below.refl _ _ | assumption | (refine Below.drew ?_) | (refine Below.alloc ?_ (by first | (simp; done) | (simp; omega) | omega) _) | (refine Below.setCell ?_ (by first | (simp; done) | (simp; omega) | omega) _))))⟩
end Go.Proofs.YtlkfhlgngkgflaaGreatDoor
