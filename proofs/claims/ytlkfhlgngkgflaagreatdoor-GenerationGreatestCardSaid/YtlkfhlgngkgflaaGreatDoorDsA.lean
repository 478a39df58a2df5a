/- Contracts of package dsname: classes of bytes, qualifiers. -/
import Derived.Test.YtlkfhlgngkgflaaGreatDoorChecked
import Derived.Test.YtlkfhlgngkgflaaGreatDoorKit
import Derived.Test.YtlkfhlgngkgflaaGreatDoorDs
namespace Go.Proofs.YtlkfhlgngkgflaaGreatDoor
open Go.RowKit
set_option maxHeartbeats 400000

theorem ds_upper (c : UInt8) (w : World) :
    Calls Tryz.prog 83 #[.int .u8 c.toNat] w fun e w' => e = .returned (.bool (Ds.up c)) ∧ w = w' := by
  go_enter Tryz.func83, Tryz.ntmps83
  go_wp2
  all_goals (go_ret; exact ⟨ret_bool (by rw [Bool.eq_iff_iff]; simp [Ds.up]; omega), rfl⟩)
theorem ds_digit (c : UInt8) (w : World) :
    Calls Tryz.prog 110 #[.int .u8 c.toNat] w fun e w' => e = .returned (.bool (Ds.dg c)) ∧ w = w' := by
  go_enter Tryz.func110, Tryz.ntmps110
  go_wp2
  all_goals (go_ret; exact ⟨ret_bool (by rw [Bool.eq_iff_iff]; simp [Ds.dg]; omega), rfl⟩)
theorem ds_plain (c : UInt8) (w : World) :
    Calls Tryz.prog 84 #[.int .u8 c.toNat] w fun e w' => e = .returned (.bool (Ds.pl c)) ∧ w = w' := by
  cases h : Ds.up c
  all_goals
    have H := Lib.hid h
    clear h
    go_enter Tryz.func84, Tryz.ntmps84
    go_wp2_with (first | (go_at_call 83; (with_reducible refine (ds_upper _ _).mono ?_); rintro e w' ⟨rfl, rfl⟩) | (go_at_call 110; (with_reducible refine (ds_digit _ _).mono ?_); rintro e w' ⟨rfl, rfl⟩))
    all_goals (go_ret; exact ⟨ret_bool (by simp_all [Ds.pl, H.out]), rfl⟩)

/-- the star of ValidPattern, its other bytes -/
theorem ds_ups (c : UInt8) (w : World) :
    Calls Tryz.prog 104 #[.int .u8 c.toNat] w fun e w' => e = .returned (.bool (Ds.ups c)) ∧ w = w' := by
  cases h : Ds.up c
  all_goals
    go_enter Tryz.func104, Tryz.ntmps104
    go_wp2_with (go_at_call 83; (with_reducible refine (ds_upper _ _).mono ?_); rintro e w' ⟨rfl, rfl⟩)
    all_goals (go_ret; exact ⟨ret_bool (by rw [Bool.eq_iff_iff]; simp [Ds.ups, h] <;> omega), rfl⟩)
theorem ds_pls (c : UInt8) (w : World) :
    Calls Tryz.prog 106 #[.int .u8 c.toNat] w fun e w' => e = .returned (.bool (Ds.pls c)) ∧ w = w' := by
  cases h : Ds.pl c
  all_goals
    go_enter Tryz.func106, Tryz.ntmps106
    go_wp2_with (go_at_call 84; (with_reducible refine (ds_plain _ _).mono ?_); rintro e w' ⟨rfl, rfl⟩)
    all_goals (go_ret; exact ⟨ret_bool (by rw [Bool.eq_iff_iff]; simp [Ds.pls, h] <;> omega), rfl⟩)
theorem ds_qual (s : ByteArray) (w : World) :
    Calls Tryz.prog 82 #[.string s, .func (.func 83) #[] #[], .func (.func 84) #[] #[]] w fun e w' => e = .returned (.bool (Ds.qual Ds.up Ds.pl (Ds.bl s))) ∧ w = w' := by
  have hl := Ds.bl_length s
  by_cases h1 : s.size < 1
  · have D := Lib.hid (Ds.qual_len Ds.up Ds.pl (Ds.bl s) (by omega))
    have e1 : (decide ((s.size : Int) < 1)) = true := by rw [decide_eq_true_eq]; omega
    clear hl h1
    go_enter Tryz.func82, Tryz.ntmps82
    go_wp2_with fail
    go_ret
    exact ⟨ret_bool D.out.symm, rfl⟩
  by_cases h8 : 8 < s.size
  · have D := Lib.hid (Ds.qual_len Ds.up Ds.pl (Ds.bl s) (by omega))
    have e1 : (decide ((s.size : Int) < 1)) = false := by rw [decide_eq_false_iff_not]; omega
    have e2 : (decide (8 < (s.size : Int))) = true := by rw [decide_eq_true_eq]; omega
    clear hl h1
    go_enter Tryz.func82, Tryz.ntmps82
    go_wp2_with fail
    go_ret
    exact ⟨ret_bool D.out.symm, rfl⟩
  have e1 : (decide ((s.size : Int) < 1)) = false := by rw [decide_eq_false_iff_not]; omega
  have e2 : (decide (8 < (s.size : Int))) = false := by rw [decide_eq_false_iff_not]; omega
  have hp : 0 < s.size := by omega
  have h8' : s.size ≤ 8 := by omega
  have hg := Ds.bl_get s 0 hp
  cases hF : Ds.up s[0]
  · have D := Lib.hid (Ds.qual_head Ds.up Ds.pl (Ds.bl s) (by omega) (by rw [← hg]; exact hF))
    clear hl h1 h8 hg
    go_enter Tryz.func82, Tryz.ntmps82
    go_wp2_with (go_at_call 83; (with_reducible refine (ds_upper _ _).mono ?_); rintro e w' ⟨rfl, rfl⟩)
    go_ret
    exact ⟨ret_bool D.out.symm, rfl⟩
  have D := Lib.hid (Ds.qual_rest Ds.up Ds.pl (Ds.bl s) (by omega) (by omega) (by rw [← hg]; exact hF))
  have HL := Lib.hid hl
  clear hl h1 h8 hg
  go_enter Tryz.func82, Tryz.ntmps82
  go_wp2_with (go_at_call 83; (with_reducible refine (ds_upper _ _).mono ?_); rintro e w' ⟨rfl, rfl⟩)
  clear hF
  go_loopw [7] (fun i wr => ∃ k : Nat, k ≤ s.size ∧ i = .int .i64 k ∧ Ds.qual Ds.up Ds.pl (Ds.bl s) = Ds.rest Ds.pl (Ds.bl s) k ∧ w = wr) (fun i _ => s.size - (intOf i).toNat)
  case atStart => exact ⟨1, by omega, rfl, D.out, rfl⟩
  case round =>
    obtain ⟨k, hk, rfl, hq, rfl⟩ := hrel
    have HQ := Lib.hid hq
    clear hq
    by_cases hlt : k < s.size
    · have hr := Ds.rest_next Ds.pl (Ds.bl s) k (by rw [HL.out]; exact hlt)
      rw [← Ds.bl_get s k hlt] at hr
      cases hG : Ds.pl s[k]
      · rw [hG] at hr
        have HR := Lib.hid (HQ.out.trans hr)
        clear hr
        go_wp2_with (go_at_call 84; (with_reducible refine (ds_plain _ _).mono ?_); rintro e w' ⟨rfl, rfl⟩)
        go_ret
        exact ⟨ret_bool HR.out.symm, rfl⟩
      · rw [hG] at hr
        have HR := Lib.hid (HQ.out.trans hr)
        clear hr
        go_wp2_with (go_at_call 84; (with_reducible refine (ds_plain _ _).mono ?_); rintro e w' ⟨rfl, rfl⟩)
        go_roundw
        case rel => exact ⟨k + 1, by omega, by go_num, HR.out, trivial⟩
        case measure => simp [intOf]; omega
    · have hr := HQ.out.trans (Ds.rest_end Ds.pl (Ds.bl s) k (by rw [HL.out]; omega))
      have HR := Lib.hid hr
      clear hr
      obtain rfl : k = s.size := by omega
      go_wp2_with fail
      go_ret
      exact ⟨ret_bool HR.out.symm, rfl⟩
theorem ds_quals (s : ByteArray) (w : World) :
    Calls Tryz.prog 82 #[.string s, .func (.func 104) #[] #[], .func (.func 106) #[] #[]] w fun e w' => e = .returned (.bool (Ds.qual Ds.ups Ds.pls (Ds.bl s))) ∧ w = w' := by
  have hl := Ds.bl_length s
  by_cases h1 : s.size < 1
  · have D := Lib.hid (Ds.qual_len Ds.ups Ds.pls (Ds.bl s) (by omega))
    have e1 : (decide ((s.size : Int) < 1)) = true := by rw [decide_eq_true_eq]; omega
    clear hl h1
    go_enter Tryz.func82, Tryz.ntmps82
    go_wp2_with fail
    go_ret
    exact ⟨ret_bool D.out.symm, rfl⟩
  by_cases h8 : 8 < s.size
  · have D := Lib.hid (Ds.qual_len Ds.ups Ds.pls (Ds.bl s) (by omega))
    have e1 : (decide ((s.size : Int) < 1)) = false := by rw [decide_eq_false_iff_not]; omega
    have e2 : (decide (8 < (s.size : Int))) = true := by rw [decide_eq_true_eq]; omega
    clear hl h1
    go_enter Tryz.func82, Tryz.ntmps82
    go_wp2_with fail
    go_ret
    exact ⟨ret_bool D.out.symm, rfl⟩
  have e1 : (decide ((s.size : Int) < 1)) = false := by rw [decide_eq_false_iff_not]; omega
  have e2 : (decide (8 < (s.size : Int))) = false := by rw [decide_eq_false_iff_not]; omega
  have hp : 0 < s.size := by omega
  have h8' : s.size ≤ 8 := by omega
  have hg := Ds.bl_get s 0 hp
  cases hF : Ds.ups s[0]
  · have D := Lib.hid (Ds.qual_head Ds.ups Ds.pls (Ds.bl s) (by omega) (by rw [← hg]; exact hF))
    clear hl h1 h8 hg
    go_enter Tryz.func82, Tryz.ntmps82
    go_wp2_with (go_at_call 104; (with_reducible refine (ds_ups _ _).mono ?_); rintro e w' ⟨rfl, rfl⟩)
    go_ret
    exact ⟨ret_bool D.out.symm, rfl⟩
  have D := Lib.hid (Ds.qual_rest Ds.ups Ds.pls (Ds.bl s) (by omega) (by omega) (by rw [← hg]; exact hF))
  have HL := Lib.hid hl
  clear hl h1 h8 hg
  go_enter Tryz.func82, Tryz.ntmps82
  go_wp2_with (go_at_call 104; (with_reducible refine (ds_ups _ _).mono ?_); rintro e w' ⟨rfl, rfl⟩)
  clear hF
  go_loopw [7] (fun i wr => ∃ k : Nat, k ≤ s.size ∧ i = .int .i64 k ∧ Ds.qual Ds.ups Ds.pls (Ds.bl s) = Ds.rest Ds.pls (Ds.bl s) k ∧ w = wr) (fun i _ => s.size - (intOf i).toNat)
  case atStart => exact ⟨1, by omega, rfl, D.out, rfl⟩
  case round =>
    obtain ⟨k, hk, rfl, hq, rfl⟩ := hrel
    have HQ := Lib.hid hq
    clear hq
    by_cases hlt : k < s.size
    · have hr := Ds.rest_next Ds.pls (Ds.bl s) k (by rw [HL.out]; exact hlt)
      rw [← Ds.bl_get s k hlt] at hr
      cases hG : Ds.pls s[k]
      · rw [hG] at hr
        have HR := Lib.hid (HQ.out.trans hr)
        clear hr
        go_wp2_with (go_at_call 106; (with_reducible refine (ds_pls _ _).mono ?_); rintro e w' ⟨rfl, rfl⟩)
        go_ret
        exact ⟨ret_bool HR.out.symm, rfl⟩
      · rw [hG] at hr
        have HR := Lib.hid (HQ.out.trans hr)
        clear hr
        go_wp2_with (go_at_call 106; (with_reducible refine (ds_pls _ _).mono ?_); rintro e w' ⟨rfl, rfl⟩)
        go_roundw
        case rel => exact ⟨k + 1, by omega, by go_num, HR.out, trivial⟩
        case measure => simp [intOf]; omega
    · have hr := HQ.out.trans (Ds.rest_end Ds.pls (Ds.bl s) k (by rw [HL.out]; omega))
      have HR := Lib.hid hr
      clear hr
      obtain rfl : k = s.size := by omega
      go_wp2_with fail
      go_ret
      exact ⟨ret_bool HR.out.symm, rfl⟩
end Go.Proofs.YtlkfhlgngkgflaaGreatDoor
