/- Contracts: number, IsGroup, Qualifiers, First. -/
import Derived.Test.YtlkfhlgngkgflaaGreatDoorDsA
import Derived.Test.YtlkfhlgngkgflaaGreatDoorDsP
namespace Go.Proofs.YtlkfhlgngkgflaaGreatDoor
open Go.RowKit
set_option maxHeartbeats 400000

theorem rds_digit (c : UInt8) (w : World) :
    Calls Tryz.prog 109 #[.int .u8 c.toNat] w fun e w' => e = .returned (.bool (Ds.dg c)) ∧ w = w' := by
  go_enter Tryz.func109, Tryz.ntmps109
  go_wp2
  all_goals (go_ret; exact ⟨ret_bool (by rw [Bool.eq_iff_iff]; simp [Ds.dg]; omega), rfl⟩)
theorem ds_number (s : ByteArray) (w : World) :
    Calls Tryz.prog 90 #[.string s] w fun e w' => e = .returned (.int .i64 (Ds.num (Ds.bl s))) ∧ w = w' := by
  have hl := Ds.bl_length s
  by_cases h8 : s.size = 8
  rotate_left
  · have D := Lib.hid (show Ds.num (Ds.bl s) = 0 by unfold Ds.num; rw [if_neg (by omega)])
    have e1 : ((s.size : Int) != 8) = true := by simp; omega
    clear hl h8
    go_enter Tryz.func90, Tryz.ntmps90
    go_wp2_with fail
    go_ret
    exact ⟨ret_int (by rw [D.out]; rfl), rfl⟩
  have h0 : 0 < s.size := by omega
  have hg := Ds.bl_get s 0 h0
  by_cases hG : s[0].toNat = 71
  rotate_left
  · have D := Lib.hid (show Ds.num (Ds.bl s) = 0 by
      unfold Ds.num
      rw [if_neg]
      rintro ⟨_, h, _⟩
      rw [List.getElem?_eq_getElem (by omega), ← hg] at h
      rw [Option.some.inj h] at hG
      exact hG rfl)
    have e1 : ((s[0].toNat : Int) != 71) = true := by simp; omega
    clear hl hg hG
    go_enter Tryz.func90, Tryz.ntmps90
    go_wp2_with fail
    go_ret
    exact ⟨ret_int (by rw [D.out]; rfl), rfl⟩
  have hG' : ((s[0].toNat : Int) != 71) = false := by simp [hG]
  have hG2 : (Ds.bl s)[0]? = some 71 := by
    rw [List.getElem?_eq_getElem (by omega), ← hg]
    exact congrArg some (UInt8.toNat_inj.1 hG)
  clear hG hg
  have hx : (s.extract 5 8).toList = (Ds.bl s).drop 5 := by
    rw [ByteArray.toList_eq, Lib.extract_data]
    simp only [Ds.bl]
    rw [List.take_of_length_le (by rw [List.length_drop, Array.length_toList]; show s.size - 5 ≤ _; omega)]
  by_cases hV : (Ds.bl s).drop 5 = [86, 48, 48]
  rotate_left
  · have D := Lib.hid (show Ds.num (Ds.bl s) = 0 by
      unfold Ds.num
      rw [if_neg]
      rintro ⟨_, _, h, _⟩
      exact hV h)
    have e1 : ((s.extract 5 8).toList == [86, 48, 48]) = false := by rw [hx, Bool.eq_false_iff]; intro h; exact hV (by simpa using h)
    clear hl hx hV hG2
    go_enter Tryz.func90, Tryz.ntmps90
    go_wp2_with fail
    go_ret
    exact ⟨ret_int (by rw [D.out]; rfl), rfl⟩
  have e1 : ((s.extract 5 8).toList == [86, 48, 48]) = true := by rw [hx, hV]; rfl
  have hl8 : (Ds.bl s).length = 8 := by omega
  have D := Lib.hid (show Ds.num (Ds.bl s) = if Ds.rest Ds.dg (Ds.mid (Ds.bl s)) 0 = true then Ds.nv (Ds.bl s) 4 else 0 by
    unfold Ds.num
    simp only [hl8, hG2, hV, true_and])
  have HL := Lib.hid hl8
  clear hl hx hV hG2 hl8
  go_enter Tryz.func90, Tryz.ntmps90
  go_wp2_with fail
  go_loopw [3, 4] (fun n i wr => ∃ k v : Nat, k ≤ 4 ∧ v = Ds.nv (Ds.bl s) k ∧ n = .int .i64 v ∧ i = .int .i64 (k + 1) ∧ Ds.rest Ds.dg (Ds.mid (Ds.bl s)) 0 = Ds.rest Ds.dg (Ds.mid (Ds.bl s)) k ∧ w = wr) (fun _ i _ => 6 - (intOf i).toNat)
  case atStart => exact ⟨0, 0, by omega, rfl, rfl, rfl, rfl, rfl⟩
  case round =>
    obtain ⟨k, v, hk, hv, rfl, rfl, hq, rfl⟩ := hrel
    have hvb : v ≤ 10000000000 := by rw [hv]; exact (Ds.nv_bound _ _).1
    have HV := Lib.hid hv
    have HQ := Lib.hid hq
    clear hv hq
    by_cases hlt : k < 4
    · have hks : k + 1 < s.size := by omega
      have hr := Ds.rest_next Ds.dg (Ds.mid (Ds.bl s)) k (by rw [Ds.mid_length _ HL.out]; exact hlt)
      rw [Ds.mid_get _ HL.out k hlt, ← Ds.bl_get s (k + 1) hks] at hr
      cases hG : Ds.dg s[k + 1]
      · rw [hG] at hr
        have HR := Lib.hid (HQ.out.trans hr)
        clear hr
        go_wp2_with (go_at_call 110; (with_reducible refine (ds_digit _ _).mono ?_); rintro e w' ⟨rfl, rfl⟩)
        go_ret
        exact ⟨ret_int (by rw [D.out, HR.out]; rfl), rfl⟩
      · rw [hG] at hr
        have HR := Lib.hid (HQ.out.trans hr)
        clear hr
        obtain ⟨hb1, hb2⟩ := Ds.dg_bounds _ hG
        have hn := Ds.nv_next (Ds.bl s) HL.out k hlt
        rw [← HV.out, ← Ds.bl_get s (k + 1) hks] at hn
        have HN := Lib.hid hn
        clear hn
        go_wp2_with (go_at_call 110; (with_reducible refine (ds_digit _ _).mono ?_); rintro e w' ⟨rfl, rfl⟩)
        go_roundw
        case rel => exact ⟨k + 1, _, by omega, HN.out.symm, by go_num, by go_num, HR.out, trivial⟩
        case measure => simp [intOf]; omega
    · obtain rfl : k = 4 := by omega
      have hr := HQ.out.trans (Ds.rest_end Ds.dg (Ds.mid (Ds.bl s)) 4 (by rw [Ds.mid_length _ HL.out]; omega))
      have HR := Lib.hid hr
      clear hr
      go_wp2_with fail
      go_ret
      exact ⟨ret_int (by rw [D.out, HR.out, HV.out]; rfl), rfl⟩
theorem rds_number (s : ByteArray) (w : World) :
    Calls Tryz.prog 76 #[.string s] w fun e w' => e = .returned (.int .i64 (Ds.num (Ds.bl s))) ∧ w = w' := by
  have hl := Ds.bl_length s
  by_cases h8 : s.size = 8
  rotate_left
  · have D := Lib.hid (show Ds.num (Ds.bl s) = 0 by unfold Ds.num; rw [if_neg (by omega)])
    have e1 : ((s.size : Int) != 8) = true := by simp; omega
    clear hl h8
    go_enter Tryz.func76, Tryz.ntmps76
    go_wp2_with fail
    go_ret
    exact ⟨ret_int (by rw [D.out]; rfl), rfl⟩
  have h0 : 0 < s.size := by omega
  have hg := Ds.bl_get s 0 h0
  by_cases hG : s[0].toNat = 71
  rotate_left
  · have D := Lib.hid (show Ds.num (Ds.bl s) = 0 by
      unfold Ds.num
      rw [if_neg]
      rintro ⟨_, h, _⟩
      rw [List.getElem?_eq_getElem (by omega), ← hg] at h
      rw [Option.some.inj h] at hG
      exact hG rfl)
    have e1 : ((s[0].toNat : Int) != 71) = true := by simp; omega
    clear hl hg hG
    go_enter Tryz.func76, Tryz.ntmps76
    go_wp2_with fail
    go_ret
    exact ⟨ret_int (by rw [D.out]; rfl), rfl⟩
  have hG' : ((s[0].toNat : Int) != 71) = false := by simp [hG]
  have hG2 : (Ds.bl s)[0]? = some 71 := by
    rw [List.getElem?_eq_getElem (by omega), ← hg]
    exact congrArg some (UInt8.toNat_inj.1 hG)
  clear hG hg
  have hx : (s.extract 5 8).toList = (Ds.bl s).drop 5 := by
    rw [ByteArray.toList_eq, Lib.extract_data]
    simp only [Ds.bl]
    rw [List.take_of_length_le (by rw [List.length_drop, Array.length_toList]; show s.size - 5 ≤ _; omega)]
  by_cases hV : (Ds.bl s).drop 5 = [86, 48, 48]
  rotate_left
  · have D := Lib.hid (show Ds.num (Ds.bl s) = 0 by
      unfold Ds.num
      rw [if_neg]
      rintro ⟨_, _, h, _⟩
      exact hV h)
    have e1 : ((s.extract 5 8).toList == [86, 48, 48]) = false := by rw [hx, Bool.eq_false_iff]; intro h; exact hV (by simpa using h)
    clear hl hx hV hG2
    go_enter Tryz.func76, Tryz.ntmps76
    go_wp2_with fail
    go_ret
    exact ⟨ret_int (by rw [D.out]; rfl), rfl⟩
  have e1 : ((s.extract 5 8).toList == [86, 48, 48]) = true := by rw [hx, hV]; rfl
  have hl8 : (Ds.bl s).length = 8 := by omega
  have D := Lib.hid (show Ds.num (Ds.bl s) = if Ds.rest Ds.dg (Ds.mid (Ds.bl s)) 0 = true then Ds.nv (Ds.bl s) 4 else 0 by
    unfold Ds.num
    simp only [hl8, hG2, hV, true_and])
  have HL := Lib.hid hl8
  clear hl hx hV hG2 hl8
  go_enter Tryz.func76, Tryz.ntmps76
  go_wp2_with fail
  go_loopw [3, 4] (fun n i wr => ∃ k v : Nat, k ≤ 4 ∧ v = Ds.nv (Ds.bl s) k ∧ n = .int .i64 v ∧ i = .int .i64 (k + 1) ∧ Ds.rest Ds.dg (Ds.mid (Ds.bl s)) 0 = Ds.rest Ds.dg (Ds.mid (Ds.bl s)) k ∧ w = wr) (fun _ i _ => 6 - (intOf i).toNat)
  case atStart => exact ⟨0, 0, by omega, rfl, rfl, rfl, rfl, rfl⟩
  case round =>
    obtain ⟨k, v, hk, hv, rfl, rfl, hq, rfl⟩ := hrel
    have hvb : v ≤ 10000000000 := by rw [hv]; exact (Ds.nv_bound _ _).1
    have HV := Lib.hid hv
    have HQ := Lib.hid hq
    clear hv hq
    by_cases hlt : k < 4
    · have hks : k + 1 < s.size := by omega
      have hr := Ds.rest_next Ds.dg (Ds.mid (Ds.bl s)) k (by rw [Ds.mid_length _ HL.out]; exact hlt)
      rw [Ds.mid_get _ HL.out k hlt, ← Ds.bl_get s (k + 1) hks] at hr
      cases hG : Ds.dg s[k + 1]
      · rw [hG] at hr
        have HR := Lib.hid (HQ.out.trans hr)
        clear hr
        go_wp2_with (go_at_call 109; (with_reducible refine (rds_digit _ _).mono ?_); rintro e w' ⟨rfl, rfl⟩)
        go_ret
        exact ⟨ret_int (by rw [D.out, HR.out]; rfl), rfl⟩
      · rw [hG] at hr
        have HR := Lib.hid (HQ.out.trans hr)
        clear hr
        obtain ⟨hb1, hb2⟩ := Ds.dg_bounds _ hG
        have hn := Ds.nv_next (Ds.bl s) HL.out k hlt
        rw [← HV.out, ← Ds.bl_get s (k + 1) hks] at hn
        have HN := Lib.hid hn
        clear hn
        go_wp2_with (go_at_call 109; (with_reducible refine (rds_digit _ _).mono ?_); rintro e w' ⟨rfl, rfl⟩)
        go_roundw
        case rel => exact ⟨k + 1, _, by omega, HN.out.symm, by go_num, by go_num, HR.out, trivial⟩
        case measure => simp [intOf]; omega
    · obtain rfl : k = 4 := by omega
      have hr := HQ.out.trans (Ds.rest_end Ds.dg (Ds.mid (Ds.bl s)) 4 (by rw [Ds.mid_length _ HL.out]; omega))
      have HR := Lib.hid hr
      clear hr
      go_wp2_with fail
      go_ret
      exact ⟨ret_int (by rw [D.out, HR.out, HV.out]; rfl), rfl⟩
end Go.Proofs.YtlkfhlgngkgflaaGreatDoor
