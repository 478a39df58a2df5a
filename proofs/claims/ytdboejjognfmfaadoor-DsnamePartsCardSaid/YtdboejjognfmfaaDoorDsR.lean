/- Contracts of the reference: letter, part. -/
import Derived.Test.YtdboejjognfmfaaDoorDsC
import Derived.Test.YtdboejjognfmfaaDoorDsN
namespace Go.Proofs.YtdboejjognfmfaaDoor
open Go.RowKit
set_option maxHeartbeats 400000

theorem rds_letter (c : UInt8) (w : World) :
    Calls Tryd.prog 101 #[.int .u8 c.toNat] w fun e w' => e = .returned (.bool (Ds.up c)) ∧ w = w' := by
  go_enter Tryd.func101, Tryd.ntmps101
  go_wp2
  all_goals (go_ret; exact ⟨ret_bool (by rw [Bool.eq_iff_iff]; simp [Ds.up]; omega), rfl⟩)
namespace Ds
theorem bl_getD (s : ByteArray) (k : Nat) (h : k < s.size) : (bl s).getD k 0 = s[k] := by
  rw [List.getD_eq_getElem?_getD, List.getElem?_eq_getElem (by rw [bl_length]; exact h), bl_get s k h]; rfl
theorem partR_len (st : Bool) (l : List UInt8) (h : l.length < 1 ∨ 8 < l.length) : partR st l = false := by
  unfold partR
  rcases h with h | h
  · rw [decide_eq_false (by omega)]; simp
  · rw [decide_eq_false (p := l.length ≤ 8) (by omega)]; simp
theorem partR_head (st : Bool) (l : List UInt8) (h : dg (l.getD 0 0) = true) : partR st l = false := by
  unfold partR; rw [h]; simp
theorem partR_rest (st : Bool) (l : List UInt8) (h1 : 1 ≤ l.length) (h8 : l.length ≤ 8) (h : dg (l.getD 0 0) = false) : partR st l = rest (okAt st l) (List.range l.length) 0 := by
  unfold partR; rw [h, decide_eq_true h1, decide_eq_true h8]; rfl
theorem okAt_val (st : Bool) (l : List UInt8) (j : Nat) (c p : UInt8) (hc : l.getD j 0 = c) (hp : l.getD (j - 1) 0 = p) : okAt st l j = ((up c || dg c || (st && decide (c.toNat = 42))) && !(st && decide (c.toNat = 42) && decide (0 < j) && decide (p.toNat = 42))) := by
  unfold okAt; rw [hc, hp]
theorem okAt_no (l : List UInt8) (j : Nat) (c : UInt8) (hc : l.getD j 0 = c) : okAt false l j = (up c || dg c) := by
  rw [okAt_val false l j c _ hc rfl]; simp
theorem okAt_pl (st : Bool) (l : List UInt8) (j : Nat) (c : UInt8) (hc : l.getD j 0 = c) (h : c.toNat ≠ 42) : okAt st l j = (up c || dg c) := by
  rw [okAt_val st l j c _ hc rfl, decide_eq_false h]; simp
theorem okAt_star (l : List UInt8) (j : Nat) (c p : UInt8) (hc : l.getD j 0 = c) (hp : l.getD (j - 1) 0 = p) (h : c.toNat = 42) : okAt true l j = !(decide (0 < j) && decide (p.toNat = 42)) := by
  rw [okAt_val true l j c p hc hp, decide_eq_true h]; simp
theorem up_ne42 (c : UInt8) (h : up c = true) : c.toNat ≠ 42 := by
  simp only [up, Bool.and_eq_true, decide_eq_true_eq] at h; omega
theorem dg_ne42 (c : UInt8) (h : dg c = true) : c.toNat ≠ 42 := by
  simp only [dg, Bool.and_eq_true, decide_eq_true_eq] at h; omega
end Ds
theorem rds_part_loop (st : Bool) (s : ByteArray) (w : World) (h1 : 1 ≤ s.size) (h8 : s.size ≤ 8) (hd : Ds.dg (s[0]'h1) = false) (hne : Hid (st = true → (s.toList == [42, 42]) = false)) :
    Calls Tryd.prog 85 #[.string s, .bool st] w fun e w' => e = .returned (.bool (Ds.rest (Ds.okAt st (Ds.bl s)) (List.range (Ds.bl s).length) 0)) ∧ w = w' := by
  have e1 : (decide ((s.size : Int) < 1)) = false := by rw [decide_eq_false_iff_not]; omega
  have e2 : (decide (8 < (s.size : Int))) = false := by rw [decide_eq_false_iff_not]; omega
  have HL := Lib.hid (Ds.bl_length s)
  have D := Lib.hid (rfl : Ds.rest (Ds.okAt st (Ds.bl s)) (List.range (Ds.bl s).length) 0 = Ds.rest (Ds.okAt st (Ds.bl s)) (List.range (Ds.bl s).length) 0)
  cases st
  · go_enter Tryd.func85, Tryd.ntmps85
    go_wp2_with (go_at_call 84; (with_reducible refine (rds_digit _ _).mono ?_); rintro e w' ⟨rfl, rfl⟩)
    clear e1 e2 hne hd
    go_loopw [5, 6] (fun i _ wr => ∃ k : Nat, k ≤ s.size ∧ i = .int .i64 k ∧ Ds.rest (Ds.okAt false (Ds.bl s)) (List.range (Ds.bl s).length) 0 = Ds.rest (Ds.okAt false (Ds.bl s)) (List.range (Ds.bl s).length) k ∧ w = wr) (fun i _ _ => s.size - (intOf i).toNat)
    case atStart => exact ⟨0, by omega, rfl, rfl, rfl⟩
    case round =>
      obtain ⟨k, hk, rfl, hq, rfl⟩ := hrel
      have HQ := Lib.hid hq
      clear hq
      by_cases hlt : k < s.size
      · have hr := Ds.rest_next (Ds.okAt false (Ds.bl s)) (List.range (Ds.bl s).length) k (by rw [List.length_range, HL.out]; exact hlt)
        rw [List.getElem_range, Ds.okAt_no _ _ _ (Ds.bl_getD s k hlt)] at hr
        cases hU : Ds.up s[k] <;> cases hD : Ds.dg s[k]
        all_goals
          rw [hU, hD] at hr
          have HR := Lib.hid (HQ.out.trans hr)
          clear hr
          go_wp2_with (first | (go_at_call 84; (with_reducible refine (rds_digit _ _).mono ?_); rintro e w' ⟨rfl, rfl⟩) | (go_at_call 101; (with_reducible refine (rds_letter _ _).mono ?_); rintro e w' ⟨rfl, rfl⟩))
          first
          | (go_ret
             exact ⟨ret_bool HR.out.symm, rfl⟩)
          | (go_roundw
             case rel => exact ⟨k + 1, by omega, by go_num, HR.out, trivial⟩
             case measure => simp [intOf]; omega)
      · have hr := HQ.out.trans (Ds.rest_end (Ds.okAt false (Ds.bl s)) (List.range (Ds.bl s).length) k (by rw [List.length_range, HL.out]; omega))
        have HR := Lib.hid hr
        clear hr
        obtain rfl : k = s.size := by omega
        go_wp2_with fail
        go_ret
        exact ⟨ret_bool HR.out.symm, rfl⟩
  · have hne' := hne.out rfl
    go_enter Tryd.func85, Tryd.ntmps85
    go_wp2_with (go_at_call 84; (with_reducible refine (rds_digit _ _).mono ?_); rintro e w' ⟨rfl, rfl⟩)
    clear e1 e2 hne hne' hd
    go_loopw [5, 6] (fun i _ wr => ∃ k : Nat, k ≤ s.size ∧ i = .int .i64 k ∧ Ds.rest (Ds.okAt true (Ds.bl s)) (List.range (Ds.bl s).length) 0 = Ds.rest (Ds.okAt true (Ds.bl s)) (List.range (Ds.bl s).length) k ∧ w = wr) (fun i _ _ => s.size - (intOf i).toNat)
    case atStart => exact ⟨0, by omega, rfl, rfl, rfl⟩
    case round =>
      obtain ⟨k, hk, rfl, hq, rfl⟩ := hrel
      have HQ := Lib.hid hq
      clear hq
      by_cases hlt : k < s.size
      · have hr := Ds.rest_next (Ds.okAt true (Ds.bl s)) (List.range (Ds.bl s).length) k (by rw [List.length_range, HL.out]; exact hlt)
        rw [List.getElem_range] at hr
        have HR := Lib.hid (HQ.out.trans hr)
        clear hr
        by_cases h42 : s[k].toNat = 42
        · have e42 : ((s[k].toNat : Int) == 42) = true := by simp [h42]
          have hU : Ds.up s[k] = false := by simp [Ds.up, h42]
          have hD : Ds.dg s[k] = false := by simp [Ds.dg, h42]
          rcases k with _ | j
          · have hok := Ds.okAt_star (Ds.bl s) 0 _ _ (Ds.bl_getD s 0 hlt) rfl h42
            have HK := Lib.hid hok
            clear hok h42
            go_wp2_with (first | (go_at_call 84; (with_reducible refine (rds_digit _ _).mono ?_); rintro e w' ⟨rfl, rfl⟩) | (go_at_call 101; (with_reducible refine (rds_letter _ _).mono ?_); rintro e w' ⟨rfl, rfl⟩))
            go_roundw
            case rel => exact ⟨1, by omega, by go_num, by rw [HR.out, HK.out]; simp, trivial⟩
            case measure => simp [intOf]; omega
          · have hok := Ds.okAt_star (Ds.bl s) (j + 1) _ _ (Ds.bl_getD s (j + 1) hlt) (Ds.bl_getD s j (by omega)) h42
            have hj : j < s.size := by omega
            have HK := Lib.hid hok
            clear hok h42
            by_cases hp : s[j].toNat = 42
            · have ep : ((s[j].toNat : Int) == 42) = true := by simp [hp]
              have HP := Lib.hid hp
              clear hp
              go_wp2_with (first | (go_at_call 84; (with_reducible refine (rds_digit _ _).mono ?_); rintro e w' ⟨rfl, rfl⟩) | (go_at_call 101; (with_reducible refine (rds_letter _ _).mono ?_); rintro e w' ⟨rfl, rfl⟩))
              go_ret
              exact ⟨ret_bool (by rw [HR.out, HK.out, HP.out]; simp), rfl⟩
            · have ep : ((s[j].toNat : Int) == 42) = false := by simp; omega
              have HP := Lib.hid (decide_eq_false hp)
              clear hp
              go_wp2_with (first | (go_at_call 84; (with_reducible refine (rds_digit _ _).mono ?_); rintro e w' ⟨rfl, rfl⟩) | (go_at_call 101; (with_reducible refine (rds_letter _ _).mono ?_); rintro e w' ⟨rfl, rfl⟩))
              go_roundw
              case rel => exact ⟨j + 1 + 1, by omega, by go_num, by rw [HR.out, HK.out, HP.out]; simp, trivial⟩
              case measure => simp [intOf]; omega
        · have e42 : ((s[k].toNat : Int) == 42) = false := by simp; omega
          have hok := Ds.okAt_pl true (Ds.bl s) k _ (Ds.bl_getD s k hlt) h42
          have HK := Lib.hid hok
          clear hok h42
          cases hU : Ds.up s[k] <;> cases hD : Ds.dg s[k]
          all_goals
            have HV := Lib.hid (show Ds.okAt true (Ds.bl s) k = _ by rw [HK.out, hU, hD])
            go_wp2_with (first | (go_at_call 84; (with_reducible refine (rds_digit _ _).mono ?_); rintro e w' ⟨rfl, rfl⟩) | (go_at_call 101; (with_reducible refine (rds_letter _ _).mono ?_); rintro e w' ⟨rfl, rfl⟩))
            first
            | (go_ret
               exact ⟨ret_bool (by rw [HR.out, HV.out]; simp), rfl⟩)
            | (go_roundw
               case rel => exact ⟨k + 1, by omega, by go_num, by rw [HR.out, HV.out]; simp, trivial⟩
               case measure => simp [intOf]; omega)
      · have hr := HQ.out.trans (Ds.rest_end (Ds.okAt true (Ds.bl s)) (List.range (Ds.bl s).length) k (by rw [List.length_range, HL.out]; omega))
        have HR := Lib.hid hr
        clear hr
        obtain rfl : k = s.size := by omega
        go_wp2_with fail
        go_ret
        exact ⟨ret_bool HR.out.symm, rfl⟩
theorem rds_part (st : Bool) (s : ByteArray) (w : World) :
    Calls Tryd.prog 85 #[.string s, .bool st] w fun e w' => e = .returned (.bool (Ds.partE st (Ds.bl s))) ∧ w = w' := by
  have hl := Ds.bl_length s
  by_cases hss : st = true ∧ s = ⟨#[42, 42]⟩
  · obtain ⟨rfl, rfl⟩ := hss
    have D := Lib.hid (show Ds.partE true (Ds.bl ⟨#[42, 42]⟩) = true by decide)
    clear hl
    go_enter Tryd.func85, Tryd.ntmps85
    go_wp2_with fail
    go_ret
    exact ⟨ret_bool D.out.symm, rfl⟩
  have hne : Hid (st = true → (s.toList == [42, 42]) = false) := Lib.hid fun h => Ds.bl_beq s [42, 42] fun e => hss ⟨h, e⟩
  have DD : Ds.partE st (Ds.bl s) = Ds.partR st (Ds.bl s) := by
    unfold Ds.partE
    cases st
    · rfl
    · rw [decide_eq_false (fun h => hss ⟨rfl, (Ds.bl_eq s [42, 42]).2 h⟩)]; rfl
  by_cases h1 : s.size < 1
  · have D := Lib.hid (DD.trans (Ds.partR_len st _ (by omega)))
    have e1 : (decide ((s.size : Int) < 1)) = true := by rw [decide_eq_true_eq]; omega
    clear hl h1 hss DD
    cases st
    all_goals
      first | (have hne' := hne.out rfl) | skip
      go_enter Tryd.func85, Tryd.ntmps85
      go_wp2_with fail
      go_ret
      exact ⟨ret_bool D.out.symm, rfl⟩
  by_cases h8 : 8 < s.size
  · have D := Lib.hid (DD.trans (Ds.partR_len st _ (by omega)))
    have e1 : (decide ((s.size : Int) < 1)) = false := by rw [decide_eq_false_iff_not]; omega
    have e2 : (decide (8 < (s.size : Int))) = true := by rw [decide_eq_true_eq]; omega
    clear hl h1 hss DD
    cases st
    all_goals
      first | (have hne' := hne.out rfl) | skip
      go_enter Tryd.func85, Tryd.ntmps85
      go_wp2_with fail
      go_ret
      exact ⟨ret_bool D.out.symm, rfl⟩
  have hp : 0 < s.size := by omega
  cases hd : Ds.dg s[0]
  · have h := rds_part_loop st s w hp (by omega) hd hne
    rw [DD, Ds.partR_rest st _ (by omega) (by omega) (by rw [Ds.bl_getD s 0 hp]; exact hd)]
    exact h
  · have D := Lib.hid (DD.trans (Ds.partR_head st _ (by rw [Ds.bl_getD s 0 hp]; exact hd)))
    have e1 : (decide ((s.size : Int) < 1)) = false := by rw [decide_eq_false_iff_not]; omega
    have e2 : (decide (8 < (s.size : Int))) = false := by rw [decide_eq_false_iff_not]; omega
    clear hl h1 hss h8 DD
    cases st
    all_goals
      first | (have hne' := hne.out rfl) | skip
      go_enter Tryd.func85, Tryd.ntmps85
      go_wp2_with (go_at_call 84; (with_reducible refine (rds_digit _ _).mono ?_); rintro e w' ⟨rfl, rfl⟩)
      go_ret
      exact ⟨ret_bool D.out.symm, rfl⟩
end Go.Proofs.YtdboejjognfmfaaDoor
