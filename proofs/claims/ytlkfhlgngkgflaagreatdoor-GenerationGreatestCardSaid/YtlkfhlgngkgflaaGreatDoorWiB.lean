/- Contracts of package wire: decode. -/
import Derived.Test.YtlkfhlgngkgflaaGreatDoorWiA
import Derived.Laws.Bits64b
namespace Go.Proofs.YtlkfhlgngkgflaaGreatDoor
open Go.RowKit
set_option maxHeartbeats 800000
set_option maxRecDepth 4000
theorem hor_any (a b k : Nat) (ha : a < 2 ^ (7 * k)) (hb : b < 256) (h : b % 128 * 2 ^ (7 * k) + a < 2 ^ 64) :
    bits .or .u64 (a : Int) (IntKind.u64.wrap (IntKind.u64.wrap (bits .and .u8 (b : Int) 127) * 2 ^ (7 * k))) = ((a + b % 128 * 2 ^ (7 * k) : Nat) : Int) := by
  have e : (2 : Nat) ^ 64 = 18446744073709551616 := by decide
  rw [e] at h
  have h1 : bits .and .u8 (b : Int) 127 = ((b % 128 : Nat) : Int) := by
    have := bits_mask .u8 8 (by decide) wraps_u8 7 (by decide) (b : Int) (by omega) (by show (b : Int) < 256; omega)
    refine this.trans ?_
    simp
  have h2 : IntKind.u64.wrap ((b % 128 : Nat) : Int) = ((b % 128 : Nat) : Int) := IntWalk.u64_in _ ⟨by omega, by omega⟩
  have h3 : ((b % 128 : Nat) : Int) * 2 ^ (7 * k) = ((b % 128 * 2 ^ (7 * k) : Nat) : Int) := by push_cast; rfl
  have h4 : IntKind.u64.wrap ((b % 128 * 2 ^ (7 * k) : Nat) : Int) = ((b % 128 * 2 ^ (7 * k) : Nat) : Int) := IntWalk.u64_in _ ⟨by omega, by omega⟩
  rw [h1, h2, h3, h4, bits_or_u64_nat _ _ (by omega) (by omega), Wi.or_add _ _ _ ha]
theorem fit8 (a b k : Nat) (hk : k ≤ 8) (ha : a < 2 ^ (7 * k)) : b % 128 * 2 ^ (7 * k) + a < 2 ^ (7 * (k + 1)) ∧ b % 128 * 2 ^ (7 * k) + a < 2 ^ 64 := by
  have hp : 2 ^ (7 * (k + 1)) = 128 * 2 ^ (7 * k) := by rw [show 7 * (k + 1) = 7 + 7 * k by omega, Nat.pow_add]
  have h1 : b % 128 ≤ 127 := by omega
  have h2 := Nat.mul_le_mul_right (2 ^ (7 * k)) h1
  have h3 : b % 128 * 2 ^ (7 * k) + a < 2 ^ (7 * (k + 1)) := by rw [hp]; omega
  exact ⟨h3, Nat.lt_of_lt_of_le h3 (Nat.pow_le_pow_right (by decide) (by omega))⟩
theorem fit9 (a b : Nat) (hb : b ≤ 1) (ha : a < 2 ^ (7 * 9)) : b % 128 * 2 ^ (7 * 9) + a < 2 ^ 64 := by
  have h1 : b % 128 ≤ 1 := by omega
  have h2 := Nat.mul_le_mul_right (2 ^ (7 * 9)) h1
  have e : (2 : Nat) ^ 64 = 2 ^ (7 * 9) + 2 ^ (7 * 9) := by decide
  omega
theorem wi_decode (s : ByteArray) (w : World) (hs : s.size ≤ 10000) :
    Calls Tryz.prog 123 #[.string s] w fun e w' => e = .returned (.tuple #[.int .u64 (Wi.dec 0 0 (Ds.bl s)).1, .int .i64 (Wi.dec 0 0 (Ds.bl s)).2]) ∧ w = w' := by
  have HL := Lib.hid (Ds.bl_length s)
  go_enter Tryz.func123, Tryz.ntmps123
  go_wp2_with fail
  go_loopw [4, 5, 6] (fun n i _ wr => ∃ k a : Nat, k ≤ s.size ∧ k ≤ 10 ∧ i = .int .i64 k ∧ n = .int .u64 a ∧ (k ≤ 9 → a < 2 ^ (7 * k)) ∧ Wi.dec 0 0 (Ds.bl s) = Wi.dec k a ((Ds.bl s).drop k) ∧ w = wr) (fun _ i _ _ => 10 - (intOf i).toNat)
  case atStart => exact ⟨0, 0, by omega, by omega, rfl, rfl, by intro _; decide, rfl, rfl⟩
  case round =>
    obtain ⟨k, a, hk, hk10, rfl, rfl, ha, hd, rfl⟩ := hrel
    have HA := Lib.hid ha
    have HD := Lib.hid hd
    clear ha hd
    by_cases h10 : k < 10
    · by_cases hlt : k < s.size
      · have hdr : (Ds.bl s).drop k = s[k] :: (Ds.bl s).drop (k + 1) := by
          rw [List.drop_eq_getElem_cons (by rw [HL.out]; exact hlt), Ds.bl_get s k hlt]
        have hr := HD.out.trans (by rw [hdr])
        rw [Wi.dec, if_neg (by omega)] at hr
        have hb := s[k].toNat_lt
        have ha := HA.out (by omega)
        clear hdr
        rcases (by omega : k ≤ 8 ∨ k = 9) with hk8 | rfl
        · obtain ⟨f1, f2⟩ := fit8 a s[k].toNat k hk8 ha
          have hor := hor_any a s[k].toNat k ha (by omega) f2
          have F1 := Lib.hid (show a + s[k].toNat % 128 * 2 ^ (7 * k) < 2 ^ (7 * (k + 1)) by rw [Nat.add_comm]; exact f1)
          have e9 : ((k : Int) == 9) = false := by simp; omega
          rw [if_neg (by omega)] at hr
          clear ha f1 f2
          by_cases h128 : s[k].toNat < 128
          · rw [if_pos h128] at hr
            by_cases h0 : s[k].toNat = 0 ∧ 0 < k
            · rw [if_pos h0] at hr
              have HR := Lib.hid hr
              have e0 : ((s[k].toNat : Int) == 0) = true := by simp [h0.1]
              have k0 := h0.2
              clear hr h0
              go_wp2_with fail
              go_ret2
              exact ⟨by rw [HR.out]; rfl, rfl⟩
            · rw [if_neg h0] at hr
              have HR := Lib.hid hr
              clear hr
              rcases (by omega : s[k].toNat ≠ 0 ∨ k = 0) with hz | rfl
              · have e0 : ((s[k].toNat : Int) == 0) = false := by simpa using hz
                clear h0 hz
                go_wp2_with fail
                go_ret2
                exact ⟨by rw [HR.out]; rfl, rfl⟩
              · clear h0
                have hor' : bits .or .u64 (a : Int) (IntKind.u64.wrap (IntKind.u64.wrap (bits .and .u8 (s[0].toNat : Int) 127))) = ((a + s[0].toNat % 128 * 2 ^ (7 * 0) : Nat) : Int) := by have := hor; rw [show 7 * 0 = 0 from rfl, Int.pow_zero, Int.mul_one] at this; exact this
                have HV := Lib.hid (show ((a : Int) + (s[0].toNat : Int) % 128) = ((a + s[0].toNat % 128 * 2 ^ (7 * 0) : Nat) : Int) by simp)
                by_cases hz : s[0].toNat = 0
                · have e0 : ((s[0].toNat : Int) == 0) = true := by simp [hz]
                  clear hz
                  go_wp2_with fail
                  go_ret2
                  exact ⟨by rw [HR.out]; exact congrArg (fun x => Ending.returned (.tuple #[.int .u64 x, .int .i64 1])) HV.out, rfl⟩
                · have e0 : ((s[0].toNat : Int) == 0) = false := by simpa using hz
                  clear hz
                  go_wp2_with fail
                  go_ret2
                  exact ⟨by rw [HR.out]; exact congrArg (fun x => Ending.returned (.tuple #[.int .u64 x, .int .i64 1])) HV.out, rfl⟩
          · rw [if_neg h128] at hr
            have HR := Lib.hid hr
            have e0 : ((s[k].toNat : Int) == 0) = false := by simp; omega
            clear hr
            go_wp2_with fail
            go_roundw
            case rel => exact ⟨k + 1, _, by omega, by omega, by go_num, rfl, fun _ => F1.out, HR.out, trivial⟩
            case measure => simp [intOf]; omega
        · by_cases h1 : 1 < s[9].toNat
          · rw [if_pos ⟨rfl, h1⟩] at hr
            have HR := Lib.hid hr
            have e1 : decide ((1 : Int) < (s[9].toNat : Int)) = true := by simp; omega
            clear hr ha
            go_wp2_with fail
            go_ret2
            exact ⟨by rw [HR.out]; rfl, rfl⟩
          · rw [if_neg (by omega), if_pos (by omega)] at hr
            have hor := hor_any a s[9].toNat 9 ha (by omega) (fit9 a s[9].toNat (by omega) ha)
            have e1 : decide ((1 : Int) < (s[9].toNat : Int)) = false := by simp; omega
            rw [show ((2 : Int) ^ (7 * 9)) = 9223372036854775808 by decide] at hor
            have HOR := Lib.hid hor
            clear ha hor
            by_cases h0 : s[9].toNat = 0
            · rw [if_pos ⟨h0, by omega⟩] at hr
              have HR := Lib.hid hr
              have e0 : ((s[9].toNat : Int) == 0) = true := by simp [h0]
              clear hr h0
              go_wp2_with fail
              go_ret2
              exact ⟨by rw [HR.out]; rfl, rfl⟩
            · rw [if_neg (by omega)] at hr
              have HR := Lib.hid hr
              have e0 : ((s[9].toNat : Int) == 0) = false := by simpa using h0
              clear hr h0
              go_wp2_with fail
              go_ret2
              exact ⟨by rw [HR.out]; exact congrArg (fun x => Ending.returned (.tuple #[.int .u64 x, .int .i64 10])) HOR.out, rfl⟩
      · have hr := HD.out.trans (by rw [List.drop_eq_nil_of_le (by rw [HL.out]; omega), Wi.dec])
        have HR := Lib.hid hr
        clear hr
        go_wp2_with fail
        go_ret2
        exact ⟨by rw [HR.out]; rfl, rfl⟩
    · have hk0 : k = 10 := by omega
      subst hk0
      have hr := HD.out.trans (by rcases hx : (Ds.bl s).drop 10 with _ | ⟨b, r⟩ <;> rw [Wi.dec] <;> first | rfl | rw [if_pos (by omega)])
      have HR := Lib.hid hr
      clear hr
      go_wp2_with fail
      all_goals (go_ret2; exact ⟨by rw [HR.out]; rfl, rfl⟩)
end Go.Proofs.YtlkfhlgngkgflaaGreatDoor
