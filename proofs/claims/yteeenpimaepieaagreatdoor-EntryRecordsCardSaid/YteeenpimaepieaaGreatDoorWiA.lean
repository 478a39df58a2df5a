/- Several texts in one: WiA WiB WiC. -/
import Derived.Test.YteeenpimaepieaaGreatDoorChecked
import Derived.Test.YteeenpimaepieaaGreatDoorKit
import Derived.Test.YteeenpimaepieaaGreatDoorDs
import Derived.Test.YteeenpimaepieaaGreatDoorRd
import Derived.WalkLawsBesides
import Derived.Laws.BitsLemmas
import Derived.Lib.SmallJoins
import Derived.IntWalk
import Derived.Laws.Bits64b
section
/- Contracts of package wire: AppendNumber, AppendBool, AppendText. -/
namespace Go.Proofs.YteeenpimaepieaaGreatDoor
open Go.RowKit
set_option maxHeartbeats 800000
set_option maxRecDepth 4000
/-- a block of ten bytes -/
def BY (w : World) (g : Nat) (f : Nat → UInt8) : Prop := (∀ j, j < 10 → w.cell? ⟨g, j, none⟩ = some (.int .u8 (f j).toNat)) ∧ (∀ o, w.frozen? ⟨g, o, none⟩ = false)
theorem sl_ten (W : World) (g k : Nat) (hk : k ≤ 9) :
    (Instr.sliceAt 272 (.pointer (some ⟨g, 0, none⟩)) none (some (.int .i64 ((k : Int) + 1))) none).run Tryz.prog W = .ok (.slice (some ⟨g, 0, none⟩) (k + 1) 10) W := by
  have e : Tryz.prog.arrayLen 272 = 10 := by kernel_rfl
  have z : Tryz.prog.elem 272 = 5 := by kernel_rfl
  have ht : Tryz.prog.underlying 272 = some (.array (Tryz.prog.arrayLen 272) (Tryz.prog.elem 272)) := by kernel_rfl
  rw [run_sliceAt_array_h W 272 ⟨g, 0, none⟩ ht .i64 _ (by omega) (by rw [e]; omega), e, z]
  simp [Tryz.sizeOf5, slicedAt, Addr.add]
theorem or128 (m : Nat) : bits .or .u8 ((m : Int) % 256) 128 = ((m % 128 + 128 : Nat) : Int) := by
  have h := (bits_nat .u8 8 (by decide) wraps_u8 (m % 256) 128 (by omega) (by decide)).2
  have e : ((m : Int) % 256) = ((m % 256 : Nat) : Int) := by simp
  rw [e]
  refine h.trans ?_
  have key : ∀ x : Fin 256, x.val ||| 128 = x.val % 128 + 128 := by decide
  have := key ⟨m % 256, Nat.mod_lt _ (by decide)⟩
  simp only at this
  rw [this]
  congr 2
  omega
theorem conv_bytes (W : World) (g cap : Nat) (l : List UInt8) (h : ∀ j (hj : j < l.length), W.cell? ⟨g, j, none⟩ = some (.int .u8 (l[j].toNat : Int))) :
    (convert 99 9 (.slice (some ⟨g, 0, none⟩) l.length cap)).run Tryz.prog W = .ok (.string ⟨l.toArray⟩) W :=
  run_convert_bytes_back W 99 9 5 ⟨g, 0, none⟩ cap l Tryz.underlying99 Tryz.underlying5 Tryz.underlying9 (fun j hj => by
    have := h j hj
    rcases j with _ | j <;> simpa [Addr.add] using this)
theorem BY.set {w : World} {g : Nat} {f : Nat → UInt8} (h : BY w g f) (k : Nat) (hk : k < 10) (c : UInt8) : BY (w.setCell ⟨g, k, none⟩ (.int .u8 c.toNat)) g (fun j => if j = k then c else f j) := by
  refine ⟨fun j hj => ?_, fun o => by have := h.2 o; simpa using this⟩
  have h1 := h.1 j hj
  have h0 := h.1 k hk
  by_cases e : j = k
  · subst e; simp [go_sem, h0]
  · show _ = some (Value.int .u8 ((if j = k then c else f j : UInt8).toNat : Int))
    rw [if_neg e, ← h1]
    have e' : k ≠ j := fun h => e h.symm
    have e'' : (k == j) = false := by simpa using e'
    simp [go_sem]
theorem map_range_upd (f : Nat → UInt8) (k : Nat) (c : UInt8) : (List.range (k + 1)).map (fun j => if j = k then c else f j) = (List.range k).map f ++ [c] := by
  rw [List.range_succ, List.map_append]
  congr 1
  · apply List.map_congr_left
    intro j hj
    have : j < k := by simpa using hj
    rw [if_neg (by omega)]
  · simp
theorem k_le (n m k : Nat) (hm : 1 ≤ m) (h : m * 128 ^ k ≤ n) (hn : n < 18446744073709551616) : k ≤ 9 := by
  rcases Nat.lt_or_ge 9 k with h9 | h9
  · have h1 : 128 ^ 10 ≤ 128 ^ k := Nat.pow_le_pow_right (by decide) h9
    have h2 : 1 * 128 ^ k ≤ m * 128 ^ k := Nat.mul_le_mul_right _ hm
    have h3 : (128 : Nat) ^ 10 = 1180591620717411303424 := by decide
    omega
  · exact h9
theorem k_le8 (n m k : Nat) (hm : 128 ≤ m) (h : m * 128 ^ k ≤ n) (hn : n < 18446744073709551616) : k ≤ 8 := by
  have := k_le n (m / 128) (k + 1) (by omega) (Nat.le_trans (by rw [Nat.pow_succ, Nat.mul_comm (128 ^ k), ← Nat.mul_assoc]; exact Nat.mul_le_mul_right _ (Nat.div_mul_le_self _ _)) h) hn
  omega
theorem BY.new (w : World) : BY (w.alloc (.cells #[.int .u8 0, .int .u8 0, .int .u8 0, .int .u8 0, .int .u8 0, .int .u8 0, .int .u8 0, .int .u8 0, .int .u8 0, .int .u8 0] 272)) w.heap.size (fun _ => 0) := by
  refine ⟨fun j hj => ?_, fun o => by simp⟩
  rw [cell_of_row _ w.heap.size _ _ 272 (0, 0) (heap_alloc_new w _)]
  rcases (by omega : j = 0 ∨ j = 1 ∨ j = 2 ∨ j = 3 ∨ j = 4 ∨ j = 5 ∨ j = 6 ∨ j = 7 ∨ j = 8 ∨ j = 9) with rfl | rfl | rfl | rfl | rfl | rfl | rfl | rfl | rfl | rfl <;> rfl
theorem ap_num (s : ByteArray) (n : Nat) (w : World) (hn : n < 18446744073709551616) (hs : s.size ≤ 10000) :
    Calls Tryz.prog 212 #[.string s, .int .u64 n] w fun e w' => ∃ t : ByteArray, e = .returned (.string t) ∧ Ds.bl t = Ds.bl s ++ Wi.enc n ∧ Below w.heap.size w w' := by
  have HN := Lib.hid hn
  clear hn
  go_enter Tryz.func212, Tryz.ntmps212
  go_wp2_with fail
  go_loopw [1, 6] (fun a i wr => ∃ (k m : Nat) (f : Nat → UInt8), i = .int .i64 k ∧ a = .int .u64 m ∧ m * 128 ^ k ≤ n ∧ (0 < k → 0 < m) ∧ Wi.enc n = (List.range k).map f ++ Wi.enc m ∧ BY wr w.heap.size f ∧ w.heap.size < wr.heap.size ∧ Below w.heap.size w wr) (fun a _ _ => (intOf a).toNat)
  case atStart => exact ⟨0, n, fun _ => 0, rfl, rfl, by omega, by omega, rfl, BY.new w, by simp, by (repeat (first | exact Below.refl _ _ | assumption | (refine Below.drew ?_) | (refine Below.alloc ?_ (by simp) _) | (refine Below.setCell ?_ (by simp) _)))⟩
  case round =>
    obtain ⟨k, m, f, rfl, rfl, hle, hpos, he, hB, hlt, B⟩ := hrel
    by_cases hm : 128 ≤ m
    · have hk : k ≤ 8 := k_le8 n m k hm hle HN.out
      have cz := hB.1 k (by omega)
      have fz := hB.2 k
      have HE := Lib.hid he
      have ho := or128 m
      have HS := Lib.hid (hB.set k (by omega) (UInt8.ofNat (m % 128 + 128)))
      have e8 : (UInt8.ofNat (m % 128 + 128)).toNat = m % 128 + 128 := Wi.u8_of _ (by omega)
      have HE8 := Lib.hid e8
      clear he e8 hB
      go_wp2_with fail
      go_roundw
      case rel =>
        refine ⟨k + 1, m / 128, fun j => if j = k then UInt8.ofNat (m % 128 + 128) else f j, by go_num, by go_num, ?_, by omega, ?_, ?_, by simpa using hlt, B.setCell (by simp) _⟩
        · exact Nat.le_trans (by rw [Nat.pow_succ, Nat.mul_comm (128 ^ k), ← Nat.mul_assoc]; exact Nat.mul_le_mul_right _ (Nat.div_mul_le_self _ _)) hle
        · rw [map_range_upd, HE.out, Wi.enc_ge m hm, List.append_assoc]; rfl
        · have := HS.out
          rw [HE8.out] at this
          exact this
      case measure => simp [intOf]; omega
    · have hk : k ≤ 9 := by
        rcases Nat.eq_zero_or_pos k with rfl | h0
        · omega
        · exact k_le n m k (hpos h0) hle HN.out
      have cz := hB.1 k (by omega)
      have fz := hB.2 k
      have HE := Lib.hid he
      have hsl := fun W => sl_ten W w.heap.size k hk
      have e8 : (UInt8.ofNat m).toNat = m := Wi.u8_of _ (by omega)
      have HS := hB.set k (by omega) (UInt8.ofNat m)
      rw [e8] at HS
      have hlen : ((List.range (k + 1)).map (fun j => if j = k then UInt8.ofNat m else f j)).length = k + 1 := by simp
      have hcv := conv_bytes (wr.setCell ⟨w.heap.size, k, none⟩ (.int .u8 m)) w.heap.size 10 ((List.range (k + 1)).map (fun j => if j = k then UInt8.ofNat m else f j)) (fun j hj => by
        have hj' : j < 10 := by rw [hlen] at hj; omega
        rw [HS.1 j hj']; simp)
      rw [hlen, map_range_upd] at hcv
      have HL := Lib.hid (show Wi.enc n = (List.range k).map f ++ [UInt8.ofNat m] by rw [HE.out, Wi.enc_lt m (by omega)])
      have hl2 : ((List.range k).map f ++ [UInt8.ofNat m]).length ≤ 10 := by simp; omega
      generalize (List.range k).map f ++ [UInt8.ofNat m] = L at hcv HL hl2
      clear he hlen e8 HS hB
      go_wp2_with fail
      go_ret
      exact ⟨_, rfl, by simp [Ds.bl, HL.out], B.setCell (by simp) _⟩
end Go.Proofs.YteeenpimaepieaaGreatDoor

end
section
/- Contracts of package wire: decode. -/
namespace Go.Proofs.YteeenpimaepieaaGreatDoor
open Go.RowKit
set_option maxHeartbeats 800000
set_option maxRecDepth 4000
theorem hor_any (a b k : Nat) (ha : a < 2 ^ (7 * k)) (hb : b < 256) (h : b % 128 * 2 ^ (7 * k) + a < 2 ^ 64) :
    bits .or .u64 (a : Int) (IntKind.u64.wrap (IntKind.u64.wrap (bits .and .u8 (b : Int) 127) * 2 ^ (7 * k))) = ((a + b % 128 * 2 ^ (7 * k) : Nat) : Int) := by
  have e : (2 : Nat) ^ 64 = 18446744073709551616 := by decide
  rw [e] at h
  have h1 : bits .and .u8 (b : Int) 127 = ((b % 128 : Nat) : Int) := by
    have := bits_mask .u8 8 (by decide) wraps_u8 7 (by decide) (b : Int) (by omega) (by show (b : Int) < 256; omega)
    refine this.trans ?_
    simp
  have h2 : IntKind.u64.wrap ((b % 128 : Nat) : Int) = ((b % 128 : Nat) : Int) := IntWalk.u64_in _ ⟨by omega, by omega⟩
  have h3 : ((b % 128 : Nat) : Int) * 2 ^ (7 * k) = ((b % 128 * 2 ^ (7 * k) : Nat) : Int) := by push_cast; rfl
  have h4 : IntKind.u64.wrap ((b % 128 * 2 ^ (7 * k) : Nat) : Int) = ((b % 128 * 2 ^ (7 * k) : Nat) : Int) := IntWalk.u64_in _ ⟨by omega, by omega⟩
  rw [h1, h2, h3, h4, bits_or_u64_nat _ _ (by omega) (by omega), Wi.or_add _ _ _ ha]
theorem fit8 (a b k : Nat) (hk : k ≤ 8) (ha : a < 2 ^ (7 * k)) : b % 128 * 2 ^ (7 * k) + a < 2 ^ (7 * (k + 1)) ∧ b % 128 * 2 ^ (7 * k) + a < 2 ^ 64 := by
  have hp : 2 ^ (7 * (k + 1)) = 128 * 2 ^ (7 * k) := by rw [show 7 * (k + 1) = 7 + 7 * k by omega, Nat.pow_add]
  have h1 : b % 128 ≤ 127 := by omega
  have h2 := Nat.mul_le_mul_right (2 ^ (7 * k)) h1
  have h3 : b % 128 * 2 ^ (7 * k) + a < 2 ^ (7 * (k + 1)) := by rw [hp]; omega
  exact ⟨h3, Nat.lt_of_lt_of_le h3 (Nat.pow_le_pow_right (by decide) (by omega))⟩
theorem fit9 (a b : Nat) (hb : b ≤ 1) (ha : a < 2 ^ (7 * 9)) : b % 128 * 2 ^ (7 * 9) + a < 2 ^ 64 := by
  have h1 : b % 128 ≤ 1 := by omega
  have h2 := Nat.mul_le_mul_right (2 ^ (7 * 9)) h1
  have e : (2 : Nat) ^ 64 = 2 ^ (7 * 9) + 2 ^ (7 * 9) := by decide
  omega
theorem wi_decode (s : ByteArray) (w : World) (hs : s.size ≤ 10000) :
    Calls Tryz.prog 276 #[.string s] w fun e w' => e = .returned (.tuple #[.int .u64 (Wi.dec 0 0 (Ds.bl s)).1, .int .i64 (Wi.dec 0 0 (Ds.bl s)).2]) ∧ w = w' := by
  have HL := Lib.hid (Ds.bl_length s)
  go_enter Tryz.func276, Tryz.ntmps276
  go_wp2_with fail
  go_loopw [4, 5, 6] (fun n i _ wr => ∃ k a : Nat, k ≤ s.size ∧ k ≤ 10 ∧ i = .int .i64 k ∧ n = .int .u64 a ∧ (k ≤ 9 → a < 2 ^ (7 * k)) ∧ Wi.dec 0 0 (Ds.bl s) = Wi.dec k a ((Ds.bl s).drop k) ∧ w = wr) (fun _ i _ _ => 10 - (intOf i).toNat)
  case atStart => exact ⟨0, 0, by omega, by omega, rfl, rfl, by intro _; decide, rfl, rfl⟩
  case round =>
    obtain ⟨k, a, hk, hk10, rfl, rfl, ha, hd, rfl⟩ := hrel
    have HA := Lib.hid ha
    have HD := Lib.hid hd
    clear ha hd
    by_cases h10 : k < 10
    · by_cases hlt : k < s.size
      · have hdr : (Ds.bl s).drop k = s[k] :: (Ds.bl s).drop (k + 1) := by
          rw [List.drop_eq_getElem_cons (by rw [HL.out]; exact hlt), Ds.bl_get s k hlt]
        have hr := HD.out.trans (by rw [hdr])
        rw [Wi.dec, if_neg (by omega)] at hr
        have hb := s[k].toNat_lt
        have ha := HA.out (by omega)
        clear hdr
        rcases (by omega : k ≤ 8 ∨ k = 9) with hk8 | rfl
        · obtain ⟨f1, f2⟩ := fit8 a s[k].toNat k hk8 ha
          have hor := hor_any a s[k].toNat k ha (by omega) f2
          have F1 := Lib.hid (show a + s[k].toNat % 128 * 2 ^ (7 * k) < 2 ^ (7 * (k + 1)) by rw [Nat.add_comm]; exact f1)
          have e9 : ((k : Int) == 9) = false := by simp; omega
          rw [if_neg (by omega)] at hr
          clear ha f1 f2
          by_cases h128 : s[k].toNat < 128
          · rw [if_pos h128] at hr
            by_cases h0 : s[k].toNat = 0 ∧ 0 < k
            · rw [if_pos h0] at hr
              have HR := Lib.hid hr
              have e0 : ((s[k].toNat : Int) == 0) = true := by simp [h0.1]
              have k0 := h0.2
              clear hr h0
              go_wp2_with fail
              go_ret2
              exact ⟨by rw [HR.out]; rfl, rfl⟩
            · rw [if_neg h0] at hr
              have HR := Lib.hid hr
              clear hr
              rcases (by omega : s[k].toNat ≠ 0 ∨ k = 0) with hz | rfl
              · have e0 : ((s[k].toNat : Int) == 0) = false := by simpa using hz
                clear h0 hz
                go_wp2_with fail
                go_ret2
                exact ⟨by rw [HR.out]; rfl, rfl⟩
              · clear h0
                have hor' : bits .or .u64 (a : Int) (IntKind.u64.wrap (IntKind.u64.wrap (bits .and .u8 (s[0].toNat : Int) 127))) = ((a + s[0].toNat % 128 * 2 ^ (7 * 0) : Nat) : Int) := by have := hor; rw [show 7 * 0 = 0 from rfl, Int.pow_zero, Int.mul_one] at this; exact this
                have HV := Lib.hid (show ((a : Int) + (s[0].toNat : Int) % 128) = ((a + s[0].toNat % 128 * 2 ^ (7 * 0) : Nat) : Int) by simp)
                by_cases hz : s[0].toNat = 0
                · have e0 : ((s[0].toNat : Int) == 0) = true := by simp [hz]
                  clear hz
                  go_wp2_with fail
                  go_ret2
                  exact ⟨by rw [HR.out]; exact congrArg (fun x => Ending.returned (.tuple #[.int .u64 x, .int .i64 1])) HV.out, rfl⟩
                · have e0 : ((s[0].toNat : Int) == 0) = false := by simpa using hz
                  clear hz
                  go_wp2_with fail
                  go_ret2
                  exact ⟨by rw [HR.out]; exact congrArg (fun x => Ending.returned (.tuple #[.int .u64 x, .int .i64 1])) HV.out, rfl⟩
          · rw [if_neg h128] at hr
            have HR := Lib.hid hr
            have e0 : ((s[k].toNat : Int) == 0) = false := by simp; omega
            clear hr
            go_wp2_with fail
            go_roundw
            case rel => exact ⟨k + 1, _, by omega, by omega, by go_num, rfl, fun _ => F1.out, HR.out, trivial⟩
            case measure => simp [intOf]; omega
        · by_cases h1 : 1 < s[9].toNat
          · rw [if_pos ⟨rfl, h1⟩] at hr
            have HR := Lib.hid hr
            have e1 : decide ((1 : Int) < (s[9].toNat : Int)) = true := by simp; omega
            clear hr ha
            go_wp2_with fail
            go_ret2
            exact ⟨by rw [HR.out]; rfl, rfl⟩
          · rw [if_neg (by omega), if_pos (by omega)] at hr
            have hor := hor_any a s[9].toNat 9 ha (by omega) (fit9 a s[9].toNat (by omega) ha)
            have e1 : decide ((1 : Int) < (s[9].toNat : Int)) = false := by simp; omega
            rw [show ((2 : Int) ^ (7 * 9)) = 9223372036854775808 by decide] at hor
            have HOR := Lib.hid hor
            clear ha hor
            by_cases h0 : s[9].toNat = 0
            · rw [if_pos ⟨h0, by omega⟩] at hr
              have HR := Lib.hid hr
              have e0 : ((s[9].toNat : Int) == 0) = true := by simp [h0]
              clear hr h0
              go_wp2_with fail
              go_ret2
              exact ⟨by rw [HR.out]; rfl, rfl⟩
            · rw [if_neg (by omega)] at hr
              have HR := Lib.hid hr
              have e0 : ((s[9].toNat : Int) == 0) = false := by simpa using h0
              clear hr h0
              go_wp2_with fail
              go_ret2
              exact ⟨by rw [HR.out]; exact congrArg (fun x => Ending.returned (.tuple #[.int .u64 x, .int .i64 10])) HOR.out, rfl⟩
      · have hr := HD.out.trans (by rw [List.drop_eq_nil_of_le (by rw [HL.out]; omega), Wi.dec])
        have HR := Lib.hid hr
        clear hr
        go_wp2_with fail
        go_ret2
        exact ⟨by rw [HR.out]; rfl, rfl⟩
    · have hk0 : k = 10 := by omega
      subst hk0
      have hr := HD.out.trans (by rcases hx : (Ds.bl s).drop 10 with _ | ⟨b, r⟩ <;> rw [Wi.dec] <;> first | rfl | rw [if_pos (by omega)])
      have HR := Lib.hid hr
      clear hr
      go_wp2_with fail
      all_goals (go_ret2; exact ⟨by rw [HR.out]; rfl, rfl⟩)
end Go.Proofs.YteeenpimaepieaaGreatDoor

end
section
/- Contracts of package wire: AppendBool, AppendText, NewReader. -/
namespace Go.Proofs.YteeenpimaepieaaGreatDoor
open Go.RowKit
set_option maxHeartbeats 800000
set_option maxRecDepth 4000
theorem ap_true (s : ByteArray) (w : World) (hs : s.size ≤ 10000) :
    Calls Tryz.prog 226 #[.string s, .bool true] w fun e w' => ∃ t : ByteArray, e = .returned (.string t) ∧ Ds.bl t = Ds.bl s ++ [1] ∧ w = w' := by
  go_enter Tryz.func226, Tryz.ntmps226
  go_wp2_with fail
  go_ret
  exact ⟨_, rfl, by simp [Ds.bl], rfl⟩
theorem ap_false (s : ByteArray) (w : World) (hs : s.size ≤ 10000) :
    Calls Tryz.prog 226 #[.string s, .bool false] w fun e w' => ∃ t : ByteArray, e = .returned (.string t) ∧ Ds.bl t = Ds.bl s ++ [0] ∧ w = w' := by
  go_enter Tryz.func226, Tryz.ntmps226
  go_wp2_with fail
  go_ret
  exact ⟨_, rfl, by simp [Ds.bl], rfl⟩
theorem ap_text (s t : ByteArray) (w : World) (hs : s.size ≤ 10000) (ht : t.size ≤ 10000) :
    Calls Tryz.prog 127 #[.string s, .string t] w fun e w' => ∃ u : ByteArray, e = .returned (.string u) ∧ Ds.bl u = Ds.bl s ++ (Wi.enc t.size ++ Ds.bl t) ∧ Below w.heap.size w w' := by
  have hu : IntKind.u64.wrap (t.size : Int) = (t.size : Int) := IntWalk.u64_in _ ⟨by omega, by omega⟩
  have hn := fun W => ap_num s t.size W (by omega) hs
  have hl := fun u : ByteArray => Ds.bl_length u
  have hE := Wi.enc_len 1 t.size (by omega)
  have HE := Lib.hid hE
  have HL := Lib.hid hl
  clear hE hl
  go_enter Tryz.func127, Tryz.ntmps127
  go_wp2_with fail
  (with_reducible refine (hn _).mono ?_)
  rintro _ w' ⟨u, rfl, hu', B⟩
  have hsz : u.size ≤ 10010 := by have := congrArg List.length hu'; rw [List.length_append, HL.out, HL.out] at this; have := HE.out; omega
  have HU := Lib.hid hu'
  clear hu'
  go_wp2_with fail
  go_ret
  exact ⟨_, rfl, by have := HU.out; simp only [Ds.bl] at this ⊢; simp [this], B⟩
/-- a reader: what is left, and its error -/
def RD (w : World) (rb : Nat) (s : ByteArray) (e : Nat) : Prop :=
  w.cell? ⟨rb, 0, none⟩ = some (.string s) ∧ w.cell? ⟨rb, 1, none⟩ = some (.int .i64 e) ∧ ∀ o, w.frozen? ⟨rb, o, none⟩ = false
theorem grown_setCell (w : World) (a : Addr) (u : Value) : w.grownBy (w.setCell a u) (some a.block) :=
  ⟨rfl, rfl, rfl, by simp, fun k _ h => heap_setCell_other w a k u (fun e => h (by rw [e]))⟩
theorem new_reader (s : ByteArray) (w : World) :
    Calls Tryz.prog 92 #[.string s] w fun e w' => e = .returned (.pointer (some ⟨w.heap.size, 0, none⟩)) ∧ w' = w.alloc (.cells #[.string s, .int .i64 0] 205) := by
  go_enter Tryz.func92, Tryz.ntmps92
  go_wp2_with fail
  go_ret
  exact ⟨rfl, rfl⟩
theorem RD.new (s : ByteArray) (w : World) : RD (w.alloc (.cells #[.string s, .int .i64 0] 205)) w.heap.size s 0 := by
  refine ⟨?_, ?_, fun o => by simp⟩ <;> simp [go_sem]
theorem rd_fail0 (rb : Nat) (s : ByteArray) (e : Nat) (w : World) (h : RD w rb s 0) :
    Calls Tryz.prog 215 #[.pointer (some ⟨rb, 0, none⟩), .int .i64 e] w fun r w' => r = .returned (.tuple #[]) ∧ RD w' rb ⟨#[]⟩ e ∧ w.grownBy w' (some rb) := by
  obtain ⟨c0, c1, hf⟩ := h
  have f0 := hf 0
  have f1 := hf 1
  go_enter Tryz.func215, Tryz.ntmps215
  go_wp2_with fail
  go_end0
  exact ⟨rfl, ⟨by simp [go_sem, c0], by simp [go_sem, c1], fun o => by have := hf o; simpa using this⟩, (grown_setCell w ⟨rb, 1, none⟩ _).trans (grown_setCell _ ⟨rb, 0, none⟩ _)⟩
theorem rd_fail1 (rb : Nat) (s : ByteArray) (x e : Nat) (hx : x ≠ 0) (w : World) (h : RD w rb s x) :
    Calls Tryz.prog 215 #[.pointer (some ⟨rb, 0, none⟩), .int .i64 e] w fun r w' => r = .returned (.tuple #[]) ∧ w = w' := by
  obtain ⟨c0, c1, hf⟩ := h
  have e0 : ((x : Int) == 0) = false := by simpa using hx
  clear hx
  go_enter Tryz.func215, Tryz.ntmps215
  go_wp2_with fail
  go_end0
  exact ⟨rfl, rfl⟩
/-- Number's closure: the call writes the value into the cell of n -/
theorem rd_num1 (nb : Nat) (v : Value) (s : ByteArray) (w : World) (hs : s.size ≤ 10000) (hn : w.cell? ⟨nb, 0, none⟩ = some v) (hf : w.frozen? ⟨nb, 0, none⟩ = false) :
    Calls Tryz.prog 275 #[.string s, .pointer (some ⟨nb, 0, none⟩)] w fun e w' => e = .returned (.int .i64 (Wi.dec 0 0 (Ds.bl s)).2) ∧ w' = w.setCell ⟨nb, 0, none⟩ (.int .u64 (Wi.dec 0 0 (Ds.bl s)).1) := by
  have hd := fun W => wi_decode s W hs
  generalize Wi.dec 0 0 (Ds.bl s) = d at hd ⊢
  go_enter Tryz.func275, Tryz.ntmps275
  go_wp2_with ((with_reducible refine (hd _).mono ?_); rintro e w' ⟨rfl, rfl⟩)
  go_ret
  exact ⟨rfl, rfl⟩
end Go.Proofs.YteeenpimaepieaaGreatDoor

end
