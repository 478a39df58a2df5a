/- Contracts: strconv.Itoa in this seat's words; the reference's Digits. -/
import Derived.Test.YteeenpimaepieaaGreatDoorChecked
import Derived.Test.YteeenpimaepieaaGreatDoorShelf
import Derived.Test.YteeenpimaepieaaGreatDoorCal
import Derived.Test.YteeenpimaepieaaGreatDoorKit
import Derived.Lib.SmallJoins
namespace Go.Proofs.YteeenpimaepieaaGreatDoor
open Go.RowKit
set_option maxHeartbeats 400000
set_option maxRecDepth 8000

/-- the table of powers of ten is as its text lays it -/
def Tab (w : World) : Prop := Lib.TabIs Tryz.prog w "internal/strconv.uint64pow10" .u64 Lib.pow10Tab
theorem gTab : Tryz.prog.globalNamed "internal/strconv.uint64pow10" = some 1 := by kernel_rfl
theorem Tab.below {w w' : World} (h : Tab w) (hb : Below w.heap.size w w') : Tab w' := Joins.tab_stays gTab h hb (Nat.le_refl _)
theorem below_grow (w : World) (k : Nat) (os : Array Obj) : Below w.heap.size w (Sort.grow (w.drewN k) os) := by
  refine ⟨rfl, rfl, rfl, ?_, ?_⟩
  · simp [Sort.grow, World.drewN]
  · intro i hi
    simp [Sort.grow, World.drewN, Array.getElem?_append, hi]

theorem itoa (n : Int) (w : World) (h0 : -9223372036854775808 ≤ n) (h1 : n ≤ 9223372036854775807) (hT : Tab w) :
    Calls Tryz.prog 79 #[.int .i64 n] w fun e w' => e = .returned (.string ⟨(Lib.itoa n).toArray⟩) ∧ Below w.heap.size w w' :=
  (Tryz.strconv_Itoa n h0 h1 w hT).mono fun _ _ ⟨he, k, os, hw⟩ => ⟨he, hw ▸ below_grow w k os⟩

theorem conv1 (v : Int) (h0 : 0 ≤ v) (h1 : v ≤ 255) (w : World) :
    (convert 99 9 (.slice (some ⟨w.heap.size, 0, none⟩) 1 1)).run Tryz.prog (w.alloc (.cells #[.int .u8 v] 5)) = .ok (.string ⟨#[UInt8.ofNat v.toNat]⟩) (w.alloc (.cells #[.int .u8 v] 5)) := by
  refine run_convert_bytes_back (P := Tryz.prog) (w.alloc (.cells #[.int .u8 v] 5)) 99 9 5 ⟨w.heap.size, 0, none⟩ 1 [UInt8.ofNat v.toNat] Tryz.underlying99 Tryz.underlying5 Tryz.underlying9 ?_
  intro j hj
  obtain rfl : j = 0 := by simpa using hj
  simp [Addr.add]
  omega

theorem digits_any (n J : Nat) (width : Int) (w : World) (hn : n < 10 ^ J) (hw : width ≤ J) (hJ : (J : Int) = width ∨ 10 ^ (J - 1) ≤ n) (hJ' : J ≤ 18) :
    Calls Tryz.prog 244 #[.int .i64 n, .int .i64 width] w fun e w' => e = .returned (.string ⟨(Cal.ld n J).toArray⟩) ∧ Below w.heap.size w w' := by
  have hn' : n ≤ 1000000000000000000 := by
    have : 10 ^ J ≤ 10 ^ 18 := Nat.pow_le_pow_right (by omega) hJ'
    omega
  have HS := Lib.hid (Cal.ld_stop n J width hn hJ)
  have HE := Lib.hid (Cal.ld_end n J hn)
  clear hn hJ
  go_enter Tryz.func244, Tryz.ntmps244
  go_wp2
  go_loopw [0, 5] (fun a s wr => ∃ j q : Nat, j ≤ J ∧ q = n / 10 ^ j ∧ a = .int .i64 q ∧ s = .string ⟨(Cal.ld n j).toArray⟩ ∧ Below w.heap.size w wr) (fun _ s _ => J - strLen s)
  case atStart => exact ⟨0, n, by omega, by simp, rfl, rfl, Below.refl _ _⟩
  case round =>
    obtain ⟨j, q, hj, hq, rfl, rfl, hb⟩ := hrel
    have hl := Cal.ld_length n j
    have HL := Lib.hid hl
    have qb : q ≤ n := by rw [hq]; exact Nat.div_le_self _ _
    have HQ := Lib.hid hq
    clear hq
    have hll : (Cal.ld n j).length ≤ 18 := by omega
    by_cases hlt : j < J
    · have hc : 0 < q ∨ ((Cal.ld n j).length : Int) < width := by
        have := HS.out j hlt
        rw [← HQ.out] at this; omega
      clear hl
      have hcv := conv1 (48 + (q : Int) % 10) (by omega) (by omega) wr
      have hc' : 0 < (q : Int) ∨ ((Cal.ld n j).length : Int) < width := by omega
      clear hc
      by_cases h0 : 0 < (q : Int)
      · go_wp2
        go_roundw
        case rel => exact ⟨j + 1, q / 10, by omega, Cal.ld_div n j q HQ.out, by go_num, congrArg Value.string (by rw [ba_append, Cal.ld_next n j q HQ.out]), by (have hzz := (hb).size; (repeat (first | exact Below.refl _ _ | assumption | (refine Below.drew ?_) | (refine Below.alloc ?_ (by first | (simp; done) | (simp; omega) | omega) _) | (refine Below.setCell ?_ (by first | (simp; done) | (simp; omega) | omega) _))))⟩
        case measure =>
          have := HL.out
          simp [strLen, ByteArray.size]; omega
      · have hq0 := Lib.hid (show q = 0 by omega)
        obtain rfl : q = 0 := hq0.out
        have hcv := conv1 48 (by omega) (by omega) wr
        go_wp2
        go_roundw
        case rel => exact ⟨j + 1, 0, by omega, Cal.ld_div n j 0 HQ.out, by go_num, congrArg Value.string (by rw [ba_append, Cal.ld_next0 n j 0 HQ.out rfl]), by (have hzz := (hb).size; (repeat (first | exact Below.refl _ _ | assumption | (refine Below.drew ?_) | (refine Below.alloc ?_ (by first | (simp; done) | (simp; omega) | omega) _) | (refine Below.setCell ?_ (by first | (simp; done) | (simp; omega) | omega) _))))⟩
        case measure =>
          have := HL.out
          simp [strLen, ByteArray.size]; omega
    · obtain rfl : j = J := by omega
      obtain rfl : q = 0 := HQ.out.trans HE.out
      have hw' : ¬ ((Cal.ld n j).length : Int) < width := by omega
      clear hl hw
      go_wp2
      go_ret
      exact ⟨rfl, hb⟩

theorem itoa_ld (J n : Nat) (h0 : 10 ^ J ≤ n) (h1 : n < 10 ^ (J + 1)) : Lib.itoa n = Cal.ld n (J + 1) := by
  rw [Lib.itoa_nonneg]
  induction J generalizing n with
  | zero =>
    have h1' : n < 10 := by simpa using h1
    rw [Lib.decDigits, dif_pos h1']
    simp [Cal.ld, Nat.mod_eq_of_lt h1']
  | succ J ih =>
    have hp : 1 ≤ 10 ^ J := Nat.one_le_pow _ _ (by decide)
    rw [Nat.pow_succ] at h0 h1
    rw [Lib.decDigits, dif_neg (by omega), ih (n / 10) (by omega) (by rw [Nat.pow_succ] at h1 ⊢; omega), Cal.ld_snoc n (J + 1)]
theorem itoa_d (J n : Nat) (w : World) (h0 : 10 ^ J ≤ n) (h1 : n < 10 ^ (J + 1)) (hJ : J ≤ 17) (hT : Tab w) :
    Calls Tryz.prog 79 #[.int .i64 n] w fun e w' => e = .returned (.string ⟨(Cal.ld n (J + 1)).toArray⟩) ∧ Below w.heap.size w w' := by
  have : 10 ^ (J + 1) ≤ 10 ^ 18 := Nat.pow_le_pow_right (by omega) (by omega)
  have h := itoa n w (by omega) (by omega) hT
  rwa [itoa_ld J n h0 h1] at h
end Go.Proofs.YteeenpimaepieaaGreatDoor
