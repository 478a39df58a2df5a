/- Contracts: strconv.Itoa in this seat's words; the reference's Digits. -/
import Derived.Test.YtlkfhlgngkgflaaGreatDoorChecked
import Derived.Test.YtlkfhlgngkgflaaGreatDoorShelf
import Derived.Test.YtlkfhlgngkgflaaGreatDoorCal
import Derived.Test.YtlkfhlgngkgflaaGreatDoorKit
import Derived.Lib.SmallJoins
namespace Go.Proofs.YtlkfhlgngkgflaaGreatDoor
open Go.RowKit
set_option maxHeartbeats 400000
set_option maxRecDepth 8000

/-- the table of powers of ten is as its text lays it -/
def Tab (w : World) : Prop := Lib.TabIs Tryz.prog w "internal/strconv.uint64pow10" .u64 Lib.pow10Tab
theorem gTab : Tryz.prog.globalNamed "internal/strconv.uint64pow10" = some 3 := by kernel_rfl
theorem Tab.below {w w' : World} (h : Tab w) (hb : Below w.heap.size w w') : Tab w' := Joins.tab_stays gTab h hb (Nat.le_refl _)
theorem below_grow (w : World) (k : Nat) (os : Array Obj) : Below w.heap.size w (Sort.grow (w.drewN k) os) := by
  refine ⟨rfl, rfl, rfl, ?_, ?_⟩
  · simp [Sort.grow, World.drewN]
  · intro i hi
    simp [Sort.grow, World.drewN, Array.getElem?_append, hi]

theorem itoa (n : Int) (w : World) (h0 : -9223372036854775808 ≤ n) (h1 : n ≤ 9223372036854775807) (hT : Tab w) :
    Calls Tryz.prog 129 #[.int .i64 n] w fun e w' => e = .returned (.string ⟨(Lib.itoa n).toArray⟩) ∧ Below w.heap.size w w' :=
  (Tryz.strconv_Itoa n h0 h1 w hT).mono fun _ _ ⟨he, k, os, hw⟩ => ⟨he, hw ▸ below_grow w k os⟩

theorem conv1 (v : Int) (h0 : 0 ≤ v) (h1 : v ≤ 255) (w : World) :
    (convert 129 9 (.slice (some ⟨w.heap.size, 0, none⟩) 1 1)).run Tryz.prog (w.alloc (.cells #[.int .u8 v] 5)) = .ok (.string ⟨#[UInt8.ofNat v.toNat]⟩) (w.alloc (.cells #[.int .u8 v] 5)) := by
  refine run_convert_bytes_back (P := Tryz.prog) (w.alloc (.cells #[.int .u8 v] 5)) 129 9 5 ⟨w.heap.size, 0, none⟩ 1 [UInt8.ofNat v.toNat] Tryz.underlying129 Tryz.underlying5 Tryz.underlying9 ?_
  intro j hj
  obtain rfl : j = 0 := by simpa using hj
  simp [Addr.add]
  omega

theorem itoa_ld (J n : Nat) (h0 : 10 ^ J ≤ n) (h1 : n < 10 ^ (J + 1)) : Lib.itoa n = Cal.ld n (J + 1) := by
  rw [Lib.itoa_nonneg]
  induction J generalizing n with
  | zero =>
    have h1' : n < 10 := by simpa using h1
    rw [Lib.decDigits, dif_pos h1']
    simp [Cal.ld, Nat.mod_eq_of_lt h1']
  | succ J ih =>
    have hp : 1 ≤ 10 ^ J := Nat.one_le_pow _ _ (by decide)
    rw [Nat.pow_succ] at h0 h1
    rw [Lib.decDigits, dif_neg (by omega), ih (n / 10) (by omega) (by rw [Nat.pow_succ] at h1 ⊢; omega), Cal.ld_snoc n (J + 1)]
theorem itoa_d (J n : Nat) (w : World) (h0 : 10 ^ J ≤ n) (h1 : n < 10 ^ (J + 1)) (hJ : J ≤ 17) (hT : Tab w) :
    Calls Tryz.prog 129 #[.int .i64 n] w fun e w' => e = .returned (.string ⟨(Cal.ld n (J + 1)).toArray⟩) ∧ Below w.heap.size w w' := by
  have : 10 ^ (J + 1) ≤ 10 ^ 18 := Nat.pow_le_pow_right (by omega) (by omega)
  have h := itoa n w (by omega) (by omega) hT
  rwa [itoa_ld J n h0 h1] at h
end Go.Proofs.YtlkfhlgngkgflaaGreatDoor
