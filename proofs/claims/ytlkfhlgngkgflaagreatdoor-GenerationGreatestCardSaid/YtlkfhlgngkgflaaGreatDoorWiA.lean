/- Contracts of package wire: AppendNumber, AppendBool, AppendText. -/
import Derived.Test.YtlkfhlgngkgflaaGreatDoorChecked
import Derived.Test.YtlkfhlgngkgflaaGreatDoorKit4
import Derived.Test.YtlkfhlgngkgflaaGreatDoorDs
import Derived.Test.YtlkfhlgngkgflaaGreatDoorWi
import Derived.WalkLawsBesides
import Derived.Laws.BitsLemmas
import Derived.Lib.SmallJoins
import Derived.IntWalk
namespace Go.Proofs.YtlkfhlgngkgflaaGreatDoor
open Go.RowKit
set_option maxHeartbeats 800000
set_option maxRecDepth 4000
/-- a block of ten bytes -/
def BY (w : World) (g : Nat) (f : Nat → UInt8) : Prop := (∀ j, j < 10 → w.cell? ⟨g, j, none⟩ = some (.int .u8 (f j).toNat)) ∧ (∀ o, w.frozen? ⟨g, o, none⟩ = false)
theorem sl_ten (W : World) (g k : Nat) (hk : k ≤ 9) :
    (Instr.sliceAt 127 (.pointer (some ⟨g, 0, none⟩)) none (some (.int .i64 ((k : Int) + 1))) none).run Tryz.prog W = .ok (.slice (some ⟨g, 0, none⟩) (k + 1) 10) W := by
  have e : Tryz.prog.arrayLen 127 = 10 := by kernel_rfl
  have z : Tryz.prog.elem 127 = 5 := by kernel_rfl
  have ht : Tryz.prog.underlying 127 = some (.array (Tryz.prog.arrayLen 127) (Tryz.prog.elem 127)) := by kernel_rfl
  rw [run_sliceAt_array_h W 127 ⟨g, 0, none⟩ ht .i64 _ (by omega) (by rw [e]; omega), e, z]
  simp [Tryz.sizeOf5, slicedAt, Addr.add]
theorem or128 (m : Nat) : bits .or .u8 ((m : Int) % 256) 128 = ((m % 128 + 128 : Nat) : Int) := by
  have h := (bits_nat .u8 8 (by decide) wraps_u8 (m % 256) 128 (by omega) (by decide)).2
  have e : ((m : Int) % 256) = ((m % 256 : Nat) : Int) := by simp
  rw [e]
  refine h.trans ?_
  have key : ∀ x : Fin 256, x.val ||| 128 = x.val % 128 + 128 := by decide
  have := key ⟨m % 256, Nat.mod_lt _ (by decide)⟩
  simp only at this
  rw [this]
  congr 2
  omega
theorem conv_bytes (W : World) (g cap : Nat) (l : List UInt8) (h : ∀ j (hj : j < l.length), W.cell? ⟨g, j, none⟩ = some (.int .u8 (l[j].toNat : Int))) :
    (convert 129 9 (.slice (some ⟨g, 0, none⟩) l.length cap)).run Tryz.prog W = .ok (.string ⟨l.toArray⟩) W :=
  run_convert_bytes_back W 129 9 5 ⟨g, 0, none⟩ cap l Tryz.underlying129 Tryz.underlying5 Tryz.underlying9 (fun j hj => by
    have := h j hj
    rcases j with _ | j <;> simpa [Addr.add] using this)
theorem BY.set {w : World} {g : Nat} {f : Nat → UInt8} (h : BY w g f) (k : Nat) (hk : k < 10) (c : UInt8) : BY (w.setCell ⟨g, k, none⟩ (.int .u8 c.toNat)) g (fun j => if j = k then c else f j) := by
  refine ⟨fun j hj => ?_, fun o => by have := h.2 o; simpa using this⟩
  have h1 := h.1 j hj
  have h0 := h.1 k hk
  by_cases e : j = k
  · subst e; simp [go_sem, h0]
  · show _ = some (Value.int .u8 ((if j = k then c else f j : UInt8).toNat : Int))
    rw [if_neg e, ← h1]
    have e' : k ≠ j := fun h => e h.symm
    have e'' : (k == j) = false := by simpa using e'
    simp [go_sem]
theorem map_range_upd (f : Nat → UInt8) (k : Nat) (c : UInt8) : (List.range (k + 1)).map (fun j => if j = k then c else f j) = (List.range k).map f ++ [c] := by
  rw [List.range_succ, List.map_append]
  congr 1
  · apply List.map_congr_left
    intro j hj
    have : j < k := by simpa using hj
    rw [if_neg (by omega)]
  · simp
theorem k_le (n m k : Nat) (hm : 1 ≤ m) (h : m * 128 ^ k ≤ n) (hn : n < 18446744073709551616) : k ≤ 9 := by
  rcases Nat.lt_or_ge 9 k with h9 | h9
  · have h1 : 128 ^ 10 ≤ 128 ^ k := Nat.pow_le_pow_right (by decide) h9
    have h2 : 1 * 128 ^ k ≤ m * 128 ^ k := Nat.mul_le_mul_right _ hm
    have h3 : (128 : Nat) ^ 10 = 1180591620717411303424 := by decide
    omega
  · exact h9
theorem k_le8 (n m k : Nat) (hm : 128 ≤ m) (h : m * 128 ^ k ≤ n) (hn : n < 18446744073709551616) : k ≤ 8 := by
  have := k_le n (m / 128) (k + 1) (by omega) (Nat.le_trans (by rw [Nat.pow_succ, Nat.mul_comm (128 ^ k), ← Nat.mul_assoc]; exact Nat.mul_le_mul_right _ (Nat.div_mul_le_self _ _)) h) hn
  omega
theorem BY.new (w : World) : BY (w.alloc (.cells #[.int .u8 0, .int .u8 0, .int .u8 0, .int .u8 0, .int .u8 0, .int .u8 0, .int .u8 0, .int .u8 0, .int .u8 0, .int .u8 0] 127)) w.heap.size (fun _ => 0) := by
  refine ⟨fun j hj => ?_, fun o => by simp⟩
  rw [cell_of_row _ w.heap.size _ _ 127 (0, 0) (heap_alloc_new w _)]
  rcases (by omega : j = 0 ∨ j = 1 ∨ j = 2 ∨ j = 3 ∨ j = 4 ∨ j = 5 ∨ j = 6 ∨ j = 7 ∨ j = 8 ∨ j = 9) with rfl | rfl | rfl | rfl | rfl | rfl | rfl | rfl | rfl | rfl <;> rfl
theorem ap_num (s : ByteArray) (n : Nat) (w : World) (hn : n < 18446744073709551616) (hs : s.size ≤ 10000) :
    Calls Tryz.prog 102 #[.string s, .int .u64 n] w fun e w' => ∃ t : ByteArray, e = .returned (.string t) ∧ Ds.bl t = Ds.bl s ++ Wi.enc n ∧ Below w.heap.size w w' := by
  have HN := Lib.hid hn
  clear hn
  go_enter Tryz.func102, Tryz.ntmps102
  go_wp2_with fail
  go_loopw [1, 6] (fun a i wr => ∃ (k m : Nat) (f : Nat → UInt8), i = .int .i64 k ∧ a = .int .u64 m ∧ m * 128 ^ k ≤ n ∧ (0 < k → 0 < m) ∧ Wi.enc n = (List.range k).map f ++ Wi.enc m ∧ BY wr w.heap.size f ∧ w.heap.size < wr.heap.size ∧ Below w.heap.size w wr) (fun a _ _ => (intOf a).toNat)
  case atStart => exact ⟨0, n, fun _ => 0, rfl, rfl, by omega, by omega, rfl, BY.new w, by simp, by (repeat (first | exact Below.refl _ _ | assumption | (refine Below.drew ?_) | (refine Below.alloc ?_ (by simp) _) | (refine Below.setCell ?_ (by simp) _)))⟩
  case round =>
    obtain ⟨k, m, f, rfl, rfl, hle, hpos, he, hB, hlt, B⟩ := hrel
    by_cases hm : 128 ≤ m
    · have hk : k ≤ 8 := k_le8 n m k hm hle HN.out
      have cz := hB.1 k (by omega)
      have fz := hB.2 k
      have HE := Lib.hid he
      have ho := or128 m
      have HS := Lib.hid (hB.set k (by omega) (UInt8.ofNat (m % 128 + 128)))
      have e8 : (UInt8.ofNat (m % 128 + 128)).toNat = m % 128 + 128 := Wi.u8_of _ (by omega)
      have HE8 := Lib.hid e8
      clear he e8 hB
      go_wp2_with fail
      go_roundw
      case rel =>
        refine ⟨k + 1, m / 128, fun j => if j = k then UInt8.ofNat (m % 128 + 128) else f j, by go_num, by go_num, ?_, by omega, ?_, ?_, by simpa using hlt, B.setCell (by simp) _⟩
        · exact Nat.le_trans (by rw [Nat.pow_succ, Nat.mul_comm (128 ^ k), ← Nat.mul_assoc]; exact Nat.mul_le_mul_right _ (Nat.div_mul_le_self _ _)) hle
        · rw [map_range_upd, HE.out, Wi.enc_ge m hm, List.append_assoc]; rfl
        · have := HS.out
          rw [HE8.out] at this
          exact this
      case measure => simp [intOf]; omega
    · have hk : k ≤ 9 := by
        rcases Nat.eq_zero_or_pos k with rfl | h0
        · omega
        · exact k_le n m k (hpos h0) hle HN.out
      have cz := hB.1 k (by omega)
      have fz := hB.2 k
      have HE := Lib.hid he
      have hsl := fun W => sl_ten W w.heap.size k hk
      have e8 : (UInt8.ofNat m).toNat = m := Wi.u8_of _ (by omega)
      have HS := hB.set k (by omega) (UInt8.ofNat m)
      rw [e8] at HS
      have hlen : ((List.range (k + 1)).map (fun j => if j = k then UInt8.ofNat m else f j)).length = k + 1 := by simp
      have hcv := conv_bytes (wr.setCell ⟨w.heap.size, k, none⟩ (.int .u8 m)) w.heap.size 10 ((List.range (k + 1)).map (fun j => if j = k then UInt8.ofNat m else f j)) (fun j hj => by
        have hj' : j < 10 := by rw [hlen] at hj; omega
        rw [HS.1 j hj']; simp)
      rw [hlen, map_range_upd] at hcv
      have HL := Lib.hid (show Wi.enc n = (List.range k).map f ++ [UInt8.ofNat m] by rw [HE.out, Wi.enc_lt m (by omega)])
      have hl2 : ((List.range k).map f ++ [UInt8.ofNat m]).length ≤ 10 := by simp; omega
      generalize (List.range k).map f ++ [UInt8.ofNat m] = L at hcv HL hl2
      clear he hlen e8 HS hB
      go_wp2_with fail
      go_ret
      exact ⟨_, rfl, by simp [Ds.bl, HL.out], B.setCell (by simp) _⟩
end Go.Proofs.YtlkfhlgngkgflaaGreatDoor
