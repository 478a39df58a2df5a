/- Contracts of package wire: the reader, whatever it reads. -/
import Derived.Test.YtlkfhlgngkgflaaGreatDoorWiC
import Derived.Test.YtlkfhlgngkgflaaGreatDoorRd
namespace Go.Proofs.YtlkfhlgngkgflaaGreatDoor
open Go.RowKit
set_option maxHeartbeats 800000
set_option maxRecDepth 4000
theorem RD.other {w : World} {rb : Nat} {s : ByteArray} {e : Nat} (h : RD w rb s e) (nb : Nat) (hne : nb ≠ rb) (v : Value) : RD (w.setCell ⟨nb, 0, none⟩ v) rb s e := by
  obtain ⟨c0, c1, hf⟩ := h
  refine ⟨?_, ?_, fun o => ?_⟩
  · rw [World.cell?_setCell_other _ _ _ _ (by intro h; cases h; exact hne rfl)]; exact c0
  · rw [World.cell?_setCell_other _ _ _ _ (by intro h; cases h)]; exact c1
  · have := hf o; simpa using this
theorem RD.grown {w w' : World} {rb : Nat} {s : ByteArray} {e : Nat} (h : RD w rb s e) (g : w.grownBy w' none) (hb : rb < w.heap.size) : RD w' rb s e := by
  have k := g.block rb hb (by simp)
  exact ⟨(World.cell?_of_block (a := ⟨rb, 0, none⟩) k).trans h.1, (World.cell?_of_block (a := ⟨rb, 1, none⟩) k).trans h.2.1, fun o => (World.frozen?_of_block (a := ⟨rb, o, none⟩) k).trans (h.2.2 o)⟩
theorem RD.take {w : World} {rb : Nat} {s : ByteArray} {e : Nat} (h : RD w rb s e) (t : ByteArray) : RD (w.setCell ⟨rb, 0, none⟩ (.string t)) rb t e := by
  obtain ⟨c0, c1, hf⟩ := h
  exact ⟨by simp [go_sem, c0], by simp [go_sem, c1], fun o => by have := hf o; simpa using this⟩
theorem rd_fail8 (rb : Nat) (s : ByteArray) (w : World) (h : RD w rb s 0) :
    Calls Tryz.prog 119 #[.pointer (some ⟨rb, 0, none⟩), .int .i64 8] w fun r w' => r = .returned (.tuple #[]) ∧ RD w' rb ⟨#[]⟩ 8 ∧ w.grownBy w' (some rb) := rd_fail0 rb s 8 w h
theorem rd_fail11 (rb : Nat) (s : ByteArray) (w : World) (h : RD w rb s 0) :
    Calls Tryz.prog 119 #[.pointer (some ⟨rb, 0, none⟩), .int .i64 11] w fun r w' => r = .returned (.tuple #[]) ∧ RD w' rb ⟨#[]⟩ 11 ∧ w.grownBy w' (some rb) := rd_fail0 rb s 11 w h
theorem rd_take_err (rb x : Nat) (f : Value) (s : ByteArray) (w : World) (hx : x ≠ 0) (hR : RD w rb s x) :
    Calls Tryz.prog 116 #[.pointer (some ⟨rb, 0, none⟩), f] w fun e w' => e = .returned (.tuple #[]) ∧ w = w' := by
  obtain ⟨c0, c1, hf⟩ := hR
  have e0 : ((x : Int) == 0) = false := by simpa using hx
  have e1 : ((x : Int) != 0) = true := by simpa using hx
  clear hx
  go_enter Tryz.func116, Tryz.ntmps116
  go_wp2_with fail
  exact bodyPost_ret (results_none rfl _ _ _) rfl ⟨rfl, rfl⟩
theorem rd_take_num0 (rb nb x : Nat) (s : ByteArray) (v : Value) (w : World) (hs : s.size ≤ 10000) (hd : Wi.dec 0 0 (Ds.bl s) = (x, 0)) (hR : RD w rb s 0) (hne : nb ≠ rb) (hn : w.cell? ⟨nb, 0, none⟩ = some v) (hf : w.frozen? ⟨nb, 0, none⟩ = false) :
    Calls Tryz.prog 116 #[.pointer (some ⟨rb, 0, none⟩), .func (.func 122) #[] #[.pointer (some ⟨nb, 0, none⟩)]] w fun e w' => e = .returned (.tuple #[]) ∧ RD w' rb ⟨#[]⟩ 11 ∧ (w.setCell ⟨nb, 0, none⟩ (.int .u64 x)).grownBy w' (some rb) := by
  have hc := rd_num1 nb v s w hs hn hf
  rw [hd] at hc
  clear hd
  have hR2 := hR.other nb hne (.int .u64 (x : Int))
  have hfl := rd_fail0 rb s 11 _ hR2
  rw [show ((11 : Nat) : Int) = 11 from rfl] at hfl
  obtain ⟨c0, c1, hf⟩ := hR
  clear hR2
  go_enter Tryz.func116, Tryz.ntmps116
  go_wp2_with (first | ((with_reducible refine hc.mono ?_); rintro e w' ⟨rfl, rfl⟩) | ((with_reducible refine hfl.mono ?_); rintro e w' ⟨rfl, hR', hG⟩))
  exact bodyPost_ret (results_none rfl _ _ _) rfl ⟨rfl, hR', hG⟩
theorem rd_take_num (rb nb k x : Nat) (s : ByteArray) (v : Value) (w : World) (hs : s.size ≤ 10000) (hd : Wi.dec 0 0 (Ds.bl s) = (x, k + 1)) (hk : k + 1 ≤ s.size) (hR : RD w rb s 0) (hne : nb ≠ rb) (hn : w.cell? ⟨nb, 0, none⟩ = some v) (hf : w.frozen? ⟨nb, 0, none⟩ = false) :
    Calls Tryz.prog 116 #[.pointer (some ⟨rb, 0, none⟩), .func (.func 122) #[] #[.pointer (some ⟨nb, 0, none⟩)]] w fun e w' => e = .returned (.tuple #[]) ∧ w' = (w.setCell ⟨nb, 0, none⟩ (.int .u64 x)).setCell ⟨rb, 0, none⟩ (.string (s.extract (k + 1) s.size)) := by
  have hc := rd_num1 nb v s w hs hn hf
  rw [hd] at hc
  clear hd
  have hR2 := hR.other nb hne (.int .u64 (x : Int))
  obtain ⟨c0, c1, hf⟩ := hR
  obtain ⟨d0, d1, hg⟩ := hR2
  have g0 := hg 0
  go_enter Tryz.func116, Tryz.ntmps116
  go_wp2_with ((with_reducible refine hc.mono ?_); rintro e w' ⟨rfl, rfl⟩)
  go_end0
  exact ⟨rfl, rfl⟩
/-- a reader's state -/
def RL (w : World) (rb : Nat) (s : List UInt8 × Nat) : Prop := ∃ b : ByteArray, Ds.bl b = s.1 ∧ RD w rb b s.2
theorem RL.grown {w w' : World} {rb : Nat} {s : List UInt8 × Nat} (h : RL w rb s) (g : w.grownBy w' none) (hb : rb < w.heap.size) : RL w' rb s := by
  obtain ⟨b, h1, h2⟩ := h; exact ⟨b, h1, h2.grown g hb⟩
theorem RL.below {w w' : World} {rb B : Nat} {s : List UInt8 × Nat} (h : RL w rb s) (g : Below B w w') (hb : rb < B) : RL w' rb s := by
  obtain ⟨b, h1, h2⟩ := h
  exact ⟨b, h1, (g.cell (p := ⟨rb, 0, none⟩) hb).trans h2.1, (g.cell (p := ⟨rb, 1, none⟩) hb).trans h2.2.1, fun o => (g.frozen (p := ⟨rb, o, none⟩) hb).trans (h2.2.2 o)⟩
theorem bl_drop (b : ByteArray) (k : Nat) : Ds.bl (b.extract k b.size) = (Ds.bl b).drop k := by
  unfold Ds.bl; rw [ByteArray.data_extract, Array.toList_extract, List.extract_eq_take_drop]
  exact List.take_of_length_le (by rw [List.length_drop, Array.length_toList]; exact Nat.le_refl _)
theorem bl_take (b : ByteArray) (k : Nat) : Ds.bl (b.extract 0 k) = (Ds.bl b).take k := by
  unfold Ds.bl; rw [ByteArray.data_extract, Array.toList_extract, List.extract_eq_take_drop, List.drop_zero, Nat.sub_zero]
theorem rd_number (rb : Nat) (s : List UInt8 × Nat) (w : World) (hs : s.1.length ≤ 10000) (hb : rb < w.heap.size) (hR : RL w rb s) :
    Calls Tryz.prog 103 #[.pointer (some ⟨rb, 0, none⟩)] w fun e w' => e = .returned (.int .u64 (Rd.num s).1) ∧ RL w' rb (Rd.num s).2 ∧ w.grownBy w' (some rb) := by
  obtain ⟨b, hbl, hR⟩ := hR
  have hsz : b.size ≤ 10000 := by rw [← Ds.bl_length, hbl]; exact hs
  have hR1 : RD (w.alloc (.cells #[.int .u64 0] 113)) rb b s.2 := hR.grown (World.grownBy_alloc _ _ _) hb
  by_cases h0 : s.2 = 0
  · rw [h0] at hR hR1
    rcases hd : Wi.dec 0 0 s.1 with ⟨x, k⟩
    cases k with
    | zero =>
      have hn : Rd.num s = (x, ([], 11)) := by rw [Rd.num_none s h0 (by rw [hd]), hd]
      rw [hn]
      have hc := rd_take_num0 rb w.heap.size x b (.int .u64 0) (w.alloc (.cells #[.int .u64 0] 113)) hsz (by rw [hbl]; exact hd) hR1 (by omega) (by simp [go_sem]) (by simp)
      clear hd hn hR1 h0
      go_enter Tryz.func103, Tryz.ntmps103
      have hcl : ∀ w', ((w.alloc (.cells #[.int .u64 0] 113)).setCell ⟨w.heap.size, 0, none⟩ (.int .u64 x)).grownBy w' (some rb) → w'.cell? ⟨w.heap.size, 0, none⟩ = some (.int .u64 x) := fun w' hG => by
        rw [World.cell?_of_block (a := ⟨w.heap.size, 0, none⟩) (hG.block w.heap.size (by simp) (by simp; omega))]; simp [go_sem]
      have HC := Lib.hid hcl
      clear hcl
      go_wp2_with ((with_reducible refine hc.mono ?_); rintro e w' ⟨rfl, hR', hG⟩; have hcell := HC.out w' hG; have HG := Lib.hid hG; clear hG)
      go_ret
      refine ⟨rfl, ⟨_, rfl, hR'⟩, ?_⟩
      have hG := HG.out
      have e : (w.alloc (.cells #[.int .u64 0] 113)).setCell ⟨w.heap.size, 0, none⟩ (.int .u64 x) = w.alloc (.cells #[.int .u64 x] 113) := by simp [go_sem]
      rw [e] at hG
      exact (World.grownBy_alloc _ _ _).trans hG
    | succ k =>
      have hkl : k + 1 ≤ b.size := by
        have := (Wi.dec_le s.1 0 0).1
        rw [hd] at this
        rw [← Ds.bl_length, hbl]; omega
      have hn : Rd.num s = (x, (s.1.drop (k + 1), 0)) := by rw [Rd.num_some s h0 (by rw [hd]; simp), hd]
      rw [hn]
      have hc := rd_take_num rb w.heap.size k x b (.int .u64 0) (w.alloc (.cells #[.int .u64 0] 113)) hsz (by rw [hbl]; exact hd) hkl hR1 (by omega) (by simp [go_sem]) (by simp)
      have hR2 := hR1.other w.heap.size (by omega) (.int .u64 (x : Int))
      have HB := Lib.hid hR2
      have d0 := hR2.1
      have HBL := Lib.hid hbl
      clear hd hR1 hR2 hn h0 hbl
      go_enter Tryz.func103, Tryz.ntmps103
      go_wp2_with ((with_reducible refine hc.mono ?_); rintro e w' ⟨rfl, rfl⟩)
      go_ret
      exact ⟨rfl, ⟨_, by rw [bl_drop, HBL.out], (hR.take _).grown (World.grownBy_alloc _ _ _) (by simpa using hb)⟩, (grown_setCell w ⟨rb, 0, none⟩ _).trans (World.grownBy_alloc _ _ _)⟩
  · rw [Rd.num_bad s h0]
    have hc := rd_take_err rb s.2 (.func (.func 122) #[] #[.pointer (some ⟨w.heap.size, 0, none⟩)]) b (w.alloc (.cells #[.int .u64 0] 113)) h0 hR1
    have HB := Lib.hid hR
    have HBL := Lib.hid hbl
    clear h0 hR1 hR hbl
    go_enter Tryz.func103, Tryz.ntmps103
    go_wp2_with ((with_reducible refine hc.mono ?_); rintro e w' ⟨rfl, rfl⟩)
    go_ret
    exact ⟨rfl, ⟨b, HBL.out, HB.out.grown (World.grownBy_alloc _ _ _) hb⟩, World.grownBy_alloc _ _ _⟩
end Go.Proofs.YtlkfhlgngkgflaaGreatDoor
