/- Contracts of package wire: Bool, Count, Text, End, whatever they read. -/
import Derived.Test.YtlkfhlgngkgflaaGreatDoorRdA
namespace Go.Proofs.YtlkfhlgngkgflaaGreatDoor
open Go.RowKit
set_option maxHeartbeats 800000
set_option maxRecDepth 4000
theorem isEmpty_of (s : ByteArray) (h0 : 0 < s.size) : s.toList.isEmpty = false := by
  have h := Ds.bl_length s
  rw [Lib.toList_data]
  rcases hl : s.data.toList with _ | ⟨c, r⟩
  · rw [show Ds.bl s = s.data.toList from rfl, hl] at h
    simp at h; omega
  · rfl
theorem isEmpty_nil (s : ByteArray) (h0 : s.size = 0) : s.toList.isEmpty = true := by
  have h := Ds.bl_length s
  rw [Lib.toList_data]
  rcases hl : s.data.toList with _ | ⟨c, r⟩
  · rfl
  · rw [show Ds.bl s = s.data.toList from rfl, hl] at h
    simp at h; omega
/-- Bool's closure at a byte 0 or 1 -/
theorem rd_bool1 (nb : Nat) (v : Value) (s : ByteArray) (y : Bool) (w : World) (h0 : 0 < s.size) (hy : s[0].toNat = y.toNat) (hn : w.cell? ⟨nb, 0, none⟩ = some v) (hf : w.frozen? ⟨nb, 0, none⟩ = false) :
    Calls Tryz.prog 117 #[.string s, .pointer (some ⟨nb, 0, none⟩)] w fun e w' => e = .returned (.int .i64 1) ∧ w' = w.setCell ⟨nb, 0, none⟩ (.bool y) := by
  have e1 : decide ((1 : Int) < (s[0].toNat : Int)) = false := by cases y <;> simp [hy]
  have e2 : ((s[0].toNat : Int) == 1) = y := by cases y <;> simp [hy]
  have e3 : s.toList.isEmpty = false := isEmpty_of s h0
  clear hy
  go_enter Tryz.func117, Tryz.ntmps117
  go_wp2_with fail
  go_ret
  exact ⟨rfl, rfl⟩
theorem rd_bool0 (nb : Nat) (s : ByteArray) (w : World) (hy : s.size = 0 ∨ ∃ h0 : 0 < s.size, 1 < s[0].toNat) :
    Calls Tryz.prog 117 #[.string s, .pointer (some ⟨nb, 0, none⟩)] w fun e w' => e = .returned (.int .i64 0) ∧ w = w' := by
  rcases hy with h0 | ⟨h0, hy⟩
  · have e3 : s.toList.isEmpty = true := isEmpty_nil s h0
    clear h0
    go_enter Tryz.func117, Tryz.ntmps117
    go_wp2_with fail
    go_ret
    exact ⟨rfl, rfl⟩
  · have e3 : s.toList.isEmpty = false := isEmpty_of s h0
    have e1 : decide ((1 : Int) < (s[0].toNat : Int)) = true := by simp; omega
    go_enter Tryz.func117, Tryz.ntmps117
    go_wp2_with fail
    go_ret
    exact ⟨rfl, rfl⟩
theorem rd_take_bool (rb nb : Nat) (s : ByteArray) (y : Bool) (v : Value) (w : World) (h0 : 0 < s.size) (hy : s[0].toNat = y.toNat) (hR : RD w rb s 0) (hne : nb ≠ rb) (hn : w.cell? ⟨nb, 0, none⟩ = some v) (hf : w.frozen? ⟨nb, 0, none⟩ = false) :
    Calls Tryz.prog 116 #[.pointer (some ⟨rb, 0, none⟩), .func (.func 117) #[] #[.pointer (some ⟨nb, 0, none⟩)]] w fun e w' => e = .returned (.tuple #[]) ∧ w' = (w.setCell ⟨nb, 0, none⟩ (.bool y)).setCell ⟨rb, 0, none⟩ (.string (s.extract 1 s.size)) := by
  have hc := rd_bool1 nb v s y w h0 hy hn hf
  clear hy
  have hR2 := hR.other nb hne (.bool y)
  obtain ⟨c0, c1, hf⟩ := hR
  obtain ⟨d0, d1, hg⟩ := hR2
  have g0 := hg 0
  go_enter Tryz.func116, Tryz.ntmps116
  go_wp2_with ((with_reducible refine hc.mono ?_); rintro e w' ⟨rfl, rfl⟩)
  go_end0
  exact ⟨rfl, rfl⟩
theorem rd_take_bool0 (rb nb : Nat) (s : ByteArray) (w : World) (hy : s.size = 0 ∨ ∃ h0 : 0 < s.size, 1 < s[0].toNat) (hR : RD w rb s 0) :
    Calls Tryz.prog 116 #[.pointer (some ⟨rb, 0, none⟩), .func (.func 117) #[] #[.pointer (some ⟨nb, 0, none⟩)]] w fun e w' => e = .returned (.tuple #[]) ∧ RD w' rb ⟨#[]⟩ 11 ∧ w.grownBy w' (some rb) := by
  have hc := rd_bool0 nb s w hy
  clear hy
  have hfl := rd_fail0 rb s 11 _ hR
  rw [show ((11 : Nat) : Int) = 11 from rfl] at hfl
  obtain ⟨c0, c1, hf⟩ := hR
  go_enter Tryz.func116, Tryz.ntmps116
  go_wp2_with (first | ((with_reducible refine hc.mono ?_); rintro e w' ⟨rfl, rfl⟩) | ((with_reducible refine hfl.mono ?_); rintro e w' ⟨rfl, hR', hG⟩))
  exact bodyPost_ret (results_none rfl _ _ _) rfl ⟨rfl, hR', hG⟩
theorem rd_bool (rb : Nat) (s : List UInt8 × Nat) (w : World) (hs : s.1.length ≤ 10000) (hb : rb < w.heap.size) (hR : RL w rb s) :
    Calls Tryz.prog 92 #[.pointer (some ⟨rb, 0, none⟩)] w fun e w' => e = .returned (.bool (Rd.boo s).1) ∧ RL w' rb (Rd.boo s).2 ∧ w.grownBy w' (some rb) := by
  obtain ⟨b, hbl, hR⟩ := hR
  have hR1 : RD (w.alloc (.cells #[.bool false] 4)) rb b s.2 := hR.grown (World.grownBy_alloc _ _ _) hb
  obtain ⟨l, er⟩ := s
  simp only at hbl hR hR1 hs
  by_cases h0 : er = 0
  · subst h0
    by_cases hy : b.size = 0 ∨ ∃ h0 : 0 < b.size, 1 < b[0].toNat
    · have hn : Rd.boo (l, 0) = (false, ([], 11)) := by
        unfold Rd.boo; rw [if_pos rfl]
        rcases hy with hy | ⟨h0, hy⟩
        · rw [← Ds.bl_length, hbl] at hy
          obtain rfl : l = [] := List.eq_nil_of_length_eq_zero hy
          rfl
        · rw [Ds.bl_get b 0 h0] at hy
          rcases l with _ | ⟨c, r⟩
          · exact absurd h0 (by rw [← Ds.bl_length, hbl]; simp)
          · simp only [hbl, List.getElem_cons_zero] at hy
            simp only; rw [if_pos hy]
      rw [hn]
      have hc := rd_take_bool0 rb w.heap.size b (w.alloc (.cells #[.bool false] 4)) hy hR1
      have hcl : ∀ w', (w.alloc (.cells #[.bool false] 4)).grownBy w' (some rb) → w'.cell? ⟨w.heap.size, 0, none⟩ = some (.bool false) := fun w' hG => by
        rw [World.cell?_of_block (a := ⟨w.heap.size, 0, none⟩) (hG.block w.heap.size (by simp) (by simp; omega))]; simp [go_sem]
      have HC := Lib.hid hcl
      clear hcl hy hn hR1
      go_enter Tryz.func92, Tryz.ntmps92
      go_wp2_with ((with_reducible refine hc.mono ?_); rintro e w' ⟨rfl, hR', hG⟩; have hcell := HC.out w' hG; have HG := Lib.hid hG; clear hG)
      go_ret
      exact ⟨rfl, ⟨_, rfl, hR'⟩, (World.grownBy_alloc _ _ _).trans HG.out⟩
    · have h0 : 0 < b.size := by
        rcases Nat.eq_zero_or_pos b.size with h | h
        · exact absurd (.inl h) hy
        · exact h
      have h1 : b[0].toNat ≤ 1 := by
        rcases Nat.lt_or_ge 1 b[0].toNat with h | h
        · exact absurd (.inr ⟨h0, h⟩) hy
        · exact h
      have hyy : b[0].toNat = (decide (b[0].toNat = 1)).toNat := by
        rcases (by omega : b[0].toNat = 0 ∨ b[0].toNat = 1) with h | h <;> rw [h] <;> rfl
      have hn : Rd.boo (l, 0) = (decide (b[0].toNat = 1), (l.drop 1, 0)) := by
        unfold Rd.boo; rw [if_pos rfl]
        rcases l with _ | ⟨c, r⟩
        · exact absurd h0 (by rw [← Ds.bl_length, hbl]; simp)
        · have e : b[0] = c := by rw [Ds.bl_get b 0 h0]; simp only [hbl, List.getElem_cons_zero]
          simp only; rw [if_neg (by rw [← e]; omega), e]; rfl
      rw [hn]
      generalize decide (b[0].toNat = 1) = y at hyy ⊢
      have hc := rd_take_bool rb w.heap.size b y (.bool false) (w.alloc (.cells #[.bool false] 4)) h0 hyy hR1 (by omega) (by simp [go_sem]) (by simp)
      have hR2 := hR1.other w.heap.size (by omega) (.bool y)
      have d0 := hR2.1
      have HBL := Lib.hid hbl
      clear hy h1 hyy hn hR1 hR2 hbl
      go_enter Tryz.func92, Tryz.ntmps92
      go_wp2_with ((with_reducible refine hc.mono ?_); rintro e w' ⟨rfl, rfl⟩)
      go_ret
      exact ⟨rfl, ⟨_, by rw [bl_drop, HBL.out], (hR.take _).grown (World.grownBy_alloc _ _ _) (by simpa using hb)⟩, (grown_setCell w ⟨rb, 0, none⟩ _).trans (World.grownBy_alloc _ _ _)⟩
  · have hn : Rd.boo (l, er) = (false, (l, er)) := by unfold Rd.boo; rw [if_neg h0]
    rw [hn]
    have hc := rd_take_err rb er (.func (.func 117) #[] #[.pointer (some ⟨w.heap.size, 0, none⟩)]) b (w.alloc (.cells #[.bool false] 4)) h0 hR1
    have HB := Lib.hid hR
    have HBL := Lib.hid hbl
    clear h0 hR1 hR hbl hn
    go_enter Tryz.func92, Tryz.ntmps92
    go_wp2_with ((with_reducible refine hc.mono ?_); rintro e w' ⟨rfl, rfl⟩)
    go_ret
    exact ⟨rfl, ⟨b, HBL.out, HB.out.grown (World.grownBy_alloc _ _ _) hb⟩, World.grownBy_alloc _ _ _⟩
end Go.Proofs.YtlkfhlgngkgflaaGreatDoor
