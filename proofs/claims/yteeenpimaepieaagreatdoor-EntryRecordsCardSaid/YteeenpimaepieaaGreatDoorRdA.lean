/- Several texts in one: RdA RdB RdC. -/
import Derived.Test.YteeenpimaepieaaGreatDoorWiA
import Derived.Test.YteeenpimaepieaaGreatDoorRd
section
/- Contracts of package wire: the reader, whatever it reads. -/
namespace Go.Proofs.YteeenpimaepieaaGreatDoor
open Go.RowKit
set_option maxHeartbeats 800000
set_option maxRecDepth 4000
theorem RD.other {w : World} {rb : Nat} {s : ByteArray} {e : Nat} (h : RD w rb s e) (nb : Nat) (hne : nb ≠ rb) (v : Value) : RD (w.setCell ⟨nb, 0, none⟩ v) rb s e := by
  obtain ⟨c0, c1, hf⟩ := h
  refine ⟨?_, ?_, fun o => ?_⟩
  · rw [World.cell?_setCell_other _ _ _ _ (by intro h; cases h; exact hne rfl)]; exact c0
  · rw [World.cell?_setCell_other _ _ _ _ (by intro h; cases h)]; exact c1
  · have := hf o; simpa using this
theorem RD.grown {w w' : World} {rb : Nat} {s : ByteArray} {e : Nat} (h : RD w rb s e) (g : w.grownBy w' none) (hb : rb < w.heap.size) : RD w' rb s e := by
  have k := g.block rb hb (by simp)
  exact ⟨(World.cell?_of_block (a := ⟨rb, 0, none⟩) k).trans h.1, (World.cell?_of_block (a := ⟨rb, 1, none⟩) k).trans h.2.1, fun o => (World.frozen?_of_block (a := ⟨rb, o, none⟩) k).trans (h.2.2 o)⟩
theorem RD.take {w : World} {rb : Nat} {s : ByteArray} {e : Nat} (h : RD w rb s e) (t : ByteArray) : RD (w.setCell ⟨rb, 0, none⟩ (.string t)) rb t e := by
  obtain ⟨c0, c1, hf⟩ := h
  exact ⟨by simp [go_sem, c0], by simp [go_sem, c1], fun o => by have := hf o; simpa using this⟩
theorem rd_fail8 (rb : Nat) (s : ByteArray) (w : World) (h : RD w rb s 0) :
    Calls Tryz.prog 215 #[.pointer (some ⟨rb, 0, none⟩), .int .i64 8] w fun r w' => r = .returned (.tuple #[]) ∧ RD w' rb ⟨#[]⟩ 8 ∧ w.grownBy w' (some rb) := rd_fail0 rb s 8 w h
theorem rd_fail11 (rb : Nat) (s : ByteArray) (w : World) (h : RD w rb s 0) :
    Calls Tryz.prog 215 #[.pointer (some ⟨rb, 0, none⟩), .int .i64 11] w fun r w' => r = .returned (.tuple #[]) ∧ RD w' rb ⟨#[]⟩ 11 ∧ w.grownBy w' (some rb) := rd_fail0 rb s 11 w h
theorem rd_take_err (rb x : Nat) (f : Value) (s : ByteArray) (w : World) (hx : x ≠ 0) (hR : RD w rb s x) :
    Calls Tryz.prog 272 #[.pointer (some ⟨rb, 0, none⟩), f] w fun e w' => e = .returned (.tuple #[]) ∧ w = w' := by
  obtain ⟨c0, c1, hf⟩ := hR
  have e0 : ((x : Int) == 0) = false := by simpa using hx
  have e1 : ((x : Int) != 0) = true := by simpa using hx
  clear hx
  go_enter Tryz.func272, Tryz.ntmps272
  go_wp2_with fail
  exact bodyPost_ret (results_none rfl _ _ _) rfl ⟨rfl, rfl⟩
theorem rd_take_num0 (rb nb x : Nat) (s : ByteArray) (v : Value) (w : World) (hs : s.size ≤ 10000) (hd : Wi.dec 0 0 (Ds.bl s) = (x, 0)) (hR : RD w rb s 0) (hne : nb ≠ rb) (hn : w.cell? ⟨nb, 0, none⟩ = some v) (hf : w.frozen? ⟨nb, 0, none⟩ = false) :
    Calls Tryz.prog 272 #[.pointer (some ⟨rb, 0, none⟩), .func (.func 275) #[] #[.pointer (some ⟨nb, 0, none⟩)]] w fun e w' => e = .returned (.tuple #[]) ∧ RD w' rb ⟨#[]⟩ 11 ∧ (w.setCell ⟨nb, 0, none⟩ (.int .u64 x)).grownBy w' (some rb) := by
  have hc := rd_num1 nb v s w hs hn hf
  rw [hd] at hc
  clear hd
  have hR2 := hR.other nb hne (.int .u64 (x : Int))
  have hfl := rd_fail0 rb s 11 _ hR2
  rw [show ((11 : Nat) : Int) = 11 from rfl] at hfl
  obtain ⟨c0, c1, hf⟩ := hR
  clear hR2
  go_enter Tryz.func272, Tryz.ntmps272
  go_wp2_with (first | ((with_reducible refine hc.mono ?_); rintro e w' ⟨rfl, rfl⟩) | ((with_reducible refine hfl.mono ?_); rintro e w' ⟨rfl, hR', hG⟩))
  exact bodyPost_ret (results_none rfl _ _ _) rfl ⟨rfl, hR', hG⟩
theorem rd_take_num (rb nb k x : Nat) (s : ByteArray) (v : Value) (w : World) (hs : s.size ≤ 10000) (hd : Wi.dec 0 0 (Ds.bl s) = (x, k + 1)) (hk : k + 1 ≤ s.size) (hR : RD w rb s 0) (hne : nb ≠ rb) (hn : w.cell? ⟨nb, 0, none⟩ = some v) (hf : w.frozen? ⟨nb, 0, none⟩ = false) :
    Calls Tryz.prog 272 #[.pointer (some ⟨rb, 0, none⟩), .func (.func 275) #[] #[.pointer (some ⟨nb, 0, none⟩)]] w fun e w' => e = .returned (.tuple #[]) ∧ w' = (w.setCell ⟨nb, 0, none⟩ (.int .u64 x)).setCell ⟨rb, 0, none⟩ (.string (s.extract (k + 1) s.size)) := by
  have hc := rd_num1 nb v s w hs hn hf
  rw [hd] at hc
  clear hd
  have hR2 := hR.other nb hne (.int .u64 (x : Int))
  obtain ⟨c0, c1, hf⟩ := hR
  obtain ⟨d0, d1, hg⟩ := hR2
  have g0 := hg 0
  go_enter Tryz.func272, Tryz.ntmps272
  go_wp2_with ((with_reducible refine hc.mono ?_); rintro e w' ⟨rfl, rfl⟩)
  go_end0
  exact ⟨rfl, rfl⟩
/-- a reader's state -/
def RL (w : World) (rb : Nat) (s : List UInt8 × Nat) : Prop := ∃ b : ByteArray, Ds.bl b = s.1 ∧ RD w rb b s.2
theorem RL.grown {w w' : World} {rb : Nat} {s : List UInt8 × Nat} (h : RL w rb s) (g : w.grownBy w' none) (hb : rb < w.heap.size) : RL w' rb s := by
  obtain ⟨b, h1, h2⟩ := h; exact ⟨b, h1, h2.grown g hb⟩
theorem RL.below {w w' : World} {rb B : Nat} {s : List UInt8 × Nat} (h : RL w rb s) (g : Below B w w') (hb : rb < B) : RL w' rb s := by
  obtain ⟨b, h1, h2⟩ := h
  exact ⟨b, h1, (g.cell (p := ⟨rb, 0, none⟩) hb).trans h2.1, (g.cell (p := ⟨rb, 1, none⟩) hb).trans h2.2.1, fun o => (g.frozen (p := ⟨rb, o, none⟩) hb).trans (h2.2.2 o)⟩
theorem bl_drop (b : ByteArray) (k : Nat) : Ds.bl (b.extract k b.size) = (Ds.bl b).drop k := by
  unfold Ds.bl; rw [ByteArray.data_extract, Array.toList_extract, List.extract_eq_take_drop]
  exact List.take_of_length_le (by rw [List.length_drop, Array.length_toList]; exact Nat.le_refl _)
theorem bl_take (b : ByteArray) (k : Nat) : Ds.bl (b.extract 0 k) = (Ds.bl b).take k := by
  unfold Ds.bl; rw [ByteArray.data_extract, Array.toList_extract, List.extract_eq_take_drop, List.drop_zero, Nat.sub_zero]
theorem rd_number (rb : Nat) (s : List UInt8 × Nat) (w : World) (hs : s.1.length ≤ 10000) (hb : rb < w.heap.size) (hR : RL w rb s) :
    Calls Tryz.prog 234 #[.pointer (some ⟨rb, 0, none⟩)] w fun e w' => e = .returned (.int .u64 (Rd.num s).1) ∧ RL w' rb (Rd.num s).2 ∧ w.grownBy w' (some rb) := by
  obtain ⟨b, hbl, hR⟩ := hR
  have hsz : b.size ≤ 10000 := by rw [← Ds.bl_length, hbl]; exact hs
  have hR1 : RD (w.alloc (.cells #[.int .u64 0] 235)) rb b s.2 := hR.grown (World.grownBy_alloc _ _ _) hb
  by_cases h0 : s.2 = 0
  · rw [h0] at hR hR1
    rcases hd : Wi.dec 0 0 s.1 with ⟨x, k⟩
    cases k with
    | zero =>
      have hn : Rd.num s = (x, ([], 11)) := by rw [Rd.num_none s h0 (by rw [hd]), hd]
      rw [hn]
      have hc := rd_take_num0 rb w.heap.size x b (.int .u64 0) (w.alloc (.cells #[.int .u64 0] 235)) hsz (by rw [hbl]; exact hd) hR1 (by omega) (by simp [go_sem]) (by simp)
      clear hd hn hR1 h0
      go_enter Tryz.func234, Tryz.ntmps234
      have hcl : ∀ w', ((w.alloc (.cells #[.int .u64 0] 235)).setCell ⟨w.heap.size, 0, none⟩ (.int .u64 x)).grownBy w' (some rb) → w'.cell? ⟨w.heap.size, 0, none⟩ = some (.int .u64 x) := fun w' hG => by
        rw [World.cell?_of_block (a := ⟨w.heap.size, 0, none⟩) (hG.block w.heap.size (by simp) (by simp; omega))]; simp [go_sem]
      have HC := Lib.hid hcl
      clear hcl
      go_wp2_with ((with_reducible refine hc.mono ?_); rintro e w' ⟨rfl, hR', hG⟩; have hcell := HC.out w' hG; have HG := Lib.hid hG; clear hG)
      go_ret
      refine ⟨rfl, ⟨_, rfl, hR'⟩, ?_⟩
      have hG := HG.out
      have e : (w.alloc (.cells #[.int .u64 0] 235)).setCell ⟨w.heap.size, 0, none⟩ (.int .u64 x) = w.alloc (.cells #[.int .u64 x] 235) := by simp [go_sem]
      rw [e] at hG
      exact (World.grownBy_alloc _ _ _).trans hG
    | succ k =>
      have hkl : k + 1 ≤ b.size := by
        have := (Wi.dec_le s.1 0 0).1
        rw [hd] at this
        rw [← Ds.bl_length, hbl]; omega
      have hn : Rd.num s = (x, (s.1.drop (k + 1), 0)) := by rw [Rd.num_some s h0 (by rw [hd]; simp), hd]
      rw [hn]
      have hc := rd_take_num rb w.heap.size k x b (.int .u64 0) (w.alloc (.cells #[.int .u64 0] 235)) hsz (by rw [hbl]; exact hd) hkl hR1 (by omega) (by simp [go_sem]) (by simp)
      have hR2 := hR1.other w.heap.size (by omega) (.int .u64 (x : Int))
      have HB := Lib.hid hR2
      have d0 := hR2.1
      have HBL := Lib.hid hbl
      clear hd hR1 hR2 hn h0 hbl
      go_enter Tryz.func234, Tryz.ntmps234
      go_wp2_with ((with_reducible refine hc.mono ?_); rintro e w' ⟨rfl, rfl⟩)
      go_ret
      exact ⟨rfl, ⟨_, by rw [bl_drop, HBL.out], (hR.take _).grown (World.grownBy_alloc _ _ _) (by simpa using hb)⟩, (grown_setCell w ⟨rb, 0, none⟩ _).trans (World.grownBy_alloc _ _ _)⟩
  · rw [Rd.num_bad s h0]
    have hc := rd_take_err rb s.2 (.func (.func 275) #[] #[.pointer (some ⟨w.heap.size, 0, none⟩)]) b (w.alloc (.cells #[.int .u64 0] 235)) h0 hR1
    have HB := Lib.hid hR
    have HBL := Lib.hid hbl
    clear h0 hR1 hR hbl
    go_enter Tryz.func234, Tryz.ntmps234
    go_wp2_with ((with_reducible refine hc.mono ?_); rintro e w' ⟨rfl, rfl⟩)
    go_ret
    exact ⟨rfl, ⟨b, HBL.out, HB.out.grown (World.grownBy_alloc _ _ _) hb⟩, World.grownBy_alloc _ _ _⟩
end Go.Proofs.YteeenpimaepieaaGreatDoor

end
section
/- Contracts of package wire: Bool, Count, Text, End, whatever they read. -/
namespace Go.Proofs.YteeenpimaepieaaGreatDoor
open Go.RowKit
set_option maxHeartbeats 800000
set_option maxRecDepth 4000
theorem isEmpty_of (s : ByteArray) (h0 : 0 < s.size) : s.toList.isEmpty = false := by
  have h := Ds.bl_length s
  rw [Lib.toList_data]
  rcases hl : s.data.toList with _ | ⟨c, r⟩
  · rw [show Ds.bl s = s.data.toList from rfl, hl] at h
    simp at h; omega
  · rfl
theorem isEmpty_nil (s : ByteArray) (h0 : s.size = 0) : s.toList.isEmpty = true := by
  have h := Ds.bl_length s
  rw [Lib.toList_data]
  rcases hl : s.data.toList with _ | ⟨c, r⟩
  · rfl
  · rw [show Ds.bl s = s.data.toList from rfl, hl] at h
    simp at h; omega
/-- Bool's closure at a byte 0 or 1 -/
theorem rd_bool1 (nb : Nat) (v : Value) (s : ByteArray) (y : Bool) (w : World) (h0 : 0 < s.size) (hy : s[0].toNat = y.toNat) (hn : w.cell? ⟨nb, 0, none⟩ = some v) (hf : w.frozen? ⟨nb, 0, none⟩ = false) :
    Calls Tryz.prog 273 #[.string s, .pointer (some ⟨nb, 0, none⟩)] w fun e w' => e = .returned (.int .i64 1) ∧ w' = w.setCell ⟨nb, 0, none⟩ (.bool y) := by
  have e1 : decide ((1 : Int) < (s[0].toNat : Int)) = false := by cases y <;> simp [hy]
  have e2 : ((s[0].toNat : Int) == 1) = y := by cases y <;> simp [hy]
  have e3 : s.toList.isEmpty = false := isEmpty_of s h0
  clear hy
  go_enter Tryz.func273, Tryz.ntmps273
  go_wp2_with fail
  go_ret
  exact ⟨rfl, rfl⟩
theorem rd_bool0 (nb : Nat) (s : ByteArray) (w : World) (hy : s.size = 0 ∨ ∃ h0 : 0 < s.size, 1 < s[0].toNat) :
    Calls Tryz.prog 273 #[.string s, .pointer (some ⟨nb, 0, none⟩)] w fun e w' => e = .returned (.int .i64 0) ∧ w = w' := by
  rcases hy with h0 | ⟨h0, hy⟩
  · have e3 : s.toList.isEmpty = true := isEmpty_nil s h0
    clear h0
    go_enter Tryz.func273, Tryz.ntmps273
    go_wp2_with fail
    go_ret
    exact ⟨rfl, rfl⟩
  · have e3 : s.toList.isEmpty = false := isEmpty_of s h0
    have e1 : decide ((1 : Int) < (s[0].toNat : Int)) = true := by simp; omega
    go_enter Tryz.func273, Tryz.ntmps273
    go_wp2_with fail
    go_ret
    exact ⟨rfl, rfl⟩
theorem rd_take_bool (rb nb : Nat) (s : ByteArray) (y : Bool) (v : Value) (w : World) (h0 : 0 < s.size) (hy : s[0].toNat = y.toNat) (hR : RD w rb s 0) (hne : nb ≠ rb) (hn : w.cell? ⟨nb, 0, none⟩ = some v) (hf : w.frozen? ⟨nb, 0, none⟩ = false) :
    Calls Tryz.prog 272 #[.pointer (some ⟨rb, 0, none⟩), .func (.func 273) #[] #[.pointer (some ⟨nb, 0, none⟩)]] w fun e w' => e = .returned (.tuple #[]) ∧ w' = (w.setCell ⟨nb, 0, none⟩ (.bool y)).setCell ⟨rb, 0, none⟩ (.string (s.extract 1 s.size)) := by
  have hc := rd_bool1 nb v s y w h0 hy hn hf
  clear hy
  have hR2 := hR.other nb hne (.bool y)
  obtain ⟨c0, c1, hf⟩ := hR
  obtain ⟨d0, d1, hg⟩ := hR2
  have g0 := hg 0
  go_enter Tryz.func272, Tryz.ntmps272
  go_wp2_with ((with_reducible refine hc.mono ?_); rintro e w' ⟨rfl, rfl⟩)
  go_end0
  exact ⟨rfl, rfl⟩
theorem rd_take_bool0 (rb nb : Nat) (s : ByteArray) (w : World) (hy : s.size = 0 ∨ ∃ h0 : 0 < s.size, 1 < s[0].toNat) (hR : RD w rb s 0) :
    Calls Tryz.prog 272 #[.pointer (some ⟨rb, 0, none⟩), .func (.func 273) #[] #[.pointer (some ⟨nb, 0, none⟩)]] w fun e w' => e = .returned (.tuple #[]) ∧ RD w' rb ⟨#[]⟩ 11 ∧ w.grownBy w' (some rb) := by
  have hc := rd_bool0 nb s w hy
  clear hy
  have hfl := rd_fail0 rb s 11 _ hR
  rw [show ((11 : Nat) : Int) = 11 from rfl] at hfl
  obtain ⟨c0, c1, hf⟩ := hR
  go_enter Tryz.func272, Tryz.ntmps272
  go_wp2_with (first | ((with_reducible refine hc.mono ?_); rintro e w' ⟨rfl, rfl⟩) | ((with_reducible refine hfl.mono ?_); rintro e w' ⟨rfl, hR', hG⟩))
  exact bodyPost_ret (results_none rfl _ _ _) rfl ⟨rfl, hR', hG⟩
theorem rd_bool (rb : Nat) (s : List UInt8 × Nat) (w : World) (hs : s.1.length ≤ 10000) (hb : rb < w.heap.size) (hR : RL w rb s) :
    Calls Tryz.prog 227 #[.pointer (some ⟨rb, 0, none⟩)] w fun e w' => e = .returned (.bool (Rd.boo s).1) ∧ RL w' rb (Rd.boo s).2 ∧ w.grownBy w' (some rb) := by
  obtain ⟨b, hbl, hR⟩ := hR
  have hR1 : RD (w.alloc (.cells #[.bool false] 4)) rb b s.2 := hR.grown (World.grownBy_alloc _ _ _) hb
  obtain ⟨l, er⟩ := s
  simp only at hbl hR hR1 hs
  by_cases h0 : er = 0
  · subst h0
    by_cases hy : b.size = 0 ∨ ∃ h0 : 0 < b.size, 1 < b[0].toNat
    · have hn : Rd.boo (l, 0) = (false, ([], 11)) := by
        unfold Rd.boo; rw [if_pos rfl]
        rcases hy with hy | ⟨h0, hy⟩
        · rw [← Ds.bl_length, hbl] at hy
          obtain rfl : l = [] := List.eq_nil_of_length_eq_zero hy
          rfl
        · rw [Ds.bl_get b 0 h0] at hy
          rcases l with _ | ⟨c, r⟩
          · exact absurd h0 (by rw [← Ds.bl_length, hbl]; simp)
          · simp only [hbl, List.getElem_cons_zero] at hy
            simp only; rw [if_pos hy]
      rw [hn]
      have hc := rd_take_bool0 rb w.heap.size b (w.alloc (.cells #[.bool false] 4)) hy hR1
      have hcl : ∀ w', (w.alloc (.cells #[.bool false] 4)).grownBy w' (some rb) → w'.cell? ⟨w.heap.size, 0, none⟩ = some (.bool false) := fun w' hG => by
        rw [World.cell?_of_block (a := ⟨w.heap.size, 0, none⟩) (hG.block w.heap.size (by simp) (by simp; omega))]; simp [go_sem]
      have HC := Lib.hid hcl
      clear hcl hy hn hR1
      go_enter Tryz.func227, Tryz.ntmps227
      go_wp2_with ((with_reducible refine hc.mono ?_); rintro e w' ⟨rfl, hR', hG⟩; have hcell := HC.out w' hG; have HG := Lib.hid hG; clear hG)
      go_ret
      exact ⟨rfl, ⟨_, rfl, hR'⟩, (World.grownBy_alloc _ _ _).trans HG.out⟩
    · have h0 : 0 < b.size := by
        rcases Nat.eq_zero_or_pos b.size with h | h
        · exact absurd (.inl h) hy
        · exact h
      have h1 : b[0].toNat ≤ 1 := by
        rcases Nat.lt_or_ge 1 b[0].toNat with h | h
        · exact absurd (.inr ⟨h0, h⟩) hy
        · exact h
      have hyy : b[0].toNat = (decide (b[0].toNat = 1)).toNat := by
        rcases (by omega : b[0].toNat = 0 ∨ b[0].toNat = 1) with h | h <;> rw [h] <;> rfl
      have hn : Rd.boo (l, 0) = (decide (b[0].toNat = 1), (l.drop 1, 0)) := by
        unfold Rd.boo; rw [if_pos rfl]
        rcases l with _ | ⟨c, r⟩
        · exact absurd h0 (by rw [← Ds.bl_length, hbl]; simp)
        · have e : b[0] = c := by rw [Ds.bl_get b 0 h0]; simp only [hbl, List.getElem_cons_zero]
          simp only; rw [if_neg (by rw [← e]; omega), e]; rfl
      rw [hn]
      generalize decide (b[0].toNat = 1) = y at hyy ⊢
      have hc := rd_take_bool rb w.heap.size b y (.bool false) (w.alloc (.cells #[.bool false] 4)) h0 hyy hR1 (by omega) (by simp [go_sem]) (by simp)
      have hR2 := hR1.other w.heap.size (by omega) (.bool y)
      have d0 := hR2.1
      have HBL := Lib.hid hbl
      clear hy h1 hyy hn hR1 hR2 hbl
      go_enter Tryz.func227, Tryz.ntmps227
      go_wp2_with ((with_reducible refine hc.mono ?_); rintro e w' ⟨rfl, rfl⟩)
      go_ret
      exact ⟨rfl, ⟨_, by rw [bl_drop, HBL.out], (hR.take _).grown (World.grownBy_alloc _ _ _) (by simpa using hb)⟩, (grown_setCell w ⟨rb, 0, none⟩ _).trans (World.grownBy_alloc _ _ _)⟩
  · have hn : Rd.boo (l, er) = (false, (l, er)) := by unfold Rd.boo; rw [if_neg h0]
    rw [hn]
    have hc := rd_take_err rb er (.func (.func 273) #[] #[.pointer (some ⟨w.heap.size, 0, none⟩)]) b (w.alloc (.cells #[.bool false] 4)) h0 hR1
    have HB := Lib.hid hR
    have HBL := Lib.hid hbl
    clear h0 hR1 hR hbl hn
    go_enter Tryz.func227, Tryz.ntmps227
    go_wp2_with ((with_reducible refine hc.mono ?_); rintro e w' ⟨rfl, rfl⟩)
    go_ret
    exact ⟨rfl, ⟨b, HBL.out, HB.out.grown (World.grownBy_alloc _ _ _) hb⟩, World.grownBy_alloc _ _ _⟩
end Go.Proofs.YteeenpimaepieaaGreatDoor

end
section
/- Contracts of package wire: Count, Text, End, whatever they read. -/
namespace Go.Proofs.YteeenpimaepieaaGreatDoor
open Go.RowKit
set_option maxHeartbeats 800000
set_option maxRecDepth 4000
theorem rd_count (rb m : Nat) (s : List UInt8 × Nat) (w : World) (hs : s.1.length ≤ 10000) (hb : rb < w.heap.size) (hR : RL w rb s) (hm : m ≤ 100000) :
    Calls Tryz.prog 214 #[.pointer (some ⟨rb, 0, none⟩), .int .i64 m] w fun e w' => e = .returned (.int .i64 (Rd.cnt m s).1) ∧ RL w' rb (Rd.cnt m s).2 ∧ w.grownBy w' (some rb) := by
  have hc := rd_number rb s w hs hb hR
  have hu : IntKind.u64.wrap (m : Int) = (m : Int) := IntWalk.u64_in _ ⟨by omega, by omega⟩
  have hlt := Rd.num_lt s
  by_cases h0 : (Rd.num s).2.2 = 0
  · by_cases hx : m < (Rd.num s).1
    · have hn : Rd.cnt m s = (0, ([], 8)) := by unfold Rd.cnt; rw [if_pos h0, if_pos hx]
      rw [hn]
      rcases hnum : Rd.num s with ⟨x, l, er⟩
      rw [hnum] at hc h0 hx
      simp only at h0 hx hc
      subst h0
      have e1 : decide ((m : Int) < (x : Int)) = true := by simp; omega
      clear hn hnum hlt
      go_enter Tryz.func214, Tryz.ntmps214
      go_wp2_with (first | ((with_reducible refine hc.mono ?_); rintro e w' ⟨rfl, ⟨b, hb1, hR'⟩, hG⟩; have c1 := hR'.2.1; have HG := Lib.hid hG; have HB := Lib.hid hb1; clear hG hb1) | (go_at_call 215; (with_reducible refine (rd_fail8 rb _ _ hR').mono ?_); rintro e w2 ⟨rfl, hR2, hG2⟩))
      go_ret
      exact ⟨rfl, ⟨_, rfl, hR2⟩, HG.out.trans hG2⟩
    · have hn : Rd.cnt m s = Rd.num s := by unfold Rd.cnt; rw [if_pos h0, if_neg hx]
      rw [hn]
      rcases hnum : Rd.num s with ⟨x, l, er⟩
      rw [hnum] at hc h0 hx
      simp only at h0 hx hc
      subst h0
      have hi : IntKind.i64.wrap (x : Int) = (x : Int) := IntWalk.i64_in _ ⟨by omega, by omega⟩
      have e1 : decide ((m : Int) < (x : Int)) = false := by simp; omega
      clear hn hnum hlt
      go_enter Tryz.func214, Tryz.ntmps214
      go_wp2_with ((with_reducible refine hc.mono ?_); rintro e w' ⟨rfl, ⟨b, hb1, hR'⟩, hG⟩; have c1 := hR'.2.1; have HG := Lib.hid hG; have HB := Lib.hid hb1; clear hG hb1)
      go_ret
      exact ⟨rfl, ⟨b, HB.out, hR'⟩, HG.out⟩
  · have hn : Rd.cnt m s = (0, (Rd.num s).2) := by unfold Rd.cnt; rw [if_neg h0]
    rw [hn]
    rcases hnum : Rd.num s with ⟨x, l, er⟩
    rw [hnum] at hc h0
    simp only at h0 hc
    have e1 : ((er : Int) == 0) = false := by simpa using h0
    have e2 : ((er : Int) != 0) = true := by simpa using h0
    clear hn hnum hlt h0
    go_enter Tryz.func214, Tryz.ntmps214
    go_wp2_with ((with_reducible refine hc.mono ?_); rintro e w' ⟨rfl, ⟨b, hb1, hR'⟩, hG⟩; have c1 := hR'.2.1; have HG := Lib.hid hG; have HB := Lib.hid hb1; clear hG hb1)
    go_ret
    exact ⟨rfl, ⟨b, HB.out, hR'⟩, HG.out⟩
theorem rd_text (rb m : Nat) (s : List UInt8 × Nat) (w : World) (hs : s.1.length ≤ 10000) (hb : rb < w.heap.size) (hR : RL w rb s) (hm : m ≤ 100000) :
    Calls Tryz.prog 130 #[.pointer (some ⟨rb, 0, none⟩), .int .i64 m] w fun e w' => ∃ t, e = .returned (.string t) ∧ Ds.bl t = (Rd.txt m s).1 ∧ RL w' rb (Rd.txt m s).2 ∧ w.grownBy w' (some rb) := by
  have hc := rd_count rb m s w hs hb hR hm
  have hle := Rd.cnt_len m s
  by_cases h0 : (Rd.cnt m s).2.2 = 0
  · by_cases hx : (Rd.cnt m s).2.1.length < (Rd.cnt m s).1
    · have hn : Rd.txt m s = ([], ([], 11)) := by unfold Rd.txt; rw [if_pos h0, if_pos hx]
      rw [hn]
      have hcm := Rd.cnt_le m s
      rcases hnum : Rd.cnt m s with ⟨x, l, er⟩
      rw [hnum] at hc h0 hx hle hcm
      simp only at h0 hx hc hle hcm
      subst h0
      clear hn hnum
      go_enter Tryz.func130, Tryz.ntmps130
      go_wp2_with (first | ((with_reducible refine hc.mono ?_); rintro e w' ⟨rfl, ⟨b, hb1, hR'⟩, hG⟩; have c0 := hR'.1; have c1 := hR'.2.1; have HG := Lib.hid hG; have hbs : b.size = l.length := (by rw [← Ds.bl_length, hb1]); have e1 : decide (b.size < x) = true := (by rw [decide_eq_true_eq]; omega); have HB := Lib.hid hb1; clear hG hb1 hbs) | (go_at_call 215; (with_reducible refine (rd_fail11 rb _ _ hR').mono ?_); rintro e w2 ⟨rfl, hR2, hG2⟩))
      go_ret
      exact ⟨_, rfl, rfl, ⟨_, rfl, hR2⟩, HG.out.trans hG2⟩
    · have hn : Rd.txt m s = ((Rd.cnt m s).2.1.take (Rd.cnt m s).1, ((Rd.cnt m s).2.1.drop (Rd.cnt m s).1, 0)) := by unfold Rd.txt; rw [if_pos h0, if_neg hx]
      rw [hn]
      have hcm := Rd.cnt_le m s
      rcases hnum : Rd.cnt m s with ⟨x, l, er⟩
      rw [hnum] at hc h0 hx hle hcm
      simp only at h0 hx hc hle hcm
      subst h0
      clear hn hnum
      go_enter Tryz.func130, Tryz.ntmps130
      go_wp2_with ((with_reducible refine hc.mono ?_); rintro e w' ⟨rfl, ⟨b, hb1, hR'⟩, hG⟩; have c0 := hR'.1; have c1 := hR'.2.1; have f0 := hR'.2.2 0; have HG := Lib.hid hG; have hbs : b.size = l.length := (by rw [← Ds.bl_length, hb1]); have hxb : x ≤ b.size := (by omega); have hbz : b.size ≤ 10000 := (by omega); have e1 : decide ((b.size : Int) < (x : Int)) = false := (by rw [decide_eq_false_iff_not]; omega); have HB := Lib.hid hb1; clear hG hb1 hbs)
      go_ret
      exact ⟨_, rfl, by rw [bl_take, HB.out], ⟨_, by rw [bl_drop, HB.out], hR'.take _⟩, HG.out.trans (grown_setCell _ ⟨rb, 0, none⟩ _)⟩
  · have hn : Rd.txt m s = ([], (Rd.cnt m s).2) := by unfold Rd.txt; rw [if_neg h0]
    rw [hn]
    rcases hnum : Rd.cnt m s with ⟨x, l, er⟩
    rw [hnum] at hc h0
    simp only at h0 hc
    have e1 : ((er : Int) == 0) = false := by simpa using h0
    have e2 : ((er : Int) != 0) = true := by simpa using h0
    clear hn hnum hle h0
    go_enter Tryz.func130, Tryz.ntmps130
    go_wp2_with ((with_reducible refine hc.mono ?_); rintro e w' ⟨rfl, ⟨b, hb1, hR'⟩, hG⟩; have c1 := hR'.2.1; have HG := Lib.hid hG; have HB := Lib.hid hb1; clear hG hb1)
    go_ret
    exact ⟨_, rfl, rfl, ⟨b, HB.out, hR'⟩, HG.out⟩
theorem rd_open (rb : Nat) (s : List UInt8 × Nat) (w : World) (hR : RL w rb s) :
    Calls Tryz.prog 177 #[.pointer (some ⟨rb, 0, none⟩)] w fun r w' => r = .returned (.bool (decide (s.2 = 0 ∧ s.1 ≠ []))) ∧ w = w' := by
  obtain ⟨b, hbl, c0, c1, hf⟩ := hR
  obtain ⟨l, er⟩ := s
  simp only at hbl c0 c1
  rcases Nat.eq_zero_or_pos er with rfl | he
  · rcases l with _ | ⟨x, l⟩
    · have e1 : b.toList.isEmpty = true := isEmpty_nil b (by rw [← Ds.bl_length, hbl]; rfl)
      clear hbl
      go_enter Tryz.func177, Tryz.ntmps177
      go_wp2_with fail
      go_ret
      exact ⟨rfl, rfl⟩
    · have e1 : b.toList.isEmpty = false := isEmpty_of b (by rw [← Ds.bl_length, hbl]; simp)
      clear hbl
      go_enter Tryz.func177, Tryz.ntmps177
      go_wp2_with fail
      go_ret
      exact ⟨by simp, rfl⟩
  · have e0 : ((er : Int) == 0) = false := by simp; omega
    go_enter Tryz.func177, Tryz.ntmps177
    go_wp2_with fail
    go_ret
    exact ⟨by simp; omega, rfl⟩
theorem rd_end (rb : Nat) (s : List UInt8 × Nat) (w : World) (hR : RL w rb s) :
    Calls Tryz.prog 93 #[.pointer (some ⟨rb, 0, none⟩)] w fun r w' => r = .returned (.int .i64 (Rd.fin s)) ∧ w = w' := by
  have ho := rd_open rb s w hR
  obtain ⟨b, hbl, c0, c1, hf⟩ := hR
  obtain ⟨l, er⟩ := s
  simp only at hbl c0 c1 ho
  unfold Rd.fin
  simp only
  by_cases h : er = 0 ∧ l ≠ []
  · rw [if_pos h]
    rw [decide_eq_true h] at ho
    clear h
    go_enter Tryz.func93, Tryz.ntmps93
    go_wp2_with ((with_reducible refine ho.mono ?_); rintro _ w' ⟨rfl, rfl⟩)
    go_ret
    exact ⟨rfl, rfl⟩
  · rw [if_neg h]
    rw [decide_eq_false h] at ho
    clear h
    go_enter Tryz.func93, Tryz.ntmps93
    go_wp2_with ((with_reducible refine ho.mono ?_); rintro _ w' ⟨rfl, rfl⟩)
    go_ret
    exact ⟨rfl, rfl⟩
end Go.Proofs.YteeenpimaepieaaGreatDoor

end
