/- Contracts of package wire: Count, Text, End, whatever they read. -/
import Derived.Test.YtlkfhlgngkgflaaGreatDoorRdB
namespace Go.Proofs.YtlkfhlgngkgflaaGreatDoor
open Go.RowKit
set_option maxHeartbeats 800000
set_option maxRecDepth 4000
theorem rd_count (rb m : Nat) (s : List UInt8 × Nat) (w : World) (hs : s.1.length ≤ 10000) (hb : rb < w.heap.size) (hR : RL w rb s) (hm : m ≤ 100000) :
    Calls Tryz.prog 118 #[.pointer (some ⟨rb, 0, none⟩), .int .i64 m] w fun e w' => e = .returned (.int .i64 (Rd.cnt m s).1) ∧ RL w' rb (Rd.cnt m s).2 ∧ w.grownBy w' (some rb) := by
  have hc := rd_number rb s w hs hb hR
  have hu : IntKind.u64.wrap (m : Int) = (m : Int) := IntWalk.u64_in _ ⟨by omega, by omega⟩
  have hlt := Rd.num_lt s
  by_cases h0 : (Rd.num s).2.2 = 0
  · by_cases hx : m < (Rd.num s).1
    · have hn : Rd.cnt m s = (0, ([], 8)) := by unfold Rd.cnt; rw [if_pos h0, if_pos hx]
      rw [hn]
      rcases hnum : Rd.num s with ⟨x, l, er⟩
      rw [hnum] at hc h0 hx
      simp only at h0 hx hc
      subst h0
      have e1 : decide ((m : Int) < (x : Int)) = true := by simp; omega
      clear hn hnum hlt
      go_enter Tryz.func118, Tryz.ntmps118
      go_wp2_with (first | ((with_reducible refine hc.mono ?_); rintro e w' ⟨rfl, ⟨b, hb1, hR'⟩, hG⟩; have c1 := hR'.2.1; have HG := Lib.hid hG; have HB := Lib.hid hb1; clear hG hb1) | (go_at_call 119; (with_reducible refine (rd_fail8 rb _ _ hR').mono ?_); rintro e w2 ⟨rfl, hR2, hG2⟩))
      go_ret
      exact ⟨rfl, ⟨_, rfl, hR2⟩, HG.out.trans hG2⟩
    · have hn : Rd.cnt m s = Rd.num s := by unfold Rd.cnt; rw [if_pos h0, if_neg hx]
      rw [hn]
      rcases hnum : Rd.num s with ⟨x, l, er⟩
      rw [hnum] at hc h0 hx
      simp only at h0 hx hc
      subst h0
      have hi : IntKind.i64.wrap (x : Int) = (x : Int) := IntWalk.i64_in _ ⟨by omega, by omega⟩
      have e1 : decide ((m : Int) < (x : Int)) = false := by simp; omega
      clear hn hnum hlt
      go_enter Tryz.func118, Tryz.ntmps118
      go_wp2_with ((with_reducible refine hc.mono ?_); rintro e w' ⟨rfl, ⟨b, hb1, hR'⟩, hG⟩; have c1 := hR'.2.1; have HG := Lib.hid hG; have HB := Lib.hid hb1; clear hG hb1)
      go_ret
      exact ⟨rfl, ⟨b, HB.out, hR'⟩, HG.out⟩
  · have hn : Rd.cnt m s = (0, (Rd.num s).2) := by unfold Rd.cnt; rw [if_neg h0]
    rw [hn]
    rcases hnum : Rd.num s with ⟨x, l, er⟩
    rw [hnum] at hc h0
    simp only at h0 hc
    have e1 : ((er : Int) == 0) = false := by simpa using h0
    have e2 : ((er : Int) != 0) = true := by simpa using h0
    clear hn hnum hlt h0
    go_enter Tryz.func118, Tryz.ntmps118
    go_wp2_with ((with_reducible refine hc.mono ?_); rintro e w' ⟨rfl, ⟨b, hb1, hR'⟩, hG⟩; have c1 := hR'.2.1; have HG := Lib.hid hG; have HB := Lib.hid hb1; clear hG hb1)
    go_ret
    exact ⟨rfl, ⟨b, HB.out, hR'⟩, HG.out⟩
theorem rd_text (rb m : Nat) (s : List UInt8 × Nat) (w : World) (hs : s.1.length ≤ 10000) (hb : rb < w.heap.size) (hR : RL w rb s) (hm : m ≤ 100000) :
    Calls Tryz.prog 94 #[.pointer (some ⟨rb, 0, none⟩), .int .i64 m] w fun e w' => ∃ t, e = .returned (.string t) ∧ Ds.bl t = (Rd.txt m s).1 ∧ RL w' rb (Rd.txt m s).2 ∧ w.grownBy w' (some rb) := by
  have hc := rd_count rb m s w hs hb hR hm
  have hle := Rd.cnt_len m s
  by_cases h0 : (Rd.cnt m s).2.2 = 0
  · by_cases hx : (Rd.cnt m s).2.1.length < (Rd.cnt m s).1
    · have hn : Rd.txt m s = ([], ([], 11)) := by unfold Rd.txt; rw [if_pos h0, if_pos hx]
      rw [hn]
      have hcm := Rd.cnt_le m s
      rcases hnum : Rd.cnt m s with ⟨x, l, er⟩
      rw [hnum] at hc h0 hx hle hcm
      simp only at h0 hx hc hle hcm
      subst h0
      clear hn hnum
      go_enter Tryz.func94, Tryz.ntmps94
      go_wp2_with (first | ((with_reducible refine hc.mono ?_); rintro e w' ⟨rfl, ⟨b, hb1, hR'⟩, hG⟩; have c0 := hR'.1; have c1 := hR'.2.1; have HG := Lib.hid hG; have hbs : b.size = l.length := (by rw [← Ds.bl_length, hb1]); have e1 : decide (b.size < x) = true := (by rw [decide_eq_true_eq]; omega); have HB := Lib.hid hb1; clear hG hb1 hbs) | (go_at_call 119; (with_reducible refine (rd_fail11 rb _ _ hR').mono ?_); rintro e w2 ⟨rfl, hR2, hG2⟩))
      go_ret
      exact ⟨_, rfl, rfl, ⟨_, rfl, hR2⟩, HG.out.trans hG2⟩
    · have hn : Rd.txt m s = ((Rd.cnt m s).2.1.take (Rd.cnt m s).1, ((Rd.cnt m s).2.1.drop (Rd.cnt m s).1, 0)) := by unfold Rd.txt; rw [if_pos h0, if_neg hx]
      rw [hn]
      have hcm := Rd.cnt_le m s
      rcases hnum : Rd.cnt m s with ⟨x, l, er⟩
      rw [hnum] at hc h0 hx hle hcm
      simp only at h0 hx hc hle hcm
      subst h0
      clear hn hnum
      go_enter Tryz.func94, Tryz.ntmps94
      go_wp2_with ((with_reducible refine hc.mono ?_); rintro e w' ⟨rfl, ⟨b, hb1, hR'⟩, hG⟩; have c0 := hR'.1; have c1 := hR'.2.1; have f0 := hR'.2.2 0; have HG := Lib.hid hG; have hbs : b.size = l.length := (by rw [← Ds.bl_length, hb1]); have hxb : x ≤ b.size := (by omega); have hbz : b.size ≤ 10000 := (by omega); have e1 : decide ((b.size : Int) < (x : Int)) = false := (by rw [decide_eq_false_iff_not]; omega); have HB := Lib.hid hb1; clear hG hb1 hbs)
      go_ret
      exact ⟨_, rfl, by rw [bl_take, HB.out], ⟨_, by rw [bl_drop, HB.out], hR'.take _⟩, HG.out.trans (grown_setCell _ ⟨rb, 0, none⟩ _)⟩
  · have hn : Rd.txt m s = ([], (Rd.cnt m s).2) := by unfold Rd.txt; rw [if_neg h0]
    rw [hn]
    rcases hnum : Rd.cnt m s with ⟨x, l, er⟩
    rw [hnum] at hc h0
    simp only at h0 hc
    have e1 : ((er : Int) == 0) = false := by simpa using h0
    have e2 : ((er : Int) != 0) = true := by simpa using h0
    clear hn hnum hle h0
    go_enter Tryz.func94, Tryz.ntmps94
    go_wp2_with ((with_reducible refine hc.mono ?_); rintro e w' ⟨rfl, ⟨b, hb1, hR'⟩, hG⟩; have c1 := hR'.2.1; have HG := Lib.hid hG; have HB := Lib.hid hb1; clear hG hb1)
    go_ret
    exact ⟨_, rfl, rfl, ⟨b, HB.out, hR'⟩, HG.out⟩
theorem rd_open (rb : Nat) (s : List UInt8 × Nat) (w : World) (hR : RL w rb s) :
    Calls Tryz.prog 107 #[.pointer (some ⟨rb, 0, none⟩)] w fun r w' => r = .returned (.bool (decide (s.2 = 0 ∧ s.1 ≠ []))) ∧ w = w' := by
  obtain ⟨b, hbl, c0, c1, hf⟩ := hR
  obtain ⟨l, er⟩ := s
  simp only at hbl c0 c1
  rcases Nat.eq_zero_or_pos er with rfl | he
  · rcases l with _ | ⟨x, l⟩
    · have e1 : b.toList.isEmpty = true := isEmpty_nil b (by rw [← Ds.bl_length, hbl]; rfl)
      clear hbl
      go_enter Tryz.func107, Tryz.ntmps107
      go_wp2_with fail
      go_ret
      exact ⟨rfl, rfl⟩
    · have e1 : b.toList.isEmpty = false := isEmpty_of b (by rw [← Ds.bl_length, hbl]; simp)
      clear hbl
      go_enter Tryz.func107, Tryz.ntmps107
      go_wp2_with fail
      go_ret
      exact ⟨by simp, rfl⟩
  · have e0 : ((er : Int) == 0) = false := by simp; omega
    go_enter Tryz.func107, Tryz.ntmps107
    go_wp2_with fail
    go_ret
    exact ⟨by simp; omega, rfl⟩
theorem rd_end (rb : Nat) (s : List UInt8 × Nat) (w : World) (hR : RL w rb s) :
    Calls Tryz.prog 73 #[.pointer (some ⟨rb, 0, none⟩)] w fun r w' => r = .returned (.int .i64 (Rd.fin s)) ∧ w = w' := by
  have ho := rd_open rb s w hR
  obtain ⟨b, hbl, c0, c1, hf⟩ := hR
  obtain ⟨l, er⟩ := s
  simp only at hbl c0 c1 ho
  unfold Rd.fin
  simp only
  by_cases h : er = 0 ∧ l ≠ []
  · rw [if_pos h]
    rw [decide_eq_true h] at ho
    clear h
    go_enter Tryz.func73, Tryz.ntmps73
    go_wp2_with ((with_reducible refine ho.mono ?_); rintro _ w' ⟨rfl, rfl⟩)
    go_ret
    exact ⟨rfl, rfl⟩
  · rw [if_neg h]
    rw [decide_eq_false h] at ho
    clear h
    go_enter Tryz.func73, Tryz.ntmps73
    go_wp2_with ((with_reducible refine ho.mono ?_); rintro _ w' ⟨rfl, rfl⟩)
    go_ret
    exact ⟨rfl, rfl⟩
end Go.Proofs.YtlkfhlgngkgflaaGreatDoor
