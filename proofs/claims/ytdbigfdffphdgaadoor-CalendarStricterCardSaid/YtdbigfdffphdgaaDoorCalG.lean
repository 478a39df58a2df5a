/- Contracts of Parse (the reference's). -/
import Derived.Test.YtdbigfdffphdgaaDoorCalF
import Derived.BigQuiet
import Derived.Deep.QuietTactic
import Derived.RegionTactic
namespace Go.Proofs.YtdbigfdffphdgaaDoor
open Go.RowKit
set_option maxHeartbeats 800000

theorem refparse_len (s : ByteArray) (w : World) (h : s.size ≠ 10) :
    Calls Tryd.prog 16 #[.string s] w fun e w' => e = .returned (.tuple #[.int .i64 0, .int .i64 3]) ∧ Below w.heap.size w w' := by
  have h' : ((s.size : Int) != 10) = true := by simp; omega
  clear h
  go_enter Tryd.func16, Tryd.ntmps16
  go_wp2_with fail
  go_ret2
  exact ⟨rfl, Below.refl _ _⟩

theorem refparse_ten (s : ByteArray) (w : World) (h : s.size = 10) :
    Calls Tryd.prog 16 #[.string s] w fun e w' => e = .returned (.tuple #[.int .i64 (Cal.parseN s), .int .i64 (Cal.parseE s)]) ∧ Below w.heap.size w w' := by
  have h' : ((s.size : Int) != 10) = false := by simp; omega
  have h9 : s.size ≤ 10 := by omega
  have H := Lib.hid h
  clear h
  go_enter Tryd.func16, Tryd.ntmps16
  go_wp2_with fail
  go_loopw [5, 6] (fun p i wr => ∃ (k : Nat) (z : Int), k ≤ 10 ∧ (∀ j, j < k → Cal.okc j (Cal.at_ s j) = true) ∧ z = Cal.part k ∧ i = .int .i64 k ∧ p = .int .i64 z ∧ wr.cell? ⟨w.heap.size, 0, none⟩ = some (.int .i64 (Cal.pv s 0 k)) ∧ wr.cell? ⟨w.heap.size, 1, none⟩ = some (.int .i64 (Cal.pv s 1 k)) ∧ wr.cell? ⟨w.heap.size, 2, none⟩ = some (.int .i64 (Cal.pv s 2 k)) ∧ (∀ o, wr.frozen? ⟨w.heap.size, o, none⟩ = false) ∧ w.heap.size < wr.heap.size ∧ Below w.heap.size w wr) (fun _ i _ => 10 - (intOf i).toNat)
  case atStart => exact ⟨0, 0, by omega, by omega, rfl, rfl, rfl, by simp [Cal.pv], by simp [Cal.pv], by simp [Cal.pv], by simp, by simp, by (repeat (first | exact Below.refl _ _ | assumption | (refine Below.drew ?_) | (refine Below.alloc ?_ (by simp) _) | (refine Below.setCell ?_ (by simp) _)))⟩
  case round =>
    obtain ⟨k, z, hk, hok, hz, rfl, rfl, c0, c1, c2, hf, hsz, hb⟩ := hrel
    have HOK := Lib.hid hok
    have HZ := Lib.hid hz
    clear hok hz
    have PB : ∀ p, Cal.pv s p k ≤ 10000000000 := fun p => by
      have := Cal.pv_lt s p k HOK.out
      have : 10 ^ k ≤ 10 ^ 10 := Nat.pow_le_pow_right (by omega) hk
      omega
    by_cases hlt : k < 10
    · have hks : k < s.size := by have := H.out; omega
      have e0 := Cal.at_eq s k hks
      have E0 := Lib.hid e0
      clear e0
      by_cases hh : k = 4 ∨ k = 7
      · have HH := Lib.hid hh
        have hkb : (((k : Int) == 4) = true) ∨ (((k : Int) == 4) = false ∧ ((k : Int) == 7) = true) := by
          rcases hh with h | h <;> subst h <;> simp
        have hz : 0 ≤ z ∧ z ≤ 2 := by
          have := HZ.out
          rcases hh with h | h <;> subst h <;> simp [Cal.part] at this <;> omega
        clear hh PB
        by_cases hc : s[k].toNat = 45
        · have hc' : ((s[k].toNat : Int) != 45) = false := by simp [hc]
          have okk : Cal.okc k (Cal.at_ s k) = true := (Cal.okc_h _ _ HH.out).2 (by rw [← E0.out]; exact hc)
          have OK := Lib.hid okk
          clear okk
          have HC := Lib.hid hc
          clear hc
          rcases hkb with hkb | ⟨hkb1, hkb⟩
          all_goals
            go_wp2_with fail
            go_roundw
            case rel =>
              refine ⟨k + 1, z + 1, by omega, Cal.ok_next s k HOK.out OK.out, ?_, by go_num, rfl, by rw [Cal.pv_hyph _ _ _ HH.out]; exact c0, by rw [Cal.pv_hyph _ _ _ HH.out]; exact c1, by rw [Cal.pv_hyph _ _ _ HH.out]; exact c2, hf, hsz, hb⟩
              have := HZ.out
              rcases HH.out with h | h <;> subst h <;> simp [Cal.part] at this ⊢ <;> omega
            case measure => simp [intOf]; omega
        · have hc' : ((s[k].toNat : Int) != 45) = true := by simp; omega
          have bad : Cal.okc k (Cal.at_ s k) = false := by
            rw [← Bool.not_eq_true]; intro h; exact hc (by rw [E0.out]; exact (Cal.okc_h _ _ HH.out).1 h)
          have dp := Cal.parse_no s (Cal.syn_not s k hlt bad)
          have DP := Lib.hid dp
          clear bad dp
          rcases hkb with hkb | ⟨hkb1, hkb⟩
          all_goals
            go_wp2_with fail
            go_ret2
            exact ⟨ret2 DP.out.1.symm DP.out.2.symm, hb⟩
      · have hk4 : ((k : Int) == 4) = false := by simp; omega
        have hk7 : ((k : Int) == 7) = false := by simp; omega
        have HH := Lib.hid hh
        clear hh
        by_cases hc : 48 ≤ s[k].toNat ∧ s[k].toNat ≤ 57
        · have okk : Cal.okc k (Cal.at_ s k) = true := (Cal.okc_d _ _ HH.out).2 (by rw [← E0.out]; exact hc)
          have OK := Lib.hid okk
          clear okk
          obtain ⟨ha, hb'⟩ := hc
          have pb0 := PB 0
          have pb1 := PB 1
          have pb2 := PB 2
          clear PB
          have hf0 := hf 0
          have hf1 := hf 1
          have hf2 := hf 2
          have HF := Lib.hid hf
          clear hf
          have hz : k < 4 ∧ z = 0 ∨ (4 < k ∧ k < 7) ∧ z = 1 ∨ 7 < k ∧ z = 2 := by
            have := HZ.out
            have := HH.out
            by_cases h1 : k < 4
            · have := Cal.part_0 k h1; omega
            · by_cases h2 : k < 7
              · have := Cal.part_1 k (by omega) h2; omega
              · have := Cal.part_2 k (by omega); omega
          rcases hz with ⟨hz, rfl⟩ | ⟨hz, rfl⟩ | ⟨hz, rfl⟩
          · go_wp2_with fail
            go_region
            go_wp2_with fail
            go_roundw
            case rel =>
              have hp : Cal.part k = 0 := by have := HZ.out; omega
              have hp' : Cal.part (k + 1) = 0 := by unfold Cal.part; split <;> (try split) <;> omega
              have v0 : (10 * (Cal.pv s 0 k : Int) + ((s[k].toNat : Int) - 48)) = (Cal.pv s 0 (k + 1) : Nat) := by rw [Cal.pv_same _ _ _ HH.out hp, ← E0.out]; omega
              have o1 : ∀ q, q ≠ 0 → Cal.pv s q (k + 1) = Cal.pv s q k := fun q hq => Cal.pv_other _ _ _ (by omega)
              exact ⟨k + 1, 0, by omega, Cal.ok_next s k HOK.out OK.out, by rw [hp']; rfl, by go_num, rfl, by rw [← v0]; simp [go_sem, c0], by rw [o1 1 (by omega)]; simp [go_sem, c1], by rw [o1 2 (by omega)]; simp [go_sem, c2], fun o => by simpa using HF.out o, by simpa using hsz, by (repeat (first | exact Below.refl _ _ | assumption | (refine Below.drew ?_) | (refine Below.alloc ?_ (by simp) _) | (refine Below.setCell ?_ (by simp) _)))⟩
            case measure => simp [intOf]; omega
          · go_wp2_with fail
            go_region
            go_wp2_with fail
            go_roundw
            case rel =>
              have hp : Cal.part k = 1 := by have := HZ.out; omega
              have hp' : Cal.part (k + 1) = 1 := by unfold Cal.part; split <;> (try split) <;> omega
              have v1 : (10 * (Cal.pv s 1 k : Int) + ((s[k].toNat : Int) - 48)) = (Cal.pv s 1 (k + 1) : Nat) := by rw [Cal.pv_same _ _ _ HH.out hp, ← E0.out]; omega
              have o1 : ∀ q, q ≠ 1 → Cal.pv s q (k + 1) = Cal.pv s q k := fun q hq => Cal.pv_other _ _ _ (by omega)
              exact ⟨k + 1, 1, by omega, Cal.ok_next s k HOK.out OK.out, by rw [hp']; rfl, by go_num, rfl, by rw [o1 0 (by omega)]; simp [go_sem, c0], by rw [← v1]; simp [go_sem, c1], by rw [o1 2 (by omega)]; simp [go_sem, c2], fun o => by simpa using HF.out o, by simpa using hsz, by (repeat (first | exact Below.refl _ _ | assumption | (refine Below.drew ?_) | (refine Below.alloc ?_ (by simp) _) | (refine Below.setCell ?_ (by simp) _)))⟩
            case measure => simp [intOf]; omega
          · go_wp2_with fail
            go_region
            go_wp2_with fail
            go_roundw
            case rel =>
              have hp : Cal.part k = 2 := by have := HZ.out; omega
              have hp' : Cal.part (k + 1) = 2 := by unfold Cal.part; split <;> (try split) <;> omega
              have v2 : (10 * (Cal.pv s 2 k : Int) + ((s[k].toNat : Int) - 48)) = (Cal.pv s 2 (k + 1) : Nat) := by rw [Cal.pv_same _ _ _ HH.out hp, ← E0.out]; omega
              have o1 : ∀ q, q ≠ 2 → Cal.pv s q (k + 1) = Cal.pv s q k := fun q hq => Cal.pv_other _ _ _ (by omega)
              exact ⟨k + 1, 2, by omega, Cal.ok_next s k HOK.out OK.out, by rw [hp']; rfl, by go_num, rfl, by rw [o1 0 (by omega)]; simp [go_sem, c0], by rw [o1 1 (by omega)]; simp [go_sem, c1], by rw [← v2]; simp [go_sem, c2], fun o => by simpa using HF.out o, by simpa using hsz, by (repeat (first | exact Below.refl _ _ | assumption | (refine Below.drew ?_) | (refine Below.alloc ?_ (by simp) _) | (refine Below.setCell ?_ (by simp) _)))⟩
            case measure => simp [intOf]; omega
        · have bad : Cal.okc k (Cal.at_ s k) = false := by
            rw [← Bool.not_eq_true]; intro h; exact hc (by rw [E0.out]; exact (Cal.okc_d _ _ HH.out).1 h)
          have dp := Cal.parse_no s (Cal.syn_not s k hlt bad)
          have DP := Lib.hid dp
          clear bad dp PB
          have hc2 : s[k].toNat < 48 ∨ 48 ≤ s[k].toNat ∧ 57 < s[k].toNat := by omega
          clear hc
          rcases hc2 with hc2 | ⟨hc2, hc3⟩
          all_goals
            go_wp2_with fail
            go_ret2
            exact ⟨ret2 DP.out.1.symm DP.out.2.symm, hb⟩
    · obtain rfl : k = 10 := by omega
      have dp := Cal.parse_yes s (Cal.syn_yes s H.out (fun i hi => HOK.out i hi))
      have DP := Lib.hid dp
      clear dp PB
      have B := hb
      go_wp2_with fail
      go_quiet ((go_at_call 14; exact Calls.quiet_of_same ((refday_any _ _ _ _).mono fun _ _ ⟨a, b⟩ => ⟨a, b.symm⟩)))
      go_wp2_with fail
      go_ret2
      exact ⟨ret2 DP.out.1.symm DP.out.2.symm, below_drewN B _⟩
end Go.Proofs.YtdbigfdffphdgaaDoor
