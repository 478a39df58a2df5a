/- Contract of dasdlaw33.few. -/
import Derived.Test.YtdfdjfnfmibpjaaGreatDoorSaC
import Derived.Test.YtdfdjfnfmibpjaaGreatDoorEn
namespace Go.Proofs.YtdfdjfnfmibpjaaGreatDoor
open Go.RowKit
set_option maxHeartbeats 8000000
set_option maxRecDepth 8000
attribute [local go_sem] vals_0 vals_1 vals_18 vals_19 vals_23 vals_28 vals_29 vals_32
/-- grants that can be read, however many -/
def GR (w : World) (a : Option Addr) (n : Nat) : Prop := n ≤ 9223372036854775807 ∧ ∀ k, k < n → ∃ (b o : Nat) (g : Gr), a = some ⟨b, o, none⟩ ∧ b < w.heap.size ∧ w.cell? ⟨b, o + k * 3, none⟩ = some (.string g.1) ∧ w.cell? ⟨b, o + k * 3 + 1, none⟩ = some (.bool g.2.1) ∧ w.cell? ⟨b, o + k * 3 + 2, none⟩ = some (.int .i64 g.2.2)
def fewP (e : En) (n1 n2 : Nat) : Prop := e.name.size ≤ 60 ∧ n1 ≤ 8 ∧ n2 ≤ 12
def FV (w wr : World) (cs : Array Value) : Prop := Below w.heap.size w wr ∧ row wr w.heap.size = cs ∧ w.heap.size < wr.heap.size
def FewR (e : En) (n1 n2 : Nat) (w w' : World) (r : Ending) : Prop := ∃ b : Bool, r = .returned (.bool b) ∧ (b = true → fewP e n1 n2) ∧ Below w.heap.size w w'
theorem FewR.no {e : En} {n1 n2 : Nat} {w w' : World} (h : Below w.heap.size w w') : FewR e n1 n2 w w' (.returned (.bool false)) := ⟨false, rfl, (fun h => by cases h), h⟩
theorem few33 (e : En) (a1 a2 : Option Addr) (n1 c1 n2 c2 : Nat) (w : World) (hG : GR w a2 n2) :
    Calls Tryz.prog 9 #[.agg (e.vals (.slice a1 n1 c1) (.slice a2 n2 c2))] w fun r w' => FewR e n1 n2 w w' r := by
  obtain ⟨hn, hG⟩ := hG
  have HG := Lib.hid hG
  clear hG
  go_enter Tryz.func9, Tryz.ntmps9
  go_wp2_with fail
  go_loopw [8] (fun i wr => ∃ k : Nat, k ≤ n2 ∧ i = .int .i64 k ∧ FV w wr (e.vals (.slice a1 n1 c1) (.slice a2 n2 c2))) (fun i _ => n2 - (intOf i).toNat)
  case atStart => exact ⟨0, Nat.zero_le _, rfl, by exact belA, row_new _ _ _ _, by simp⟩
  case round =>
    obtain ⟨k, hk, rfl, hB, hrow, hlt⟩ := hrel
    by_cases hkn : k < n2
    · obtain ⟨b, o, g, rfl, hb, g0, g1, g2⟩ := HG.out k hkn
      have q0 := (hB.cell (p := ⟨b, o + k * 3, none⟩) hb).trans g0
      have q1 := (hB.cell (p := ⟨b, o + k * 3 + 1, none⟩) hb).trans g1
      have q2 := (hB.cell (p := ⟨b, o + k * 3 + 2, none⟩) hb).trans g2
      obtain ⟨gw, gg, gl⟩ := g
      simp only at q0 q1 q2
      clear g0 g1 g2
      have z0 := hB.size
      by_cases h20 : 20 < gw.size
      · go_wp2_with fail
        go_ret
        exact FewR.no (by exact belA)
      · go_wp2_with fail
        go_roundw
        case rel => exact ⟨k + 1, by omega, by go_num, by exact belA, row_below ((Below.refl _ _).alloc (Nat.le_refl _) _) hrow (by simp [vals_size]), by simp; omega⟩
        case measure => simp [intOf]; omega
    · have v1 := cell_row hrow 1 _ (vals_1 e _ _)
      have v18 := cell_row hrow 18 _ (vals_18 e _ _)
      have v19 := cell_row hrow 19 _ (vals_19 e _ _)
      have v23 := cell_row hrow 23 _ (vals_23 e _ _)
      have v28 := cell_row hrow 28 _ (vals_28 e _ _)
      have v29 := cell_row hrow 29 _ (vals_29 e _ _)
      have v32 := cell_row hrow 32 _ (vals_32 e _ _)
      by_cases h1 : e.name.size ≤ 60
      rotate_left
      · have q1 : decide ((e.name.size : Int) ≤ 60) = false := by rw [decide_eq_false_iff_not]; omega
        clear h1
        go_wp2_with fail
        go_ret
        exact FewR.no hB
      have q1 : decide ((e.name.size : Int) ≤ 60) = true := by rw [decide_eq_true_eq]; omega
      by_cases h2 : n1 ≤ 8
      rotate_left
      · have q2 : decide ((n1 : Int) ≤ 8) = false := by rw [decide_eq_false_iff_not]; omega
        clear h2
        go_wp2_with fail
        go_ret
        exact FewR.no hB
      have q2 : decide ((n1 : Int) ≤ 8) = true := by rw [decide_eq_true_eq]; omega
      by_cases h3 : n2 ≤ 12
      rotate_left
      · have q3 : decide ((n2 : Int) ≤ 12) = false := by rw [decide_eq_false_iff_not]; omega
        clear h3
        go_wp2_with fail
        go_ret
        exact FewR.no hB
      have q3 : decide ((n2 : Int) ≤ 12) = true := by rw [decide_eq_true_eq]; omega
      have HP : Hid (fewP e n1 n2) := Lib.hid ⟨h1, h2, h3⟩
      clear h1 h2 h3
      go_wp2_with fail
      go_ret
      exact ⟨_, rfl, fun _ => HP.out, hB⟩
end Go.Proofs.YtdfdjfnfmibpjaaGreatDoor
