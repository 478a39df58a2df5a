/- Contract of dasdlaw37.few. -/
import Derived.Test.YtkmhegogiadjfaaGreatDoorAcA
import Derived.Test.YtkmhegogiadjfaaGreatDoorRuC
namespace Go.Proofs.YtkmhegogiadjfaaGreatDoor
open Go.RowKit
set_option maxHeartbeats 8000000
set_option maxRecDepth 8000
attribute [local go_sem ↓] ldEnt stEnt stEntRow ldEntM
attribute [local go_sem] Held_drew isHead_mk headOf_mk offOf_mk isPtr_mk cellsOfV_mk isAggV_mk row_new row_new2 row_new2' row_drew row_drewN vals_size allOne_nil allOne_cons one_int one_bool one_string one_pointer one_slice vals_0 vals_1 vals_18 vals_23 vals_29 vals_32
def few7P (F : Nat → Ef) (n : Nat) (m : Int) : Prop := (n : Int) ≤ m ∧ ∀ k, k < n → (F k).e.name.size ≤ 60 ∧ (F k).n2 ≤ 12 ∧ (F k).n1 ≤ 8
def Few7R (F : Nat → Ef) (n : Nat) (m : Int) (w w' : World) (r : Ending) : Prop := ∃ b : Bool, r = .returned (.bool b) ∧ (b = true → few7P F n m) ∧ Below w.heap.size w w'
theorem Few7R.no {F : Nat → Ef} {n : Nat} {m : Int} {w w' : World} (h : Below w.heap.size w w') : Few7R F n m w w' (.returned (.bool false)) := ⟨false, rfl, (fun h => by cases h), h⟩
theorem few37 (a : Option Addr) (n c : Nat) (F : Nat → Ef) (m : Int) (w : World) (hES : ES w a n F) :
    Calls Tryz.prog 50 #[.slice a n c, .int .i64 m] w fun r w' => Few7R F n m w w' r := by
  have HES := Lib.hid hES
  have hn63 := hES.1
  clear hES
  go_enter Tryz.func50, Tryz.ntmps50
  go_wp2_with fail
  go_loopw [9] (fun i wr => ∃ k : Nat, k ≤ n ∧ i = .int .i64 k ∧ (∀ j, j < k → (F j).e.name.size ≤ 60 ∧ (F j).n2 ≤ 12 ∧ (F j).n1 ≤ 8) ∧ Below w.heap.size w wr) (fun i _ => n - (intOf i).toNat)
  case atStart => exact ⟨0, Nat.zero_le _, rfl, (fun j hj => absurd hj (by omega)), by (repeat (first | exact Below.refl _ _ | assumption | (refine Below.drew ?_) | (refine Below.alloc ?_ (by first | (simp; done) | (simp; omega) | omega) _) | (refine Below.setCell ?_ (by first | (simp; done) | (simp; omega) | omega) _)))⟩
  case round =>
    obtain ⟨k, hk, rfl, hok, B⟩ := hrel
    have HOK := Lib.hid hok
    have z0 := B.size
    clear hok
    by_cases hlt : k < n
    · obtain ⟨b, o, rfl, hb, a1, c1, a2, c2, hmid, h1, h2, -⟩ := (HES.out.below B).2 k hlt
      have hz : (mid wr b (o + k * 33)).size = 33 := by rw [hmid]; exact vals_size _ _ _
      have hone := vals_one (F k).e (.slice a1 (F k).n1 c1) (.slice a2 (F k).n2 c2) rfl rfl
      obtain ⟨q0, e0⟩ : ∃ b, decide (60 < ((F k).e.name.size : Int)) = b := ⟨_, rfl⟩
      obtain ⟨q1, e1⟩ : ∃ b, decide (60 < ((F k).e.target.size : Int)) = b := ⟨_, rfl⟩
      obtain ⟨q2, e2⟩ : ∃ b, decide (12 < ((F k).n2 : Int)) = b := ⟨_, rfl⟩
      obtain ⟨q3, e3⟩ : ∃ b, decide (8 < ((F k).n1 : Int)) = b := ⟨_, rfl⟩
      obtain ⟨q4, e4⟩ : ∃ b, decide (40 < ((F k).e.vol.size : Int)) = b := ⟨_, rfl⟩
      have HS : Hid (q0 = false → q2 = false → q3 = false → (F k).e.name.size ≤ 60 ∧ (F k).n2 ≤ 12 ∧ (F k).n1 ≤ 8) := Lib.hid (by
        rintro rfl rfl rfl
        rw [decide_eq_false_iff_not] at e0 e2 e3
        omega)
      cases q0
      cases q1
      cases q2
      cases q3
      cases q4
      · go_wp2_with fail
        go_roundw
        case rel =>
          refine ⟨k + 1, by omega, by go_num, fun j hj => ?_, by (repeat (first | exact Below.refl _ _ | assumption | (refine Below.drew ?_) | (refine Below.alloc ?_ (by first | (simp; done) | (simp; omega) | omega) _) | (refine Below.setCell ?_ (by first | (simp; done) | (simp; omega) | omega) _)))⟩
          rcases Nat.lt_or_ge j k with h | h
          · exact HOK.out j h
          · obtain rfl : j = k := by omega
            exact HS.out rfl rfl rfl
        case measure => simp [intOf]; omega
      all_goals
        go_wp2_with fail
        go_ret
        exact Few7R.no (by (repeat (first | exact Below.refl _ _ | assumption | (refine Below.drew ?_) | (refine Below.alloc ?_ (by first | (simp; done) | (simp; omega) | omega) _) | (refine Below.setCell ?_ (by first | (simp; done) | (simp; omega) | omega) _))))
    · obtain rfl : k = n := by omega
      obtain ⟨q0, e0⟩ : ∃ b, decide ((k : Int) ≤ m) = b := ⟨_, rfl⟩
      have HS : Hid (q0 = true → (k : Int) ≤ m) := Lib.hid (by rintro rfl; exact of_decide_eq_true e0)
      go_wp2_with fail
      go_ret
      exact ⟨_, rfl, fun h => ⟨HS.out h, HOK.out⟩, B⟩
end Go.Proofs.YtkmhegogiadjfaaGreatDoor
