/- Several texts in one: DsF DsG DsH. -/
import Derived.Test.YtdfdjfnfmibpjaaGreatDoorDsA
import Derived.Test.YtdfdjfnfmibpjaaGreatDoorTbl
import Derived.RegionTactic
import Derived.BigQuiet
import Derived.Deep.QuietTactic
import Derived.Deep.RegionHeld3
import Derived.IntWalk
import Derived.Test.YtdfdjfnfmibpjaaGreatDoorDsK
section
/- Contracts: table at the qualifiers' bytes. -/
namespace Go.Proofs.YtdfdjfnfmibpjaaGreatDoor
open Go.RowKit
set_option maxHeartbeats 2000000
set_option maxRecDepth 3000
attribute [local go_sem ↓] exec_alloc_tab
theorem tbq (p n : Nat) (hp : p < 40) (hn : n < 40) (pq ps : Nat) (S : Nat → Bool) (O : Nat → Nat → Bool) (w : World)
    (hS : Hid (∀ i : Nat, i < p → ∀ w', Below w.heap.size w w' → Calls Tryz.prog 175 #[.int .i64 i, .pointer (some ⟨pq, 0, none⟩)] w' fun e w'' => e = .returned (.bool (S i)) ∧ Below w'.heap.size w' w''))
    (hO : Hid (∀ i k : Nat, i < p → k < n → ∀ w', Below w.heap.size w w' → Calls Tryz.prog 176 #[.int .i64 i, .int .i64 k, .pointer (some ⟨pq, 0, none⟩), .pointer (some ⟨ps, 0, none⟩)] w' fun e w'' => e = .returned (.bool (O i k)) ∧ Below w'.heap.size w' w'')) :
    Calls Tryz.prog 172 #[.int .i64 p, .int .i64 n, .func (.func 175) #[] #[.pointer (some ⟨pq, 0, none⟩)], .func (.func 176) #[] #[.pointer (some ⟨pq, 0, none⟩), .pointer (some ⟨ps, 0, none⟩)]] w fun e w' => e = .returned (.bool (Ds.tab S O p n 0 0)) ∧ Below w.heap.size w w' := by
  have hz : zTab[p * 40 + n]? = some (.bool false) := zTab_get _ (by omega)
  go_enter Tryz.func172, Tryz.ntmps172
  go_wp2_with fail
  clear hz
  go_loopw [10, 11] (fun i _ wr => ∃ (q : Int) (r : Nat) (F : Nat → Nat → Bool), r ≤ p ∧ q = (r : Int) - 1 ∧ i = .int .i64 q ∧ TI wr w.heap.size F ∧ (∀ r' c, r ≤ r' → r' ≤ p → c ≤ n → F r' c = Ds.tab S O p n r' c) ∧ w.heap.size < wr.heap.size ∧ Below w.heap.size w wr) (fun i _ _ => (intOf i + 1).toNat)
  case atStart =>
    refine ⟨(p : Int) - 1, p, fun r c => if r = p ∧ c = n then true else false, by omega, rfl, by go_num, by have h := (TI.new w).set p n hp hn true; simpa [go_sem] using h, ?_, by simp, by (repeat (first | exact Below.refl _ _ | assumption | (refine Below.drew ?_) | (refine Below.alloc ?_ (by simp) _) | (refine Below.setCell ?_ (by simp) _)))⟩
    intro r' c h1 h2 h3
    obtain rfl : r' = p := by omega
    rw [Ds.tab_end _ _ _ _ _ _ (by omega)]
    by_cases hc : c = n <;> simp [hc]
  case round =>
    obtain ⟨q, r, F, hr, hq, rfl, hT, hF, hlt, B⟩ := hrel
    have HF := Lib.hid hF
    clear hF
    rcases r with _ | r
    · obtain rfl : q = -1 := by omega
      have c0 := hT.1 0 0 (by omega) (by omega)
      have H0 := Lib.hid (HF.out 0 0 (by omega) (by omega) (by omega))
      clear hq
      go_wp2_with fail
      go_ret
      exact ⟨ret_bool H0.out, B⟩
    · obtain rfl : q = r := by omega
      clear hq
      go_wp2_with fail
      go_loopw [11] (fun k wr => ∃ (q : Int) (c : Nat) (F : Nat → Nat → Bool), c ≤ n + 1 ∧ q = (c : Int) - 1 ∧ k = .int .i64 q ∧ TI wr w.heap.size F ∧ (∀ r' c', r + 1 ≤ r' → r' ≤ p → c' ≤ n → F r' c' = Ds.tab S O p n r' c') ∧ (∀ c', c ≤ c' → c' ≤ n → F r c' = Ds.tab S O p n r c') ∧ w.heap.size < wr.heap.size ∧ Below w.heap.size w wr) (fun k _ => (intOf k + 1).toNat)
      case atStart => exact ⟨n, n + 1, F, by omega, by omega, rfl, hT, HF.out, by intro c' h1 h2; omega, hlt, B⟩
      case round =>
        clear HF hT hlt B
        obtain ⟨q, c, F, hc, hq, rfl, hT, hF, hG, hlt, B⟩ := hrel
        have HF := Lib.hid hF
        have HG := Lib.hid hG
        clear hF hG
        rcases c with _ | c
        · obtain rfl : q = -1 := by omega
          clear hq
          go_wp2_with fail
          go_roundw
          case rel =>
            refine ⟨(r : Int) - 1, r, F, by omega, rfl, by go_num, hT, ?_, hlt, B⟩
            intro r' c' h1 h2 h3
            rcases Nat.lt_or_ge r r' with h | h
            · exact HF.out r' c' h h2 h3
            · obtain rfl : r' = r := by omega
              exact HG.out c' (by omega) h3
          case measure => simp [intOf]
        · obtain rfl : q = c := by omega
          clear hq
          have hcn : c ≤ n := by omega
          have c2 := hT.1 (r + 1) c (by omega) (by omega)
          have H2 := Lib.hid (HF.out (r + 1) c (by omega) (by omega) hcn)
          have c1 := hT.1 r c (by omega) (by omega)
          have fz := hT.2
          cases hs : S r
          · by_cases hk : c < n
            · have c3 := hT.1 (r + 1) (c + 1) (by omega) (by omega)
              have H3 := Lib.hid (HF.out (r + 1) (c + 1) (by omega) (by omega) (by omega))
              go_wp2_with (go_at_call 175; (with_reducible refine (hS.out r (by omega) _ B).mono ?_); rintro e w1 ⟨rfl, hb⟩; have B := bt B hb; have hT := hT.below hb hlt; have hlt := Nat.lt_of_lt_of_le hlt hb.size; have c1 := below_cell hb c1; have c2 := below_cell hb c2; clear hb)
              have fz := hT.2
              have c3 := hT.1 (r + 1) (c + 1) (by omega) (by omega)
              cases hv : F (r + 1) (c + 1)
              · rw [hv] at c3 H3
                go_region
                go_wp2_with fail
                go_roundw
                case rel => exact ⟨(c : Int) - 1, c, _, by omega, rfl, by go_num, (hT.set r c (by omega) (by omega) _).drew, upd_rows _ _ _ _ _ _ _ HF.out, upd_row _ _ _ _ _ _ HG.out (by rw [Ds.tab_one _ _ _ _ _ _ (by omega) hs, ← H3.out]; simp), by simpa using hlt, by (have hzz := (B).size; exact belA)⟩
                case measure => simp [intOf]
              · rw [hv] at c3 H3
                have b1 : r + 1 < 40 := by omega
                have b2 : c + 1 < 40 := by omega
                have b3 : (r : Int) + 1 < 40 := by omega
                have b4 : (c : Int) + 1 < 40 := by omega
                have b5 : (0 : Int) ≤ (r : Int) + 1 := by omega
                have b6 : (0 : Int) ≤ (c : Int) + 1 := by omega
                have b7 : IntKind.i64.wrap ((r : Int) + 1) = (r : Int) + 1 := IntWalk.i64_in _ (by omega)
                have b8 : IntKind.i64.wrap ((c : Int) + 1) = (c : Int) + 1 := IntWalk.i64_in _ (by omega)
                have b9 : (r : Int) < 40 := by omega
                have b10 : (c : Int) < 40 := by omega
                have b11 : (0 : Int) ≤ (r : Int) := by omega
                have b12 : (0 : Int) ≤ (c : Int) := by omega
                have b13 : ((r : Int) + 1).toNat = r + 1 := by omega
                have b14 : ((c : Int) + 1).toNat = c + 1 := by omega
                have BD := B.drew
                have S0 := SJ.start hT b1 b2 hv hlt B
                have H0 := Lib.hid S0
                clear S0
                go_region_held3 (fun w' => w'.cell? ⟨w.heap.size, (r + 1) * 40 + (c + 1), none⟩ = some (.bool true) ∧ w'.cell? ⟨w.heap.size, r * 40 + c, none⟩ = some (.bool (bvc w' w.heap.size (r * 40 + c))) ∧ (∀ o, w'.frozen? ⟨w.heap.size, o, none⟩ = false) ∧ TJ w' w.heap.size F r c ∧ w.heap.size < w'.heap.size ∧ Below w.heap.size w w') (first | exact H0.out | exact SJ.call hb (by assumption) | exact SJ.store b1 b2 _ (by assumption)) (first | (go_at_call 176; (with_reducible refine (hO.out r c (by omega) (by omega) _ (by first | exact BD | (have hh := (by assumption : SJ w w.heap.size F r c _); exact hh.2.2.2.2.2))).mono ?_); rintro e w2 ⟨rfl, hb⟩))
                have S2 := SJ.call hb H0.out
                have HT2 := Lib.hid (S2.2.2.2.1.set (by omega) (by omega) (O r c))
                have HB2 := Lib.hid (S2.2.2.2.2.2.setCell (p := ⟨w.heap.size, r * 40 + c, none⟩) (Nat.le_refl _) (.bool (O r c)))
                have HS2 := S2.2.2.2.2.1
                clear b3 b4 b5 b6 b7 b8 b9 b10 b11 b12 b13 b14 S2
                go_wp2_with fail
                go_roundw
                case rel => exact ⟨(c : Int) - 1, c, _, by omega, rfl, by go_num, HT2.out, upd_rows _ _ _ _ _ _ _ HF.out, upd_row _ _ _ _ _ _ HG.out (by rw [Ds.tab_one _ _ _ _ _ _ (by omega) hs, ← H3.out]; simp [hk]), by simpa using HS2, HB2.out⟩
                case measure => simp [intOf]
            · go_wp2_with (go_at_call 175; (with_reducible refine (hS.out r (by omega) _ B).mono ?_); rintro e w1 ⟨rfl, hb⟩; have B := bt B hb; have hT := hT.below hb hlt; have hlt := Nat.lt_of_lt_of_le hlt hb.size; have c1 := below_cell hb c1; have c2 := below_cell hb c2; clear hb)
              have fz := hT.2
              have hk' : n ≤ c := by omega
              go_region
              go_wp2_with fail
              go_roundw
              case rel => exact ⟨(c : Int) - 1, c, _, by omega, rfl, by go_num, (hT.set r c (by omega) (by omega) _).drew, upd_rows _ _ _ _ _ _ _ HF.out, upd_row _ _ _ _ _ _ HG.out (by rw [Ds.tab_one _ _ _ _ _ _ (by omega) hs]; simp [hk]), by simpa using hlt, by (have hzz := (B).size; exact belA)⟩
              case measure => simp [intOf]
          · by_cases hk : c < n
            · have c3 := hT.1 r (c + 1) (by omega) (by omega)
              have H3 := Lib.hid (HG.out (c + 1) (by omega) (by omega))
              go_wp2_with (go_at_call 175; (with_reducible refine (hS.out r (by omega) _ B).mono ?_); rintro e w1 ⟨rfl, hb⟩; have B := bt B hb; have hT := hT.below hb hlt; have hlt := Nat.lt_of_lt_of_le hlt hb.size; have c1 := below_cell hb c1; have c2 := below_cell hb c2; have c3 := below_cell hb c3; clear hb)
              have fz := hT.2
              cases hv : F (r + 1) c
              · rw [hv] at c2 H2
                go_region
                go_wp2_with fail
                go_roundw
                case rel => exact ⟨(c : Int) - 1, c, _, by omega, rfl, by go_num, (hT.set r c (by omega) (by omega) _).drew, upd_rows _ _ _ _ _ _ _ HF.out, upd_row _ _ _ _ _ _ HG.out (by rw [Ds.tab_star _ _ _ _ _ _ (by omega) hs, ← H2.out, ← H3.out]; simp [hk]), by simpa using hlt, by (have hzz := (B).size; exact belA)⟩
                case measure => simp [intOf]
              · rw [hv] at c2 H2
                go_region
                go_wp2_with fail
                go_roundw
                case rel => exact ⟨(c : Int) - 1, c, _, by omega, rfl, by go_num, (hT.set r c (by omega) (by omega) _).drew, upd_rows _ _ _ _ _ _ _ HF.out, upd_row _ _ _ _ _ _ HG.out (by rw [Ds.tab_star _ _ _ _ _ _ (by omega) hs, ← H2.out]; simp), by simpa using hlt, by (have hzz := (B).size; exact belA)⟩
                case measure => simp [intOf]
            · go_wp2_with (go_at_call 175; (with_reducible refine (hS.out r (by omega) _ B).mono ?_); rintro e w1 ⟨rfl, hb⟩; have B := bt B hb; have hT := hT.below hb hlt; have hlt := Nat.lt_of_lt_of_le hlt hb.size; have c1 := below_cell hb c1; have c2 := below_cell hb c2; clear hb)
              have fz := hT.2
              have hk' : n ≤ c := by omega
              cases hv : F (r + 1) c
              all_goals
                rw [hv] at c2 H2
                go_region
                go_wp2_with fail
                go_roundw
                case rel => exact ⟨(c : Int) - 1, c, _, by omega, rfl, by go_num, (hT.set r c (by omega) (by omega) _).drew, upd_rows _ _ _ _ _ _ _ HF.out, upd_row _ _ _ _ _ _ HG.out (by rw [Ds.tab_star _ _ _ _ _ _ (by omega) hs, ← H2.out]; simp [hk]), by simpa using hlt, by (have hzz := (B).size; exact belA)⟩
                case measure => simp [intOf]
end Go.Proofs.YtdfdjfnfmibpjaaGreatDoor

end
section
/- Contracts: table at the qualifiers. -/
namespace Go.Proofs.YtdfdjfnfmibpjaaGreatDoor
open Go.RowKit
set_option maxHeartbeats 2000000
set_option maxRecDepth 3000
attribute [local go_sem ↓] exec_alloc_tab
theorem tbp (p n : Nat) (hp : p < 40) (hn : n < 40) (pq ps : Nat) (S : Nat → Bool) (O : Nat → Nat → Bool) (w : World)
    (hS : Hid (∀ i : Nat, i < p → ∀ w', Below w.heap.size w w' → Calls Tryz.prog 173 #[.int .i64 i, .pointer (some ⟨pq, 0, none⟩)] w' fun e w'' => e = .returned (.bool (S i)) ∧ Below w'.heap.size w' w''))
    (hO : Hid (∀ i k : Nat, i < p → k < n → ∀ w', Below w.heap.size w w' → Calls Tryz.prog 174 #[.int .i64 i, .int .i64 k, .pointer (some ⟨pq, 0, none⟩), .pointer (some ⟨ps, 0, none⟩)] w' fun e w'' => e = .returned (.bool (O i k)) ∧ Below w'.heap.size w' w'')) :
    Calls Tryz.prog 172 #[.int .i64 p, .int .i64 n, .func (.func 173) #[] #[.pointer (some ⟨pq, 0, none⟩)], .func (.func 174) #[] #[.pointer (some ⟨pq, 0, none⟩), .pointer (some ⟨ps, 0, none⟩)]] w fun e w' => e = .returned (.bool (Ds.tab S O p n 0 0)) ∧ Below w.heap.size w w' := by
  have hz : zTab[p * 40 + n]? = some (.bool false) := zTab_get _ (by omega)
  go_enter Tryz.func172, Tryz.ntmps172
  go_wp2_with fail
  clear hz
  go_loopw [10, 11] (fun i _ wr => ∃ (q : Int) (r : Nat) (F : Nat → Nat → Bool), r ≤ p ∧ q = (r : Int) - 1 ∧ i = .int .i64 q ∧ TI wr w.heap.size F ∧ (∀ r' c, r ≤ r' → r' ≤ p → c ≤ n → F r' c = Ds.tab S O p n r' c) ∧ w.heap.size < wr.heap.size ∧ Below w.heap.size w wr) (fun i _ _ => (intOf i + 1).toNat)
  case atStart =>
    refine ⟨(p : Int) - 1, p, fun r c => if r = p ∧ c = n then true else false, by omega, rfl, by go_num, by have h := (TI.new w).set p n hp hn true; simpa [go_sem] using h, ?_, by simp, by (repeat (first | exact Below.refl _ _ | assumption | (refine Below.drew ?_) | (refine Below.alloc ?_ (by simp) _) | (refine Below.setCell ?_ (by simp) _)))⟩
    intro r' c h1 h2 h3
    obtain rfl : r' = p := by omega
    rw [Ds.tab_end _ _ _ _ _ _ (by omega)]
    by_cases hc : c = n <;> simp [hc]
  case round =>
    obtain ⟨q, r, F, hr, hq, rfl, hT, hF, hlt, B⟩ := hrel
    have HF := Lib.hid hF
    clear hF
    rcases r with _ | r
    · obtain rfl : q = -1 := by omega
      have c0 := hT.1 0 0 (by omega) (by omega)
      have H0 := Lib.hid (HF.out 0 0 (by omega) (by omega) (by omega))
      clear hq
      go_wp2_with fail
      go_ret
      exact ⟨ret_bool H0.out, B⟩
    · obtain rfl : q = r := by omega
      clear hq
      go_wp2_with fail
      go_loopw [11] (fun k wr => ∃ (q : Int) (c : Nat) (F : Nat → Nat → Bool), c ≤ n + 1 ∧ q = (c : Int) - 1 ∧ k = .int .i64 q ∧ TI wr w.heap.size F ∧ (∀ r' c', r + 1 ≤ r' → r' ≤ p → c' ≤ n → F r' c' = Ds.tab S O p n r' c') ∧ (∀ c', c ≤ c' → c' ≤ n → F r c' = Ds.tab S O p n r c') ∧ w.heap.size < wr.heap.size ∧ Below w.heap.size w wr) (fun k _ => (intOf k + 1).toNat)
      case atStart => exact ⟨n, n + 1, F, by omega, by omega, rfl, hT, HF.out, by intro c' h1 h2; omega, hlt, B⟩
      case round =>
        clear HF hT hlt B
        obtain ⟨q, c, F, hc, hq, rfl, hT, hF, hG, hlt, B⟩ := hrel
        have HF := Lib.hid hF
        have HG := Lib.hid hG
        clear hF hG
        rcases c with _ | c
        · obtain rfl : q = -1 := by omega
          clear hq
          go_wp2_with fail
          go_roundw
          case rel =>
            refine ⟨(r : Int) - 1, r, F, by omega, rfl, by go_num, hT, ?_, hlt, B⟩
            intro r' c' h1 h2 h3
            rcases Nat.lt_or_ge r r' with h | h
            · exact HF.out r' c' h h2 h3
            · obtain rfl : r' = r := by omega
              exact HG.out c' (by omega) h3
          case measure => simp [intOf]
        · obtain rfl : q = c := by omega
          clear hq
          have hcn : c ≤ n := by omega
          have c2 := hT.1 (r + 1) c (by omega) (by omega)
          have H2 := Lib.hid (HF.out (r + 1) c (by omega) (by omega) hcn)
          have c1 := hT.1 r c (by omega) (by omega)
          have fz := hT.2
          cases hs : S r
          · by_cases hk : c < n
            · have c3 := hT.1 (r + 1) (c + 1) (by omega) (by omega)
              have H3 := Lib.hid (HF.out (r + 1) (c + 1) (by omega) (by omega) (by omega))
              go_wp2_with (go_at_call 173; (with_reducible refine (hS.out r (by omega) _ B).mono ?_); rintro e w1 ⟨rfl, hb⟩; have B := bt B hb; have hT := hT.below hb hlt; have hlt := Nat.lt_of_lt_of_le hlt hb.size; have c1 := below_cell hb c1; have c2 := below_cell hb c2; clear hb)
              have fz := hT.2
              have c3 := hT.1 (r + 1) (c + 1) (by omega) (by omega)
              cases hv : F (r + 1) (c + 1)
              · rw [hv] at c3 H3
                go_region
                go_wp2_with fail
                go_roundw
                case rel => exact ⟨(c : Int) - 1, c, _, by omega, rfl, by go_num, (hT.set r c (by omega) (by omega) _).drew, upd_rows _ _ _ _ _ _ _ HF.out, upd_row _ _ _ _ _ _ HG.out (by rw [Ds.tab_one _ _ _ _ _ _ (by omega) hs, ← H3.out]; simp), by simpa using hlt, by (have hzz := (B).size; exact belA)⟩
                case measure => simp [intOf]
              · rw [hv] at c3 H3
                have b1 : r + 1 < 40 := by omega
                have b2 : c + 1 < 40 := by omega
                have b3 : (r : Int) + 1 < 40 := by omega
                have b4 : (c : Int) + 1 < 40 := by omega
                have b5 : (0 : Int) ≤ (r : Int) + 1 := by omega
                have b6 : (0 : Int) ≤ (c : Int) + 1 := by omega
                have b7 : IntKind.i64.wrap ((r : Int) + 1) = (r : Int) + 1 := IntWalk.i64_in _ (by omega)
                have b8 : IntKind.i64.wrap ((c : Int) + 1) = (c : Int) + 1 := IntWalk.i64_in _ (by omega)
                have b9 : (r : Int) < 40 := by omega
                have b10 : (c : Int) < 40 := by omega
                have b11 : (0 : Int) ≤ (r : Int) := by omega
                have b12 : (0 : Int) ≤ (c : Int) := by omega
                have b13 : ((r : Int) + 1).toNat = r + 1 := by omega
                have b14 : ((c : Int) + 1).toNat = c + 1 := by omega
                have BD := B.drew
                have S0 := SJ.start hT b1 b2 hv hlt B
                have H0 := Lib.hid S0
                clear S0
                go_region_held3 (fun w' => w'.cell? ⟨w.heap.size, (r + 1) * 40 + (c + 1), none⟩ = some (.bool true) ∧ w'.cell? ⟨w.heap.size, r * 40 + c, none⟩ = some (.bool (bvc w' w.heap.size (r * 40 + c))) ∧ (∀ o, w'.frozen? ⟨w.heap.size, o, none⟩ = false) ∧ TJ w' w.heap.size F r c ∧ w.heap.size < w'.heap.size ∧ Below w.heap.size w w') (first | exact H0.out | exact SJ.call hb (by assumption) | exact SJ.store b1 b2 _ (by assumption)) (first | (go_at_call 174; (with_reducible refine (hO.out r c (by omega) (by omega) _ (by first | exact BD | (have hh := (by assumption : SJ w w.heap.size F r c _); exact hh.2.2.2.2.2))).mono ?_); rintro e w2 ⟨rfl, hb⟩))
                have S2 := SJ.call hb H0.out
                have HT2 := Lib.hid (S2.2.2.2.1.set (by omega) (by omega) (O r c))
                have HB2 := Lib.hid (S2.2.2.2.2.2.setCell (p := ⟨w.heap.size, r * 40 + c, none⟩) (Nat.le_refl _) (.bool (O r c)))
                have HS2 := S2.2.2.2.2.1
                clear b3 b4 b5 b6 b7 b8 b9 b10 b11 b12 b13 b14 S2
                go_wp2_with fail
                go_roundw
                case rel => exact ⟨(c : Int) - 1, c, _, by omega, rfl, by go_num, HT2.out, upd_rows _ _ _ _ _ _ _ HF.out, upd_row _ _ _ _ _ _ HG.out (by rw [Ds.tab_one _ _ _ _ _ _ (by omega) hs, ← H3.out]; simp [hk]), by simpa using HS2, HB2.out⟩
                case measure => simp [intOf]
            · go_wp2_with (go_at_call 173; (with_reducible refine (hS.out r (by omega) _ B).mono ?_); rintro e w1 ⟨rfl, hb⟩; have B := bt B hb; have hT := hT.below hb hlt; have hlt := Nat.lt_of_lt_of_le hlt hb.size; have c1 := below_cell hb c1; have c2 := below_cell hb c2; clear hb)
              have fz := hT.2
              have hk' : n ≤ c := by omega
              go_region
              go_wp2_with fail
              go_roundw
              case rel => exact ⟨(c : Int) - 1, c, _, by omega, rfl, by go_num, (hT.set r c (by omega) (by omega) _).drew, upd_rows _ _ _ _ _ _ _ HF.out, upd_row _ _ _ _ _ _ HG.out (by rw [Ds.tab_one _ _ _ _ _ _ (by omega) hs]; simp [hk]), by simpa using hlt, by (have hzz := (B).size; exact belA)⟩
              case measure => simp [intOf]
          · by_cases hk : c < n
            · have c3 := hT.1 r (c + 1) (by omega) (by omega)
              have H3 := Lib.hid (HG.out (c + 1) (by omega) (by omega))
              go_wp2_with (go_at_call 173; (with_reducible refine (hS.out r (by omega) _ B).mono ?_); rintro e w1 ⟨rfl, hb⟩; have B := bt B hb; have hT := hT.below hb hlt; have hlt := Nat.lt_of_lt_of_le hlt hb.size; have c1 := below_cell hb c1; have c2 := below_cell hb c2; have c3 := below_cell hb c3; clear hb)
              have fz := hT.2
              cases hv : F (r + 1) c
              · rw [hv] at c2 H2
                go_region
                go_wp2_with fail
                go_roundw
                case rel => exact ⟨(c : Int) - 1, c, _, by omega, rfl, by go_num, (hT.set r c (by omega) (by omega) _).drew, upd_rows _ _ _ _ _ _ _ HF.out, upd_row _ _ _ _ _ _ HG.out (by rw [Ds.tab_star _ _ _ _ _ _ (by omega) hs, ← H2.out, ← H3.out]; simp [hk]), by simpa using hlt, by (have hzz := (B).size; exact belA)⟩
                case measure => simp [intOf]
              · rw [hv] at c2 H2
                go_region
                go_wp2_with fail
                go_roundw
                case rel => exact ⟨(c : Int) - 1, c, _, by omega, rfl, by go_num, (hT.set r c (by omega) (by omega) _).drew, upd_rows _ _ _ _ _ _ _ HF.out, upd_row _ _ _ _ _ _ HG.out (by rw [Ds.tab_star _ _ _ _ _ _ (by omega) hs, ← H2.out]; simp), by simpa using hlt, by (have hzz := (B).size; exact belA)⟩
                case measure => simp [intOf]
            · go_wp2_with (go_at_call 173; (with_reducible refine (hS.out r (by omega) _ B).mono ?_); rintro e w1 ⟨rfl, hb⟩; have B := bt B hb; have hT := hT.below hb hlt; have hlt := Nat.lt_of_lt_of_le hlt hb.size; have c1 := below_cell hb c1; have c2 := below_cell hb c2; clear hb)
              have fz := hT.2
              have hk' : n ≤ c := by omega
              cases hv : F (r + 1) c
              all_goals
                rw [hv] at c2 H2
                go_region
                go_wp2_with fail
                go_roundw
                case rel => exact ⟨(c : Int) - 1, c, _, by omega, rfl, by go_num, (hT.set r c (by omega) (by omega) _).drew, upd_rows _ _ _ _ _ _ _ HF.out, upd_row _ _ _ _ _ _ HG.out (by rw [Ds.tab_star _ _ _ _ _ _ (by omega) hs, ← H2.out]; simp [hk]), by simpa using hlt, by (have hzz := (B).size; exact belA)⟩
                case measure => simp [intOf]
end Go.Proofs.YtdfdjfnfmibpjaaGreatDoor

end
section
/- Contracts: the closures of Match; Match. -/
namespace Go.Proofs.YtdfdjfnfmibpjaaGreatDoor
open Go.RowKit
set_option maxHeartbeats 800000
namespace Ds
theorem pieces_le0 (l : List UInt8) : (pieces l).length ≤ l.length + 1 ∧ ∀ q ∈ pieces l, q.length ≤ l.length := by
  induction l with
  | nil => simp [pieces]
  | cons c r ih =>
    simp only [pieces]
    split
    · refine ⟨by simp; omega, fun q hq => ?_⟩
      rcases List.mem_cons.1 hq with rfl | h
      · simp
      · have := ih.2 q h; simp; omega
    · cases e : pieces r with
      | nil => exact absurd e (pieces_ne r)
      | cons p ps =>
        rw [e] at ih
        refine ⟨by have := ih.1; simp at this ⊢; omega, fun q hq => ?_⟩
        rcases List.mem_cons.1 hq with rfl | h
        · have := ih.2 p (by simp); simp; omega
        · have := ih.2 q (by simp [h]); simp; omega
theorem beq_n (c : UInt8) : ((c.toNat : Int) == 42) = decide (c = 42) := by
  rw [Bool.eq_iff_iff]
  simp only [beq_iff_eq, decide_eq_true_eq]
  exact ⟨fun h => UInt8.toNat_inj.1 (by rw [show (42 : UInt8).toNat = 42 from rfl]; omega), fun h => by rw [h]; rfl⟩
theorem beq_c (c d : UInt8) : ((c.toNat : Int) == d.toNat) = decide (c = d) := by
  rw [Bool.eq_iff_iff]
  simp only [beq_iff_eq, decide_eq_true_eq]
  exact ⟨fun h => UInt8.toNat_inj.1 (by omega), fun h => by rw [h]⟩
theorem g_getD (s : ByteArray) (k : Nat) (h : k < s.size) : (bl s).getD k 0 = s[k] := by
  rw [List.getD_eq_getElem?_getD, List.getElem?_eq_getElem (by rw [bl_length]; exact h), bl_get s k h]; rfl
end Ds
theorem ds_m21 (i pq : Nat) (q : ByteArray) (w : World) (hi : i < q.size) (hc : w.cell? ⟨pq, 0, none⟩ = some (.string q)) :
    Calls Tryz.prog 175 #[.int .i64 i, .pointer (some ⟨pq, 0, none⟩)] w fun e w' => e = .returned (.bool (decide ((Ds.bl q).getD i 0 = 42))) ∧ Below w.heap.size w w' := by
  have D := Lib.hid (show ((q[i].toNat : Int) == 42) = decide ((Ds.bl q).getD i 0 = 42) by rw [Ds.beq_n, Ds.g_getD q i hi])
  go_enter Tryz.func175, Tryz.ntmps175
  go_wp2_with fail
  go_ret
  exact ⟨ret_bool D.out, Below.refl _ _⟩
theorem ds_m22 (i k pq ps : Nat) (q s : ByteArray) (w : World) (hi : i < q.size) (hk : k < s.size) (hc : w.cell? ⟨pq, 0, none⟩ = some (.string q)) (hd : w.cell? ⟨ps, 0, none⟩ = some (.string s)) :
    Calls Tryz.prog 176 #[.int .i64 i, .int .i64 k, .pointer (some ⟨pq, 0, none⟩), .pointer (some ⟨ps, 0, none⟩)] w fun e w' => e = .returned (.bool (decide ((Ds.bl q).getD i 0 = (Ds.bl s).getD k 0))) ∧ Below w.heap.size w w' := by
  have D := Lib.hid (show ((q[i].toNat : Int) == s[k].toNat) = decide ((Ds.bl q).getD i 0 = (Ds.bl s).getD k 0) by rw [Ds.beq_c, Ds.g_getD q i hi, Ds.g_getD s k hk])
  have i1 : (0 : Int) ≤ i := by omega
  have i2 : (i : Int) < q.size := by omega
  have k1 : (0 : Int) ≤ k := by omega
  have k2 : (k : Int) < s.size := by omega
  go_enter Tryz.func176, Tryz.ntmps176
  go_wp2_with fail
  go_region
  go_wp2_with fail
  go_ret
  exact ⟨ret_bool D.out, by (repeat (first | exact Below.refl _ _ | assumption | (refine Below.drew ?_) | (refine Below.alloc ?_ (by simp) _) | (refine Below.setCell ?_ (by simp) _)))⟩
/-- Match$2 behind its region -/
theorem tab_q (q s : ByteArray) :
    Ds.tab (fun i => decide ((Ds.bl q).getD i 0 = 42)) (fun i k => decide ((Ds.bl q).getD i 0 = (Ds.bl s).getD k 0)) q.size s.size 0 0 = Ds.mtQ (Ds.bl q) (Ds.bl s) := by
  have h := Ds.tab_mt (fun c : UInt8 => decide (c = 42)) (fun c d => decide (c = d)) (Ds.bl q) (Ds.bl s) (fun i => decide ((Ds.bl q).getD i 0 = 42)) (fun i k => decide ((Ds.bl q).getD i 0 = (Ds.bl s).getD k 0))
    (fun i h => by simp [h]) (fun i k h h' => by simp [h, h']) _ 0 0 (Nat.le_refl _) (Nat.zero_le _)
  rw [Ds.bl_length, Ds.bl_length] at h
  exact h
theorem tbq_m (x y : ByteArray) (pq ps : Nat) (w : World) (hxs : x.size < 40) (hys : y.size < 40) (cx : w.cell? ⟨pq, 0, none⟩ = some (.string x)) (cy : w.cell? ⟨ps, 0, none⟩ = some (.string y)) :
    Calls Tryz.prog 172 #[.int .i64 x.size, .int .i64 y.size, .func (.func 175) #[] #[.pointer (some ⟨pq, 0, none⟩)], .func (.func 176) #[] #[.pointer (some ⟨pq, 0, none⟩), .pointer (some ⟨ps, 0, none⟩)]] w fun e w' => e = .returned (.bool (Ds.mtQ (Ds.bl x) (Ds.bl y))) ∧ Below w.heap.size w w' := by
  have h := tbq x.size y.size hxs hys pq ps _ _ w (Lib.hid fun i hi w' hb => ds_m21 i pq x w' hi (below_cell hb cx)) (Lib.hid fun i k hi hk w' hb => ds_m22 i k pq ps x y w' hi hk (below_cell hb cx) (below_cell hb cy))
  rwa [tab_q] at h
theorem ds_m1 (i pa ba n c : Nat) (x : ByteArray) (w : World) (hi : i < n) (_hn : n ≤ 1000) (hp : w.cell? ⟨pa, 0, none⟩ = some (.slice (some ⟨ba, 0, none⟩) n c)) (hx : w.cell? ⟨ba, i, none⟩ = some (.string x)) :
    Calls Tryz.prog 173 #[.int .i64 i, .pointer (some ⟨pa, 0, none⟩)] w fun e w' => e = .returned (.bool (decide (Ds.bl x = [42, 42]))) ∧ Below w.heap.size w w' := by
  by_cases h : x = ⟨#[42, 42]⟩
  · have D := Lib.hid (decide_eq_true ((Ds.bl_eq x [42, 42]).1 h))
    subst h
    go_enter Tryz.func173, Tryz.ntmps173
    go_wp2_with fail
    go_ret
    exact ⟨ret_bool D.out.symm, Below.refl _ _⟩
  · have D := Lib.hid (decide_eq_false (fun e => h ((Ds.bl_eq x [42, 42]).2 e)))
    have hne := Ds.bl_beq x [42, 42] h
    clear h
    go_enter Tryz.func173, Tryz.ntmps173
    go_wp2_with fail
    go_ret
    exact ⟨ret_bool D.out.symm, Below.refl _ _⟩
theorem ds_m2 (i k pa ba n c pb bb m d : Nat) (x y : ByteArray) (w : World) (hi : i < n) (hk : k < m) (_hn : n ≤ 1000) (_hm : m ≤ 1000) (hxs : x.size < 40) (hys : y.size < 40)
    (hp : w.cell? ⟨pa, 0, none⟩ = some (.slice (some ⟨ba, 0, none⟩) n c)) (hx : w.cell? ⟨ba, i, none⟩ = some (.string x)) (hq : w.cell? ⟨pb, 0, none⟩ = some (.slice (some ⟨bb, 0, none⟩) m d)) (hy : w.cell? ⟨bb, k, none⟩ = some (.string y)) :
    Calls Tryz.prog 174 #[.int .i64 i, .int .i64 k, .pointer (some ⟨pa, 0, none⟩), .pointer (some ⟨pb, 0, none⟩)] w fun e w' => e = .returned (.bool (Ds.mtQ (Ds.bl x) (Ds.bl y))) ∧ Below w.heap.size w w' := by
  have i1 : (0 : Int) ≤ i := by omega
  have i2 : (i : Int) < n := by omega
  have k1 : (0 : Int) ≤ k := by omega
  have k2 : (k : Int) < m := by omega
  have l1 : pa < w.heap.size := block_lt_of_cell hp
  have l2 : ba < w.heap.size := block_lt_of_cell hx
  have l3 : pb < w.heap.size := block_lt_of_cell hq
  have l4 : bb < w.heap.size := block_lt_of_cell hy
  go_enter Tryz.func174, Tryz.ntmps174
  go_wp2_with fail
  go_region
  · have cx : (((w.alloc (.cells #[.string x] 9)).alloc (.cells #[.string y] 9)).drew).cell? ⟨w.heap.size, 0, none⟩ = some (.string x) := by simp [go_sem]
    have cy : (((w.alloc (.cells #[.string x] 9)).alloc (.cells #[.string y] 9)).drew).cell? ⟨w.heap.size + 1, 0, none⟩ = some (.string y) := by simp [go_sem]
    clear i1 i2 k1 k2
    go_wp2_with (go_at_call 172; (with_reducible refine (tbq_m x y _ _ _ hxs hys cx cy).mono ?_); rintro e w1 ⟨rfl, hb⟩)
    go_ret
    exact ⟨rfl, (((Below.refl _ _).alloc (Nat.le_refl _) _).alloc (by simp) _).drew.trans (hb.mono (by simp; omega))⟩
  · have cx : (((w.alloc (.cells #[.string y] 9)).alloc (.cells #[.string x] 9)).drew).cell? ⟨w.heap.size + 1, 0, none⟩ = some (.string x) := by simp [go_sem]
    have cy : (((w.alloc (.cells #[.string y] 9)).alloc (.cells #[.string x] 9)).drew).cell? ⟨w.heap.size, 0, none⟩ = some (.string y) := by simp [go_sem]
    clear i1 i2 k1 k2
    go_wp2_with (go_at_call 172; (with_reducible refine (tbq_m x y _ _ _ hxs hys cx cy).mono ?_); rintro e w1 ⟨rfl, hb⟩)
    go_ret
    exact ⟨rfl, (((Below.refl _ _).alloc (Nat.le_refl _) _).alloc (by simp) _).drew.trans (hb.mono (by simp; omega))⟩
theorem tab_p (ps ns : List ByteArray) :
    Ds.tab (fun i => decide (Ds.bl (ps.getD i ⟨#[]⟩) = [42, 42])) (fun i k => Ds.mtQ (Ds.bl (ps.getD i ⟨#[]⟩)) (Ds.bl (ns.getD k ⟨#[]⟩))) ps.length ns.length 0 0 = Ds.mtP (ps.map Ds.bl) (ns.map Ds.bl) := by
  have h := Ds.tab_mt (fun q : List UInt8 => decide (q = [42, 42])) Ds.mtQ (ps.map Ds.bl) (ns.map Ds.bl) (fun i => decide (Ds.bl (ps.getD i ⟨#[]⟩) = [42, 42])) (fun i k => Ds.mtQ (Ds.bl (ps.getD i ⟨#[]⟩)) (Ds.bl (ns.getD k ⟨#[]⟩)))
    (fun i h => by simp at h; simp [h]) (fun i k h h' => by simp at h h'; simp [h, h']) _ 0 0 (Nat.le_refl _) (Nat.zero_le _)
  rw [List.length_map, List.length_map] at h
  exact h
theorem tbp_m (ps ns : List ByteArray) (pa ba c pb bb d : Nat) (w : World) (hp : ps.length < 40) (hn : ns.length < 40) (hps : ∀ k (h : k < ps.length), ps[k].size < 40) (hns : ∀ k (h : k < ns.length), ns[k].size < 40)
    (ca : w.cell? ⟨pa, 0, none⟩ = some (.slice (some ⟨ba, 0, none⟩) ps.length c)) (cb : w.cell? ⟨pb, 0, none⟩ = some (.slice (some ⟨bb, 0, none⟩) ns.length d)) (hS : Strs w ba ps) (hT : Strs w bb ns) :
    Calls Tryz.prog 172 #[.int .i64 ps.length, .int .i64 ns.length, .func (.func 173) #[] #[.pointer (some ⟨pa, 0, none⟩)], .func (.func 174) #[] #[.pointer (some ⟨pa, 0, none⟩), .pointer (some ⟨pb, 0, none⟩)]] w fun e w' => e = .returned (.bool (Ds.mtP (ps.map Ds.bl) (ns.map Ds.bl))) ∧ Below w.heap.size w w' := by
  have g : ∀ (l : List ByteArray) k (h : k < l.length), l.getD k ⟨#[]⟩ = l[k] := fun l k h => by simp [h]
  have h := tbp ps.length ns.length hp hn pa pb (fun i => decide (Ds.bl (ps.getD i ⟨#[]⟩) = [42, 42])) (fun i k => Ds.mtQ (Ds.bl (ps.getD i ⟨#[]⟩)) (Ds.bl (ns.getD k ⟨#[]⟩))) w
    (Lib.hid fun i hi w' hb => by
      have := ds_m1 i pa ba ps.length c ps[i] w' hi (by omega) (below_cell hb ca) (below_cell hb (hS i hi))
      simp only [g ps i hi]; exact this)
    (Lib.hid fun i k hi hk w' hb => by
      have := ds_m2 i k pa ba ps.length c pb bb ns.length d ps[i] ns[k] w' hi hk (by omega) (by omega) (hps i hi) (hns k hk) (below_cell hb ca) (below_cell hb (hS i hi)) (below_cell hb cb) (below_cell hb (hT k hk))
      simp only [g ps i hi, g ns k hk]; exact this)
  rwa [tab_p] at h
namespace Ds
theorem match_no (p s : List UInt8) (h : pat p = false ∨ name s = false) : match_ p s = false := by
  unfold match_
  rcases h with h | h <;> simp [h]
theorem match_yes (p s : List UInt8) (h : pat p = true) (h' : name s = true) : match_ p s = mtP (pieces p) (pieces s) := by
  unfold match_; rw [h, h']; rfl
theorem piece_bd {ps : List ByteArray} {s : ByteArray} (h : ps.map bl = pieces (bl s)) (hs : s.size ≤ 31) (k : Nat) (hk : k < ps.length) : ps[k].size < 40 := by
  have := (pieces_le0 (bl s)).2 (bl ps[k]) (by rw [← h]; exact List.mem_map_of_mem (List.getElem_mem hk))
  rw [bl_length, bl_length] at this; omega
end Ds
theorem pat_size (s : ByteArray) (hn : Ds.pat (Ds.bl s) = true) : s.size ≤ 31 := by
  have := ((Ds.pat_parts _).1 hn).1.2
  rwa [Ds.bl_length] at this
theorem tbp_w (ps ns : List ByteArray) (w : World) (hp : ps.length < 40) (hn : ns.length < 40) (hps : Hid (∀ k (h : k < ps.length), ps[k].size < 40)) (hns : Hid (∀ k (h : k < ns.length), ns[k].size < 40)) :
    Calls Tryz.prog 172 #[.int .i64 ps.length, .int .i64 ns.length, .func (.func 173) #[] #[.pointer (some ⟨w.heap.size + 1 + 1, 0, none⟩)], .func (.func 174) #[] #[.pointer (some ⟨w.heap.size + 1 + 1, 0, none⟩), .pointer (some ⟨w.heap.size + 1 + 1 + 1, 0, none⟩)]]
      ((((w.alloc (.cells (ps.map Value.string).toArray 9)).alloc (.cells (ns.map Value.string).toArray 9)).alloc (.cells #[.slice (some ⟨w.heap.size, 0, none⟩) ps.length ps.length] 33)).alloc (.cells #[.slice (some ⟨w.heap.size + 1, 0, none⟩) ns.length ns.length] 33))
      fun e w' => e = .returned (.bool (Ds.mtP (ps.map Ds.bl) (ns.map Ds.bl))) ∧ Below w.heap.size w w' := by
  have hS := (Strs.new w ps 9).below ((((Below.refl _ _).alloc (Nat.le_refl _) (.cells (ns.map Value.string).toArray 9)).alloc (by simp) (.cells #[.slice (some ⟨w.heap.size, 0, none⟩) ps.length ps.length] 33)).alloc (by simp) (.cells #[.slice (some ⟨w.heap.size + 1, 0, none⟩) ns.length ns.length] 33))
  have hT := (Strs.new (w.alloc (.cells (ps.map Value.string).toArray 9)) ns 9).below (((Below.refl _ _).alloc (Nat.le_refl _) (.cells #[.slice (some ⟨w.heap.size, 0, none⟩) ps.length ps.length] 33)).alloc (by simp) (.cells #[.slice (some ⟨w.heap.size + 1, 0, none⟩) ns.length ns.length] 33))
  rw [show (w.alloc (.cells (ps.map Value.string).toArray 9)).heap.size = w.heap.size + 1 by simp] at hT
  refine (tbp_m ps ns (w.heap.size + 1 + 1) w.heap.size ps.length (w.heap.size + 1 + 1 + 1) (w.heap.size + 1) ns.length _ hp hn hps.out hns.out (by simp [go_sem]) (by simp [go_sem]) hS hT).mono ?_
  rintro e w' ⟨he, hb⟩
  refine ⟨he, ?_⟩
  exact ((((((Below.refl w.heap.size w).alloc (Nat.le_refl _) _).alloc (by simp) _).alloc (by simp; omega) _).alloc (by simp; omega) _).trans (hb.mono (by simp; omega)))
theorem ds_match (p s : ByteArray) (w : World) (hm : MaxL w) :
    Calls Tryz.prog 99 #[.string p, .string s] w fun e w' => e = .returned (.bool (Ds.match_ (Ds.bl p) (Ds.bl s))) ∧ Below w.heap.size w w' := by
  have B := Below.refl w.heap.size w
  cases hp : Ds.pat (Ds.bl p)
  · have D := Lib.hid (Ds.match_no (Ds.bl p) (Ds.bl s) (.inl hp))
    go_enter Tryz.func99, Tryz.ntmps99
    go_wp2_with (go_at_call 97; (with_reducible refine (ds_pat _ _ hm).mono ?_); rintro e w1 ⟨rfl, hb⟩; have B := bt B hb; have hm := hm.below hb; clear hb)
    go_ret
    exact ⟨ret_bool D.out.symm, B⟩
  cases hs : Ds.name (Ds.bl s)
  · have D := Lib.hid (Ds.match_no (Ds.bl p) (Ds.bl s) (.inr hs))
    go_enter Tryz.func99, Tryz.ntmps99
    go_wp2_with (first | (go_at_call 97; (with_reducible refine (ds_pat _ _ hm).mono ?_); rintro e w1 ⟨rfl, hb⟩; have B := bt B hb; have hm := hm.below hb; clear hb) | (go_at_call 92; (with_reducible refine (ds_valid _ _ hm).mono ?_); rintro e w1 ⟨rfl, hb⟩; have B := bt B hb; have hm := hm.below hb; clear hb))
    go_ret
    exact ⟨ret_bool D.out.symm, B⟩
  have D := Lib.hid (Ds.match_yes (Ds.bl p) (Ds.bl s) hp hs)
  have p1 := pat_size p hp
  have s1 := pat_size s (Ds.name_pat _ hs)
  have p2 : p.size < 4294967281 := by omega
  have s2 : s.size < 4294967281 := by omega
  go_enter Tryz.func99, Tryz.ntmps99
  go_wp2_with (first | (go_at_call 97; (with_reducible refine (ds_pat _ _ hm).mono ?_); rintro e w1 ⟨rfl, hb⟩; have B := bt B hb; have hm := hm.below hb; clear hb) | (go_at_call 92; (with_reducible refine (ds_valid _ _ hm).mono ?_); rintro e w1 ⟨rfl, hb⟩; have B := bt B hb; have hm := hm.below hb; clear hb) | (go_at_call 171; (with_reducible refine (split_dot p _ p2 hm).mono ?_); rintro e w' ⟨ps, hpl, hpp, rfl, rfl⟩; have HP := Lib.hid hpp; clear hpp; have hm := hm.below ((Below.refl _ _).alloc (Nat.le_refl _) (Obj.cells (ps.map Value.string).toArray 9 (0, 0)))) | (go_at_call 171; (with_reducible refine (split_dot s _ s2 hm).mono ?_); rintro e w' ⟨ns, hnl, hnn, rfl, rfl⟩; have HN := Lib.hid hnn; clear hnn))
  have q1 : ps.length < 40 := by omega
  have q2 : ns.length < 40 := by omega
  have q3 := Lib.hid (Ds.piece_bd HP.out p1)
  have q4 := Lib.hid (Ds.piece_bd HN.out s1)
  go_wp2_with (go_at_call 172; (with_reducible refine (tbp_w ps ns w1 q1 q2 q3 q4).mono ?_); rintro e w2 ⟨rfl, hb⟩)
  go_ret
  exact ⟨ret_bool (by rw [D.out, HP.out, HN.out]), bt B hb⟩
end Go.Proofs.YtdfdjfnfmibpjaaGreatDoor

end
