/- Several texts in one: DsF DsG. -/
import Derived.Test.YteeenpimaepieaaGreatDoorDsA
import Derived.Test.YteeenpimaepieaaGreatDoorTbl
import Derived.RegionTactic
import Derived.BigQuiet
import Derived.Deep.QuietTactic
import Derived.Deep.RegionHeld3
import Derived.IntWalk
section
/- Contracts: table at the qualifiers' bytes. -/
namespace Go.Proofs.YteeenpimaepieaaGreatDoor
open Go.RowKit
set_option maxHeartbeats 2000000
set_option maxRecDepth 3000
attribute [local go_sem ↓] exec_alloc_tab
theorem tbq (p n : Nat) (hp : p < 40) (hn : n < 40) (pq ps : Nat) (S : Nat → Bool) (O : Nat → Nat → Bool) (w : World)
    (hS : Hid (∀ i : Nat, i < p → ∀ w', Below w.heap.size w w' → Calls Tryz.prog 254 #[.int .i64 i, .pointer (some ⟨pq, 0, none⟩)] w' fun e w'' => e = .returned (.bool (S i)) ∧ Below w'.heap.size w' w''))
    (hO : Hid (∀ i k : Nat, i < p → k < n → ∀ w', Below w.heap.size w w' → Calls Tryz.prog 255 #[.int .i64 i, .int .i64 k, .pointer (some ⟨pq, 0, none⟩), .pointer (some ⟨ps, 0, none⟩)] w' fun e w'' => e = .returned (.bool (O i k)) ∧ Below w'.heap.size w' w'')) :
    Calls Tryz.prog 251 #[.int .i64 p, .int .i64 n, .func (.func 254) #[] #[.pointer (some ⟨pq, 0, none⟩)], .func (.func 255) #[] #[.pointer (some ⟨pq, 0, none⟩), .pointer (some ⟨ps, 0, none⟩)]] w fun e w' => e = .returned (.bool (Ds.tab S O p n 0 0)) ∧ Below w.heap.size w w' := by
  have hz : zTab[p * 40 + n]? = some (.bool false) := zTab_get _ (by omega)
  go_enter Tryz.func251, Tryz.ntmps251
  go_wp2_with fail
  clear hz
  go_loopw [10, 11] (fun i _ wr => ∃ (q : Int) (r : Nat) (F : Nat → Nat → Bool), r ≤ p ∧ q = (r : Int) - 1 ∧ i = .int .i64 q ∧ TI wr w.heap.size F ∧ (∀ r' c, r ≤ r' → r' ≤ p → c ≤ n → F r' c = Ds.tab S O p n r' c) ∧ w.heap.size < wr.heap.size ∧ Below w.heap.size w wr) (fun i _ _ => (intOf i + 1).toNat)
  case atStart =>
    refine ⟨(p : Int) - 1, p, fun r c => if r = p ∧ c = n then true else false, by omega, rfl, by go_num, by have h := (TI.new w).set p n hp hn true; simpa [go_sem] using h, ?_, by simp, by (repeat (first | exact Below.refl _ _ | assumption | (refine Below.drew ?_) | (refine Below.alloc ?_ (by simp) _) | (refine Below.setCell ?_ (by simp) _)))⟩
    intro r' c h1 h2 h3
    obtain rfl : r' = p := by omega
    rw [Ds.tab_end _ _ _ _ _ _ (by omega)]
    by_cases hc : c = n <;> simp [hc]
  case round =>
    obtain ⟨q, r, F, hr, hq, rfl, hT, hF, hlt, B⟩ := hrel
    have HF := Lib.hid hF
    clear hF
    rcases r with _ | r
    · obtain rfl : q = -1 := by omega
      have c0 := hT.1 0 0 (by omega) (by omega)
      have H0 := Lib.hid (HF.out 0 0 (by omega) (by omega) (by omega))
      clear hq
      go_wp2_with fail
      go_ret
      exact ⟨ret_bool H0.out, B⟩
    · obtain rfl : q = r := by omega
      clear hq
      go_wp2_with fail
      go_loopw [11] (fun k wr => ∃ (q : Int) (c : Nat) (F : Nat → Nat → Bool), c ≤ n + 1 ∧ q = (c : Int) - 1 ∧ k = .int .i64 q ∧ TI wr w.heap.size F ∧ (∀ r' c', r + 1 ≤ r' → r' ≤ p → c' ≤ n → F r' c' = Ds.tab S O p n r' c') ∧ (∀ c', c ≤ c' → c' ≤ n → F r c' = Ds.tab S O p n r c') ∧ w.heap.size < wr.heap.size ∧ Below w.heap.size w wr) (fun k _ => (intOf k + 1).toNat)
      case atStart => exact ⟨n, n + 1, F, by omega, by omega, rfl, hT, HF.out, by intro c' h1 h2; omega, hlt, B⟩
      case round =>
        clear HF hT hlt B
        obtain ⟨q, c, F, hc, hq, rfl, hT, hF, hG, hlt, B⟩ := hrel
        have HF := Lib.hid hF
        have HG := Lib.hid hG
        clear hF hG
        rcases c with _ | c
        · obtain rfl : q = -1 := by omega
          clear hq
          go_wp2_with fail
          go_roundw
          case rel =>
            refine ⟨(r : Int) - 1, r, F, by omega, rfl, by go_num, hT, ?_, hlt, B⟩
            intro r' c' h1 h2 h3
            rcases Nat.lt_or_ge r r' with h | h
            · exact HF.out r' c' h h2 h3
            · obtain rfl : r' = r := by omega
              exact HG.out c' (by omega) h3
          case measure => simp [intOf]
        · obtain rfl : q = c := by omega
          clear hq
          have hcn : c ≤ n := by omega
          have c2 := hT.1 (r + 1) c (by omega) (by omega)
          have H2 := Lib.hid (HF.out (r + 1) c (by omega) (by omega) hcn)
          have c1 := hT.1 r c (by omega) (by omega)
          have fz := hT.2
          cases hs : S r
          · by_cases hk : c < n
            · have c3 := hT.1 (r + 1) (c + 1) (by omega) (by omega)
              have H3 := Lib.hid (HF.out (r + 1) (c + 1) (by omega) (by omega) (by omega))
              go_wp2_with (go_at_call 254; (with_reducible refine (hS.out r (by omega) _ B).mono ?_); rintro e w1 ⟨rfl, hb⟩; have B := bt B hb; have hT := hT.below hb hlt; have hlt := Nat.lt_of_lt_of_le hlt hb.size; have c1 := below_cell hb c1; have c2 := below_cell hb c2; clear hb)
              have fz := hT.2
              have c3 := hT.1 (r + 1) (c + 1) (by omega) (by omega)
              cases hv : F (r + 1) (c + 1)
              · rw [hv] at c3 H3
                go_region
                go_wp2_with fail
                go_roundw
                case rel => exact ⟨(c : Int) - 1, c, _, by omega, rfl, by go_num, (hT.set r c (by omega) (by omega) _).drew, upd_rows _ _ _ _ _ _ _ HF.out, upd_row _ _ _ _ _ _ HG.out (by rw [Ds.tab_one _ _ _ _ _ _ (by omega) hs, ← H3.out]; simp), by simpa using hlt, by (have hzz := (B).size; (repeat (first | exact Below.refl _ _ | assumption | (refine Below.drew ?_) | (refine Below.alloc ?_ (by first | (simp; done) | (simp; omega) | omega) _) | (refine Below.setCell ?_ (by first | (simp; done) | (simp; omega) | omega) _))))⟩
                case measure => simp [intOf]
              · rw [hv] at c3 H3
                have b1 : r + 1 < 40 := by omega
                have b2 : c + 1 < 40 := by omega
                have b3 : (r : Int) + 1 < 40 := by omega
                have b4 : (c : Int) + 1 < 40 := by omega
                have b5 : (0 : Int) ≤ (r : Int) + 1 := by omega
                have b6 : (0 : Int) ≤ (c : Int) + 1 := by omega
                have b7 : IntKind.i64.wrap ((r : Int) + 1) = (r : Int) + 1 := IntWalk.i64_in _ (by omega)
                have b8 : IntKind.i64.wrap ((c : Int) + 1) = (c : Int) + 1 := IntWalk.i64_in _ (by omega)
                have b9 : (r : Int) < 40 := by omega
                have b10 : (c : Int) < 40 := by omega
                have b11 : (0 : Int) ≤ (r : Int) := by omega
                have b12 : (0 : Int) ≤ (c : Int) := by omega
                have b13 : ((r : Int) + 1).toNat = r + 1 := by omega
                have b14 : ((c : Int) + 1).toNat = c + 1 := by omega
                have BD := B.drew
                have S0 := SJ.start hT b1 b2 hv hlt B
                have H0 := Lib.hid S0
                clear S0
                go_region_held3 (fun w' => w'.cell? ⟨w.heap.size, (r + 1) * 40 + (c + 1), none⟩ = some (.bool true) ∧ w'.cell? ⟨w.heap.size, r * 40 + c, none⟩ = some (.bool (bvc w' w.heap.size (r * 40 + c))) ∧ (∀ o, w'.frozen? ⟨w.heap.size, o, none⟩ = false) ∧ TJ w' w.heap.size F r c ∧ w.heap.size < w'.heap.size ∧ Below w.heap.size w w') (first | exact H0.out | exact SJ.call hb (by assumption) | exact SJ.store b1 b2 _ (by assumption)) (first | (go_at_call 255; (with_reducible refine (hO.out r c (by omega) (by omega) _ (by first | exact BD | (have hh := (by assumption : SJ w w.heap.size F r c _); exact hh.2.2.2.2.2))).mono ?_); rintro e w2 ⟨rfl, hb⟩))
                have S2 := SJ.call hb H0.out
                have HT2 := Lib.hid (S2.2.2.2.1.set (by omega) (by omega) (O r c))
                have HB2 := Lib.hid (S2.2.2.2.2.2.setCell (p := ⟨w.heap.size, r * 40 + c, none⟩) (Nat.le_refl _) (.bool (O r c)))
                have HS2 := S2.2.2.2.2.1
                clear b3 b4 b5 b6 b7 b8 b9 b10 b11 b12 b13 b14 S2
                go_wp2_with fail
                go_roundw
                case rel => exact ⟨(c : Int) - 1, c, _, by omega, rfl, by go_num, HT2.out, upd_rows _ _ _ _ _ _ _ HF.out, upd_row _ _ _ _ _ _ HG.out (by rw [Ds.tab_one _ _ _ _ _ _ (by omega) hs, ← H3.out]; simp [hk]), by simpa using HS2, HB2.out⟩
                case measure => simp [intOf]
            · go_wp2_with (go_at_call 254; (with_reducible refine (hS.out r (by omega) _ B).mono ?_); rintro e w1 ⟨rfl, hb⟩; have B := bt B hb; have hT := hT.below hb hlt; have hlt := Nat.lt_of_lt_of_le hlt hb.size; have c1 := below_cell hb c1; have c2 := below_cell hb c2; clear hb)
              have fz := hT.2
              have hk' : n ≤ c := by omega
              go_region
              go_wp2_with fail
              go_roundw
              case rel => exact ⟨(c : Int) - 1, c, _, by omega, rfl, by go_num, (hT.set r c (by omega) (by omega) _).drew, upd_rows _ _ _ _ _ _ _ HF.out, upd_row _ _ _ _ _ _ HG.out (by rw [Ds.tab_one _ _ _ _ _ _ (by omega) hs]; simp [hk]), by simpa using hlt, by (have hzz := (B).size; (repeat (first | exact Below.refl _ _ | assumption | (refine Below.drew ?_) | (refine Below.alloc ?_ (by first | (simp; done) | (simp; omega) | omega) _) | (refine Below.setCell ?_ (by first | (simp; done) | (simp; omega) | omega) _))))⟩
              case measure => simp [intOf]
          · by_cases hk : c < n
            · have c3 := hT.1 r (c + 1) (by omega) (by omega)
              have H3 := Lib.hid (HG.out (c + 1) (by omega) (by omega))
              go_wp2_with (go_at_call 254; (with_reducible refine (hS.out r (by omega) _ B).mono ?_); rintro e w1 ⟨rfl, hb⟩; have B := bt B hb; have hT := hT.below hb hlt; have hlt := Nat.lt_of_lt_of_le hlt hb.size; have c1 := below_cell hb c1; have c2 := below_cell hb c2; have c3 := below_cell hb c3; clear hb)
              have fz := hT.2
              cases hv : F (r + 1) c
              · rw [hv] at c2 H2
                go_region
                go_wp2_with fail
                go_roundw
                case rel => exact ⟨(c : Int) - 1, c, _, by omega, rfl, by go_num, (hT.set r c (by omega) (by omega) _).drew, upd_rows _ _ _ _ _ _ _ HF.out, upd_row _ _ _ _ _ _ HG.out (by rw [Ds.tab_star _ _ _ _ _ _ (by omega) hs, ← H2.out, ← H3.out]; simp [hk]), by simpa using hlt, by (have hzz := (B).size; (repeat (first | exact Below.refl _ _ | assumption | (refine Below.drew ?_) | (refine Below.alloc ?_ (by first | (simp; done) | (simp; omega) | omega) _) | (refine Below.setCell ?_ (by first | (simp; done) | (simp; omega) | omega) _))))⟩
                case measure => simp [intOf]
              · rw [hv] at c2 H2
                go_region
                go_wp2_with fail
                go_roundw
                case rel => exact ⟨(c : Int) - 1, c, _, by omega, rfl, by go_num, (hT.set r c (by omega) (by omega) _).drew, upd_rows _ _ _ _ _ _ _ HF.out, upd_row _ _ _ _ _ _ HG.out (by rw [Ds.tab_star _ _ _ _ _ _ (by omega) hs, ← H2.out]; simp), by simpa using hlt, by (have hzz := (B).size; (repeat (first | exact Below.refl _ _ | assumption | (refine Below.drew ?_) | (refine Below.alloc ?_ (by first | (simp; done) | (simp; omega) | omega) _) | (refine Below.setCell ?_ (by first | (simp; done) | (simp; omega) | omega) _))))⟩
                case measure => simp [intOf]
            · go_wp2_with (go_at_call 254; (with_reducible refine (hS.out r (by omega) _ B).mono ?_); rintro e w1 ⟨rfl, hb⟩; have B := bt B hb; have hT := hT.below hb hlt; have hlt := Nat.lt_of_lt_of_le hlt hb.size; have c1 := below_cell hb c1; have c2 := below_cell hb c2; clear hb)
              have fz := hT.2
              have hk' : n ≤ c := by omega
              cases hv : F (r + 1) c
              all_goals
                rw [hv] at c2 H2
                go_region
                go_wp2_with fail
                go_roundw
                case rel => exact ⟨(c : Int) - 1, c, _, by omega, rfl, by go_num, (hT.set r c (by omega) (by omega) _).drew, upd_rows _ _ _ _ _ _ _ HF.out, upd_row _ _ _ _ _ _ HG.out (by rw [Ds.tab_star _ _ _ _ _ _ (by omega) hs, ← H2.out]; simp [hk]), by simpa using hlt, by (have hzz := (B).size; (repeat (first | exact Below.refl _ _ | assumption | (refine Below.drew ?_) | (refine Below.alloc ?_ (by first | (simp; done) | (simp; omega) | omega) _) | (refine Below.setCell ?_ (by first | (simp; done) | (simp; omega) | omega) _))))⟩
                case measure => simp [intOf]
end Go.Proofs.YteeenpimaepieaaGreatDoor

end
section
/- Contracts: table at the qualifiers. -/
namespace Go.Proofs.YteeenpimaepieaaGreatDoor
open Go.RowKit
set_option maxHeartbeats 2000000
set_option maxRecDepth 3000
attribute [local go_sem ↓] exec_alloc_tab
theorem tbp (p n : Nat) (hp : p < 40) (hn : n < 40) (pq ps : Nat) (S : Nat → Bool) (O : Nat → Nat → Bool) (w : World)
    (hS : Hid (∀ i : Nat, i < p → ∀ w', Below w.heap.size w w' → Calls Tryz.prog 252 #[.int .i64 i, .pointer (some ⟨pq, 0, none⟩)] w' fun e w'' => e = .returned (.bool (S i)) ∧ Below w'.heap.size w' w''))
    (hO : Hid (∀ i k : Nat, i < p → k < n → ∀ w', Below w.heap.size w w' → Calls Tryz.prog 253 #[.int .i64 i, .int .i64 k, .pointer (some ⟨pq, 0, none⟩), .pointer (some ⟨ps, 0, none⟩)] w' fun e w'' => e = .returned (.bool (O i k)) ∧ Below w'.heap.size w' w'')) :
    Calls Tryz.prog 251 #[.int .i64 p, .int .i64 n, .func (.func 252) #[] #[.pointer (some ⟨pq, 0, none⟩)], .func (.func 253) #[] #[.pointer (some ⟨pq, 0, none⟩), .pointer (some ⟨ps, 0, none⟩)]] w fun e w' => e = .returned (.bool (Ds.tab S O p n 0 0)) ∧ Below w.heap.size w w' := by
  have hz : zTab[p * 40 + n]? = some (.bool false) := zTab_get _ (by omega)
  go_enter Tryz.func251, Tryz.ntmps251
  go_wp2_with fail
  clear hz
  go_loopw [10, 11] (fun i _ wr => ∃ (q : Int) (r : Nat) (F : Nat → Nat → Bool), r ≤ p ∧ q = (r : Int) - 1 ∧ i = .int .i64 q ∧ TI wr w.heap.size F ∧ (∀ r' c, r ≤ r' → r' ≤ p → c ≤ n → F r' c = Ds.tab S O p n r' c) ∧ w.heap.size < wr.heap.size ∧ Below w.heap.size w wr) (fun i _ _ => (intOf i + 1).toNat)
  case atStart =>
    refine ⟨(p : Int) - 1, p, fun r c => if r = p ∧ c = n then true else false, by omega, rfl, by go_num, by have h := (TI.new w).set p n hp hn true; simpa [go_sem] using h, ?_, by simp, by (repeat (first | exact Below.refl _ _ | assumption | (refine Below.drew ?_) | (refine Below.alloc ?_ (by simp) _) | (refine Below.setCell ?_ (by simp) _)))⟩
    intro r' c h1 h2 h3
    obtain rfl : r' = p := by omega
    rw [Ds.tab_end _ _ _ _ _ _ (by omega)]
    by_cases hc : c = n <;> simp [hc]
  case round =>
    obtain ⟨q, r, F, hr, hq, rfl, hT, hF, hlt, B⟩ := hrel
    have HF := Lib.hid hF
    clear hF
    rcases r with _ | r
    · obtain rfl : q = -1 := by omega
      have c0 := hT.1 0 0 (by omega) (by omega)
      have H0 := Lib.hid (HF.out 0 0 (by omega) (by omega) (by omega))
      clear hq
      go_wp2_with fail
      go_ret
      exact ⟨ret_bool H0.out, B⟩
    · obtain rfl : q = r := by omega
      clear hq
      go_wp2_with fail
      go_loopw [11] (fun k wr => ∃ (q : Int) (c : Nat) (F : Nat → Nat → Bool), c ≤ n + 1 ∧ q = (c : Int) - 1 ∧ k = .int .i64 q ∧ TI wr w.heap.size F ∧ (∀ r' c', r + 1 ≤ r' → r' ≤ p → c' ≤ n → F r' c' = Ds.tab S O p n r' c') ∧ (∀ c', c ≤ c' → c' ≤ n → F r c' = Ds.tab S O p n r c') ∧ w.heap.size < wr.heap.size ∧ Below w.heap.size w wr) (fun k _ => (intOf k + 1).toNat)
      case atStart => exact ⟨n, n + 1, F, by omega, by omega, rfl, hT, HF.out, by intro c' h1 h2; omega, hlt, B⟩
      case round =>
        clear HF hT hlt B
        obtain ⟨q, c, F, hc, hq, rfl, hT, hF, hG, hlt, B⟩ := hrel
        have HF := Lib.hid hF
        have HG := Lib.hid hG
        clear hF hG
        rcases c with _ | c
        · obtain rfl : q = -1 := by omega
          clear hq
          go_wp2_with fail
          go_roundw
          case rel =>
            refine ⟨(r : Int) - 1, r, F, by omega, rfl, by go_num, hT, ?_, hlt, B⟩
            intro r' c' h1 h2 h3
            rcases Nat.lt_or_ge r r' with h | h
            · exact HF.out r' c' h h2 h3
            · obtain rfl : r' = r := by omega
              exact HG.out c' (by omega) h3
          case measure => simp [intOf]
        · obtain rfl : q = c := by omega
          clear hq
          have hcn : c ≤ n := by omega
          have c2 := hT.1 (r + 1) c (by omega) (by omega)
          have H2 := Lib.hid (HF.out (r + 1) c (by omega) (by omega) hcn)
          have c1 := hT.1 r c (by omega) (by omega)
          have fz := hT.2
          cases hs : S r
          · by_cases hk : c < n
            · have c3 := hT.1 (r + 1) (c + 1) (by omega) (by omega)
              have H3 := Lib.hid (HF.out (r + 1) (c + 1) (by omega) (by omega) (by omega))
              go_wp2_with (go_at_call 252; (with_reducible refine (hS.out r (by omega) _ B).mono ?_); rintro e w1 ⟨rfl, hb⟩; have B := bt B hb; have hT := hT.below hb hlt; have hlt := Nat.lt_of_lt_of_le hlt hb.size; have c1 := below_cell hb c1; have c2 := below_cell hb c2; clear hb)
              have fz := hT.2
              have c3 := hT.1 (r + 1) (c + 1) (by omega) (by omega)
              cases hv : F (r + 1) (c + 1)
              · rw [hv] at c3 H3
                go_region
                go_wp2_with fail
                go_roundw
                case rel => exact ⟨(c : Int) - 1, c, _, by omega, rfl, by go_num, (hT.set r c (by omega) (by omega) _).drew, upd_rows _ _ _ _ _ _ _ HF.out, upd_row _ _ _ _ _ _ HG.out (by rw [Ds.tab_one _ _ _ _ _ _ (by omega) hs, ← H3.out]; simp), by simpa using hlt, by (have hzz := (B).size; (repeat (first | exact Below.refl _ _ | assumption | (refine Below.drew ?_) | (refine Below.alloc ?_ (by first | (simp; done) | (simp; omega) | omega) _) | (refine Below.setCell ?_ (by first | (simp; done) | (simp; omega) | omega) _))))⟩
                case measure => simp [intOf]
              · rw [hv] at c3 H3
                have b1 : r + 1 < 40 := by omega
                have b2 : c + 1 < 40 := by omega
                have b3 : (r : Int) + 1 < 40 := by omega
                have b4 : (c : Int) + 1 < 40 := by omega
                have b5 : (0 : Int) ≤ (r : Int) + 1 := by omega
                have b6 : (0 : Int) ≤ (c : Int) + 1 := by omega
                have b7 : IntKind.i64.wrap ((r : Int) + 1) = (r : Int) + 1 := IntWalk.i64_in _ (by omega)
                have b8 : IntKind.i64.wrap ((c : Int) + 1) = (c : Int) + 1 := IntWalk.i64_in _ (by omega)
                have b9 : (r : Int) < 40 := by omega
                have b10 : (c : Int) < 40 := by omega
                have b11 : (0 : Int) ≤ (r : Int) := by omega
                have b12 : (0 : Int) ≤ (c : Int) := by omega
                have b13 : ((r : Int) + 1).toNat = r + 1 := by omega
                have b14 : ((c : Int) + 1).toNat = c + 1 := by omega
                have BD := B.drew
                have S0 := SJ.start hT b1 b2 hv hlt B
                have H0 := Lib.hid S0
                clear S0
                go_region_held3 (fun w' => w'.cell? ⟨w.heap.size, (r + 1) * 40 + (c + 1), none⟩ = some (.bool true) ∧ w'.cell? ⟨w.heap.size, r * 40 + c, none⟩ = some (.bool (bvc w' w.heap.size (r * 40 + c))) ∧ (∀ o, w'.frozen? ⟨w.heap.size, o, none⟩ = false) ∧ TJ w' w.heap.size F r c ∧ w.heap.size < w'.heap.size ∧ Below w.heap.size w w') (first | exact H0.out | exact SJ.call hb (by assumption) | exact SJ.store b1 b2 _ (by assumption)) (first | (go_at_call 253; (with_reducible refine (hO.out r c (by omega) (by omega) _ (by first | exact BD | (have hh := (by assumption : SJ w w.heap.size F r c _); exact hh.2.2.2.2.2))).mono ?_); rintro e w2 ⟨rfl, hb⟩))
                have S2 := SJ.call hb H0.out
                have HT2 := Lib.hid (S2.2.2.2.1.set (by omega) (by omega) (O r c))
                have HB2 := Lib.hid (S2.2.2.2.2.2.setCell (p := ⟨w.heap.size, r * 40 + c, none⟩) (Nat.le_refl _) (.bool (O r c)))
                have HS2 := S2.2.2.2.2.1
                clear b3 b4 b5 b6 b7 b8 b9 b10 b11 b12 b13 b14 S2
                go_wp2_with fail
                go_roundw
                case rel => exact ⟨(c : Int) - 1, c, _, by omega, rfl, by go_num, HT2.out, upd_rows _ _ _ _ _ _ _ HF.out, upd_row _ _ _ _ _ _ HG.out (by rw [Ds.tab_one _ _ _ _ _ _ (by omega) hs, ← H3.out]; simp [hk]), by simpa using HS2, HB2.out⟩
                case measure => simp [intOf]
            · go_wp2_with (go_at_call 252; (with_reducible refine (hS.out r (by omega) _ B).mono ?_); rintro e w1 ⟨rfl, hb⟩; have B := bt B hb; have hT := hT.below hb hlt; have hlt := Nat.lt_of_lt_of_le hlt hb.size; have c1 := below_cell hb c1; have c2 := below_cell hb c2; clear hb)
              have fz := hT.2
              have hk' : n ≤ c := by omega
              go_region
              go_wp2_with fail
              go_roundw
              case rel => exact ⟨(c : Int) - 1, c, _, by omega, rfl, by go_num, (hT.set r c (by omega) (by omega) _).drew, upd_rows _ _ _ _ _ _ _ HF.out, upd_row _ _ _ _ _ _ HG.out (by rw [Ds.tab_one _ _ _ _ _ _ (by omega) hs]; simp [hk]), by simpa using hlt, by (have hzz := (B).size; (repeat (first | exact Below.refl _ _ | assumption | (refine Below.drew ?_) | (refine Below.alloc ?_ (by first | (simp; done) | (simp; omega) | omega) _) | (refine Below.setCell ?_ (by first | (simp; done) | (simp; omega) | omega) _))))⟩
              case measure => simp [intOf]
          · by_cases hk : c < n
            · have c3 := hT.1 r (c + 1) (by omega) (by omega)
              have H3 := Lib.hid (HG.out (c + 1) (by omega) (by omega))
              go_wp2_with (go_at_call 252; (with_reducible refine (hS.out r (by omega) _ B).mono ?_); rintro e w1 ⟨rfl, hb⟩; have B := bt B hb; have hT := hT.below hb hlt; have hlt := Nat.lt_of_lt_of_le hlt hb.size; have c1 := below_cell hb c1; have c2 := below_cell hb c2; have c3 := below_cell hb c3; clear hb)
              have fz := hT.2
              cases hv : F (r + 1) c
              · rw [hv] at c2 H2
                go_region
                go_wp2_with fail
                go_roundw
                case rel => exact ⟨(c : Int) - 1, c, _, by omega, rfl, by go_num, (hT.set r c (by omega) (by omega) _).drew, upd_rows _ _ _ _ _ _ _ HF.out, upd_row _ _ _ _ _ _ HG.out (by rw [Ds.tab_star _ _ _ _ _ _ (by omega) hs, ← H2.out, ← H3.out]; simp [hk]), by simpa using hlt, by (have hzz := (B).size; (repeat (first | exact Below.refl _ _ | assumption | (refine Below.drew ?_) | (refine Below.alloc ?_ (by first | (simp; done) | (simp; omega) | omega) _) | (refine Below.setCell ?_ (by first | (simp; done) | (simp; omega) | omega) _))))⟩
                case measure => simp [intOf]
              · rw [hv] at c2 H2
                go_region
                go_wp2_with fail
                go_roundw
                case rel => exact ⟨(c : Int) - 1, c, _, by omega, rfl, by go_num, (hT.set r c (by omega) (by omega) _).drew, upd_rows _ _ _ _ _ _ _ HF.out, upd_row _ _ _ _ _ _ HG.out (by rw [Ds.tab_star _ _ _ _ _ _ (by omega) hs, ← H2.out]; simp), by simpa using hlt, by (have hzz := (B).size; (repeat (first | exact Below.refl _ _ | assumption | (refine Below.drew ?_) | (refine Below.alloc ?_ (by first | (simp; done) | (simp; omega) | omega) _) | (refine Below.setCell ?_ (by first | (simp; done) | (simp; omega) | omega) _))))⟩
                case measure => simp [intOf]
            · go_wp2_with (go_at_call 252; (with_reducible refine (hS.out r (by omega) _ B).mono ?_); rintro e w1 ⟨rfl, hb⟩; have B := bt B hb; have hT := hT.below hb hlt; have hlt := Nat.lt_of_lt_of_le hlt hb.size; have c1 := below_cell hb c1; have c2 := below_cell hb c2; clear hb)
              have fz := hT.2
              have hk' : n ≤ c := by omega
              cases hv : F (r + 1) c
              all_goals
                rw [hv] at c2 H2
                go_region
                go_wp2_with fail
                go_roundw
                case rel => exact ⟨(c : Int) - 1, c, _, by omega, rfl, by go_num, (hT.set r c (by omega) (by omega) _).drew, upd_rows _ _ _ _ _ _ _ HF.out, upd_row _ _ _ _ _ _ HG.out (by rw [Ds.tab_star _ _ _ _ _ _ (by omega) hs, ← H2.out]; simp [hk]), by simpa using hlt, by (have hzz := (B).size; (repeat (first | exact Below.refl _ _ | assumption | (refine Below.drew ?_) | (refine Below.alloc ?_ (by first | (simp; done) | (simp; omega) | omega) _) | (refine Below.setCell ?_ (by first | (simp; done) | (simp; omega) | omega) _))))⟩
                case measure => simp [intOf]
end Go.Proofs.YteeenpimaepieaaGreatDoor

end
