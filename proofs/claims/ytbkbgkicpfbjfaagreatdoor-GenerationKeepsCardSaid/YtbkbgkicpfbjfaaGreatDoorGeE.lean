/- Several texts in one: GeE GeR. -/
import Derived.Test.YtbkbgkicpfbjfaaGreatDoorGeA
import Derived.Deep.QuietTactic
import Derived.BigQuiet
section
/- Contracts of package generation: Absolute; of its reference: increasing, Absolute. -/
namespace Go.Proofs.YtbkbgkicpfbjfaaGreatDoor
open Go.RowKit
set_option maxHeartbeats 800000
set_option maxRecDepth 4000
theorem IS.at' {w : World} {a : Option Addr} {c : Nat} {l : List Int} (h : IS w (.slice a l.length c) l) (h0 : 0 < l.length) : ∃ b o, a = some ⟨b, o, none⟩ ∧ ∀ j (hj : j < l.length), w.cell? ⟨b, o + j, none⟩ = some (.int .i64 l[j]) := by
  obtain ⟨a', c', e, -, h⟩ := h
  obtain ⟨rfl, -, rfl⟩ : a = a' ∧ True ∧ c = c' := by simpa using e
  obtain ⟨b, o, h1, -, h2⟩ := h h0
  exact ⟨b, o, h1, h2⟩
theorem abs_bad (last rel : Int) (ex : List Int) (h : last < 0 ∨ 9999 < last ∨ Ge.fits 0 ex last = false) : Ge.abs last ex rel = (0, 1) := by
  unfold Ge.abs
  rw [if_pos]
  rcases h with h | h | h
  · exact .inl h
  · exact .inr (.inl h)
  · by_cases h0 : last < 0
    · exact .inl h0
    · exact .inr (.inr (by rw [← Ge.fits_inc ex 0 last (by omega)]; exact h))
theorem abs_ok (last rel : Int) (ex : List Int) (h0 : 0 ≤ last) (h1 : last ≤ 9999) (h2 : Ge.fits 0 ex last = true) : Ge.abs last ex rel = if 0 < rel then (if 9999 - last < rel then (0, 8) else (last + rel, 0)) else if rel ≤ -(ex.length : Int) then (0, 6) else (ex.getD (ex.length - 1 + rel).toNat 0, 0) := by
  unfold Ge.abs
  rw [if_neg]
  rintro (h | h | h)
  · omega
  · omega
  · rw [← Ge.fits_inc ex 0 last h0, h2] at h; cases h
theorem ge_abs (b : ByteArray) (last rel : Int) (exv : Value) (ex : List Int) (w : World) (h : IS w exv ex) :
    Calls Tryz.prog 23 #[.agg #[.string b, .int .i64 last, exv], .int .i64 rel] w fun r w' => r = .returned (.tuple #[.int .i64 (Ge.abs last ex rel).1, .int .i64 (Ge.abs last ex rel).2]) ∧ Below w.heap.size w w' := by
  have hf := fun W (B : Below w.heap.size w W) => ge_fits exv ex last W (h.below B)
  have h0 := h
  obtain ⟨a, c, rfl, hz, -⟩ := h
  have HI := Lib.hid h0
  clear h0
  by_cases hl0 : last < 0
  · rw [abs_bad last rel ex (.inl hl0)]
    go_enter Tryz.func23, Tryz.ntmps23
    go_wp2_with fail
    go_ret2
    exact ⟨rfl, by (repeat (first | exact Below.refl _ _ | assumption | (refine Below.drew ?_) | (refine Below.alloc ?_ (by first | (simp; done) | (simp; omega) | omega) _) | (refine Below.setCell ?_ (by first | (simp; done) | (simp; omega) | omega) _)))⟩
  by_cases hl1 : 9999 < last
  · rw [abs_bad last rel ex (.inr (.inl hl1))]
    go_enter Tryz.func23, Tryz.ntmps23
    go_wp2_with fail
    go_ret2
    exact ⟨rfl, by (repeat (first | exact Below.refl _ _ | assumption | (refine Below.drew ?_) | (refine Below.alloc ?_ (by first | (simp; done) | (simp; omega) | omega) _) | (refine Below.setCell ?_ (by first | (simp; done) | (simp; omega) | omega) _)))⟩
  have b1 : 0 ≤ last := by omega
  have b2 : last ≤ 9999 := by omega
  have p1 : decide (last < 0) = false := by rw [decide_eq_false_iff_not]; omega
  have p2 : decide (9999 < last) = false := by rw [decide_eq_false_iff_not]; omega
  clear hl0 hl1
  cases hx : Ge.fits 0 ex last
  · rw [abs_bad last rel ex (.inr (.inr hx))]
    rw [hx] at hf
    clear hx
    go_enter Tryz.func23, Tryz.ntmps23
    go_wp2_with ((with_reducible refine (hf _ (by (repeat (first | exact Below.refl _ _ | assumption | (refine Below.drew ?_) | (refine Below.alloc ?_ (by first | (simp; done) | (simp; omega) | omega) _) | (refine Below.setCell ?_ (by first | (simp; done) | (simp; omega) | omega) _))))).mono ?_); rintro _ w1 ⟨rfl, rfl⟩)
    go_ret2
    exact ⟨rfl, by (repeat (first | exact Below.refl _ _ | assumption | (refine Below.drew ?_) | (refine Below.alloc ?_ (by first | (simp; done) | (simp; omega) | omega) _) | (refine Below.setCell ?_ (by first | (simp; done) | (simp; omega) | omega) _)))⟩
  rw [abs_ok last rel ex b1 b2 hx]
  rw [hx] at hf
  clear hx
  by_cases hr : 0 < rel
  · rw [if_pos hr]
    by_cases hr2 : 9999 - last < rel
    · rw [if_pos hr2]
      go_enter Tryz.func23, Tryz.ntmps23
      go_wp2_with ((with_reducible refine (hf _ (by (repeat (first | exact Below.refl _ _ | assumption | (refine Below.drew ?_) | (refine Below.alloc ?_ (by first | (simp; done) | (simp; omega) | omega) _) | (refine Below.setCell ?_ (by first | (simp; done) | (simp; omega) | omega) _))))).mono ?_); rintro _ w1 ⟨rfl, rfl⟩)
      go_ret2
      exact ⟨rfl, by (repeat (first | exact Below.refl _ _ | assumption | (refine Below.drew ?_) | (refine Below.alloc ?_ (by first | (simp; done) | (simp; omega) | omega) _) | (refine Below.setCell ?_ (by first | (simp; done) | (simp; omega) | omega) _)))⟩
    · rw [if_neg hr2]
      have hr3 : rel ≤ 9999 := by omega
      go_enter Tryz.func23, Tryz.ntmps23
      go_wp2_with ((with_reducible refine (hf _ (by (repeat (first | exact Below.refl _ _ | assumption | (refine Below.drew ?_) | (refine Below.alloc ?_ (by first | (simp; done) | (simp; omega) | omega) _) | (refine Below.setCell ?_ (by first | (simp; done) | (simp; omega) | omega) _))))).mono ?_); rintro _ w1 ⟨rfl, rfl⟩)
      go_ret2
      exact ⟨rfl, by (repeat (first | exact Below.refl _ _ | assumption | (refine Below.drew ?_) | (refine Below.alloc ?_ (by first | (simp; done) | (simp; omega) | omega) _) | (refine Below.setCell ?_ (by first | (simp; done) | (simp; omega) | omega) _)))⟩
  · rw [if_neg hr]
    by_cases hr2 : rel ≤ -(ex.length : Int)
    · rw [if_pos hr2]
      go_enter Tryz.func23, Tryz.ntmps23
      go_wp2_with ((with_reducible refine (hf _ (by (repeat (first | exact Below.refl _ _ | assumption | (refine Below.drew ?_) | (refine Below.alloc ?_ (by first | (simp; done) | (simp; omega) | omega) _) | (refine Below.setCell ?_ (by first | (simp; done) | (simp; omega) | omega) _))))).mono ?_); rintro _ w1 ⟨rfl, rfl⟩)
      go_ret2
      exact ⟨rfl, by (repeat (first | exact Below.refl _ _ | assumption | (refine Below.drew ?_) | (refine Below.alloc ?_ (by first | (simp; done) | (simp; omega) | omega) _) | (refine Below.setCell ?_ (by first | (simp; done) | (simp; omega) | omega) _)))⟩
    · rw [if_neg hr2]
      have hr3 : -(ex.length : Int) < rel := by omega
      have hr4 : rel ≤ 0 := by omega
      have hpos : 0 < ex.length := by omega
      obtain ⟨k, hk⟩ : ∃ k : Nat, (ex.length : Int) - 1 + rel = k := ⟨((ex.length : Int) - 1 + rel).toNat, by omega⟩
      have hkl : k < ex.length := by omega
      obtain ⟨eb, eo, rfl, hc⟩ := IS.at' HI.out hpos
      have cx := hc k hkl
      have hW : IntKind.i64.wrap ((ex.length : Int) - 1 + rel) = (k : Int) := by rw [hk]; exact IntWalk.i64_in _ ⟨by omega, by omega⟩
      have HK := Lib.hid hk
      have hg : ex.getD ((ex.length : Int) - 1 + rel).toNat 0 = ex[k] := by rw [hk]; simp [List.getD_eq_getElem?_getD, List.getElem?_eq_getElem hkl]
      rw [hg]
      have cx2 : ∀ o : Obj, (w.alloc o).cell? ⟨eb, eo + k, none⟩ = some (.int .i64 ex[k]) := fun o => (World.cell?_of_block (a := ⟨eb, eo + k, none⟩) (heap_alloc_old w o (World.block_lt_of_cell? w _ cx))).trans cx
      clear hc hr hr2 hg
      go_enter Tryz.func23, Tryz.ntmps23
      go_wp2_with ((with_reducible refine (hf _ (by (repeat (first | exact Below.refl _ _ | assumption | (refine Below.drew ?_) | (refine Below.alloc ?_ (by first | (simp; done) | (simp; omega) | omega) _) | (refine Below.setCell ?_ (by first | (simp; done) | (simp; omega) | omega) _))))).mono ?_); rintro _ w1 ⟨rfl, rfl⟩)
      go_ret2
      exact ⟨rfl, by (repeat (first | exact Below.refl _ _ | assumption | (refine Below.drew ?_) | (refine Below.alloc ?_ (by first | (simp; done) | (simp; omega) | omega) _) | (refine Below.setCell ?_ (by first | (simp; done) | (simp; omega) | omega) _)))⟩
end Go.Proofs.YtbkbgkicpfbjfaaGreatDoor

end
section
/- Contracts of the reference of package generation: increasing, Absolute. -/
namespace Go.Proofs.YtbkbgkicpfbjfaaGreatDoor
open Go.RowKit
set_option maxHeartbeats 800000
set_option maxRecDepth 4000
theorem at_lt (l : List Int) (m : Int) (k : Nat) (h : k < l.length) : Ge.at_ l m k = (decide (1 ≤ l[k]) && decide (l[k] ≤ m) && (decide (k = 0) || decide (l.getD (k - 1) 0 < l[k]))) := by
  unfold Ge.at_
  have e : l.getD k 0 = l[k] := by simp [List.getD_eq_getElem?_getD, List.getElem?_eq_getElem h]
  rw [e]
theorem inc_no (l : List Int) (m : Int) (k : Nat) (hk : k < l.length) (h : Ge.at_ l m k = false) : Ge.inc 0 l m = false := by
  rw [← Ge.at_inc, List.all_eq_false]
  exact ⟨k, by simpa using hk, by rw [h]; simp⟩
theorem inc_all (l : List Int) (m : Int) (h : ∀ j, j < l.length → Ge.at_ l m j = true) : Ge.inc 0 l m = true := by
  rw [← Ge.at_inc, List.all_eq_true]
  exact fun j hj => h j (by simpa using hj)
theorem rge_inc (v : Value) (l : List Int) (last : Int) (w : World) (h : IS w v l) :
    Calls Tryz.prog 51 #[v, .int .i64 last] w fun e w' => e = .returned (.bool (Ge.inc 0 l last)) ∧ ∃ q, w' = w.drewN q := by
  obtain ⟨a, c, rfl, hz, hc⟩ := h
  have HC := Lib.hid hc
  clear hc
  go_enter Tryz.func51, Tryz.ntmps51
  go_wp2_with fail
  go_loopw [5] (fun i wr => ∃ k : Nat, k ≤ l.length ∧ i = .int .i64 k ∧ (∀ j, j < k → Ge.at_ l last j = true) ∧ ∃ q, wr = w.drewN q) (fun i _ => l.length - (intOf i).toNat)
  case atStart => exact ⟨0, Nat.zero_le _, rfl, fun j hj => by omega, 0, rfl⟩
  case round =>
    obtain ⟨k, hk, rfl, hall, q, rfl⟩ := hrel
    have HA := Lib.hid hall
    clear hall
    by_cases hlt : k < l.length
    · obtain ⟨b, o, rfl, -, hcell⟩ := HC.out (by omega)
      have c1 := hcell k hlt
      have hat := at_lt l last k hlt
      have i0 : (0 : Int) ≤ (k : Int) := by omega
      have i1 : (k : Int) < (l.length : Int) := by omega
      by_cases h1 : 1 ≤ l[k]
      rotate_left
      · have p1 : decide (l[k] < 1) = true := by rw [decide_eq_true_eq]; omega
        have HF := Lib.hid (inc_no l last k hlt (by rw [hat, decide_eq_false h1]; rfl))
        clear hcell hat h1
        go_wp2_with fail
        go_quiet (fail)
        go_wp2_with fail
        go_ret
        exact ⟨ret_bool HF.out.symm, _, World.drewN_drewN ..⟩
      have p1 : decide (l[k] < 1) = false := by rw [decide_eq_false_iff_not]; omega
      by_cases h2 : l[k] ≤ last
      rotate_left
      · have p2 : decide (last < l[k]) = true := by rw [decide_eq_true_eq]; omega
        have HF := Lib.hid (inc_no l last k hlt (by rw [hat, decide_eq_false h2]; simp))
        clear hcell hat h1 h2
        go_wp2_with fail
        go_quiet (fail)
        go_wp2_with fail
        go_ret
        exact ⟨ret_bool HF.out.symm, _, World.drewN_drewN ..⟩
      have p2 : decide (last < l[k]) = false := by rw [decide_eq_false_iff_not]; omega
      rcases k with _ | j
      · have hok : Ge.at_ l last 0 = true := by rw [hat, decide_eq_true h1, decide_eq_true h2]; rfl
        have HO := Lib.hid hok
        have i4 : 0 < l.length := by omega
        have c2 : w.cell? ⟨b, o, none⟩ = some (.int .i64 l[0]) := c1
        clear hcell hat h1 h2 hok
        go_wp2_with fail
        go_quiet (fail)
        go_wp2_with fail
        go_roundw
        case rel => exact ⟨1, by omega, by go_num, fun j hj => by obtain rfl : j = 0 := by omega
                                                                  exact HO.out, _, rfl⟩
        case measure => simp [intOf]; omega
      · have c0 := hcell j (by omega)
        have eg : l.getD (j + 1 - 1) 0 = l[j] := by simp [List.getD_eq_getElem?_getD, List.getElem?_eq_getElem (show j < l.length by omega)]
        rw [eg] at hat
        have hW : IntKind.i64.wrap ((j : Int) + 1 - 1) = (j : Int) := by rw [show (j : Int) + 1 - 1 = (j : Int) by omega]; exact IntWalk.i64_in _ ⟨by omega, by omega⟩
        have i2 : (0 : Int) ≤ (j : Int) := by omega
        have i3 : (j : Int) < (l.length : Int) := by omega
        by_cases h3 : l[j] < l[j + 1]
        · have p3 : decide (l[j + 1] ≤ l[j]) = false := by rw [decide_eq_false_iff_not]; omega
          have hok : Ge.at_ l last (j + 1) = true := by rw [hat, decide_eq_true h1, decide_eq_true h2, decide_eq_true h3]; simp
          have HO := Lib.hid hok
          clear hcell hat h1 h2 h3 hok eg
          go_wp2_with fail
          go_quiet (fail)
          go_wp2_with fail
          go_roundw
          case rel => exact ⟨j + 1 + 1, by omega, by go_num, fun i hi => by
            by_cases e : i = j + 1
            · rw [e]; exact HO.out
            · exact HA.out i (by omega), _, rfl⟩
          case measure => simp [intOf]; omega
        · have p3 : decide (l[j + 1] ≤ l[j]) = true := by rw [decide_eq_true_eq]; omega
          have HF := Lib.hid (inc_no l last (j + 1) hlt (by rw [hat, decide_eq_false h3]; simp))
          clear hcell hat h1 h2 h3 eg
          go_wp2_with fail
          go_quiet (fail)
          go_wp2_with fail
          go_ret
          exact ⟨ret_bool HF.out.symm, _, World.drewN_drewN ..⟩
    · have HF := Lib.hid (inc_all l last (fun j hj => HA.out j (by omega)))
      go_wp2_with fail
      go_ret
      exact ⟨ret_bool HF.out.symm, _, rfl⟩
end Go.Proofs.YtbkbgkicpfbjfaaGreatDoor

end
