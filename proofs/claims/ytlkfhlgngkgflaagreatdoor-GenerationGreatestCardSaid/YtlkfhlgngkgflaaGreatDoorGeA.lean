/- Contracts of package generation: fits; fold's closure. -/
import Derived.Test.YtlkfhlgngkgflaaGreatDoorVaG
import Derived.Test.YtlkfhlgngkgflaaGreatDoorGe
import Derived.Deep.AppendLies
import Derived.Deep.RegionLaw
namespace Go.Proofs.YtlkfhlgngkgflaaGreatDoor
open Go.RowKit
set_option maxHeartbeats 800000
set_option maxRecDepth 4000
theorem ge_int : Tryz.prog.info? 3 = some ((Tryz.prog.info? 3).getD default) := by kernel_rfl
theorem ge_int0 : ((Tryz.prog.info? 3).getD default).zero = some (.int .i64 0) := by kernel_rfl
theorem ge_int1 : ((Tryz.prog.info? 3).getD default).size = 1 := by kernel_rfl
theorem ge_int2 : ((Tryz.prog.info? 3).getD default).bytes = 8 := by kernel_rfl
def iv (l : List Int) : List Value := l.map (Value.int .i64)
theorem iv_one (l : List Int) : ∀ u ∈ iv l, u.oneCell' = true := by
  intro u hu
  obtain ⟨x, _, rfl⟩ := List.mem_map.1 hu
  rfl
theorem below1 {w w1 : World} {o : Obj} (hb : Below (w.alloc o).heap.size (w.alloc o) w1) : Below w.heap.size w w1 := ((Below.refl _ _).alloc (Nat.le_refl _) _).trans (hb.mono (by simp))
theorem ge_drop (kb nb b o k cap B ng : Nat) (gv : Value) (now gone : List Int) (w : World) (hk : 0 < k) (hkn : k < now.length) (hc : now.length ≤ cap) (hz : now.length ≤ 1000) (hzg : ng ≤ 100000)
    (hkc : w.cell? ⟨kb, 0, none⟩ = some gv) (hnc : w.cell? ⟨nb, 0, none⟩ = some (.slice (some ⟨b, o, none⟩) now.length cap)) (hkf : w.frozen? ⟨kb, 0, none⟩ = false) (hnf : w.frozen? ⟨nb, 0, none⟩ = false)
    (hnow : ∀ j (h : j < now.length), w.cell? ⟨b, o + j, none⟩ = some (.int .i64 now[j])) (hown : w.ownsRow B 3 1 gv ng (iv gone)) (hB : B ≤ w.heap.size)
    (hne : kb ≠ nb) (hkl : kb < w.heap.size) (hnl : nb < w.heap.size) (hkb : gv.ownBlock ≠ some kb) (hnb : gv.ownBlock ≠ some nb) :
    Calls Tryz.prog 33 #[.int .i64 k, .pointer (some ⟨kb, 0, none⟩), .pointer (some ⟨nb, 0, none⟩)] w fun e w' => e = .returned (.tuple #[]) ∧ ∃ g c w1, w1.ownsRow B 3 1 (.slice (some ⟨g, 0, none⟩) (ng + k) c) (ng + k) (iv (gone ++ now.take k)) ∧ w.grownBy w1 gv.ownBlock ∧ (gv.ownBlock = some g ∨ g = w.heap.size) ∧
      w' = (w1.setCell ⟨kb, 0, none⟩ (.slice (some ⟨g, 0, none⟩) (ng + k) c)).setCell ⟨nb, 0, none⟩ (.slice (some ⟨b, o + k, none⟩) (now.length - k) (cap - k)) := by
  have hl : (iv (now.take k)).length = k * 1 := by unfold iv; rw [List.length_map, List.length_take]; omega
  have hnews : ∀ W : World, (∀ a, W.cell? a = w.cell? a) → ∀ j u, (iv (now.take k))[j]? = some u → W.cell? ((⟨b, o, none⟩ : Addr).add j) = some u := fun W hW j u hu => by
    have hj : j < k := by
      rcases Nat.lt_or_ge j k with h | h
      · exact h
      · rw [List.getElem?_eq_none (by omega)] at hu; cases hu
    unfold iv at hu
    rw [List.getElem?_map, List.getElem?_take_of_lt hj, List.getElem?_eq_getElem (by omega)] at hu
    rw [Addr.add_mid, hW, hnow j (by omega)]
    exact hu
  have HW := Lib.hid hnews
  have HO := Lib.hid hown
  have HL := Lib.hid hl
  have i1 : (0 : Int) ≤ (k : Int) := by omega
  have i2 : (k : Int) ≤ (cap : Int) := by omega
  have i3 : (k : Int) ≤ (now.length : Int) := by omega
  have i4 : k ≤ cap := by omega
  clear hnow hnews hown hl
  go_enter Tryz.func33, Tryz.ntmps33
  go_wp2_with fail
  go_region_law ((refine step_append_lies _ (by rfl) (.tmp 4) (.tmp 7) 22 (by rfl) B 3 _ (.int .i64 0) 1 8 Tryz.underlying22 ge_int ge_int0 ge_int1 ge_int2 rfl (by decide) gv ng (iv gone) (by simp [Act.eval, Act.put]) HO.out ⟨b, o, none⟩ k cap (iv (now.take k)) (by simp [Act.eval, Act.put]) HL.out (HW.out _ (fun _ => rfl)) (iv_one _) hk (by unfold maxLen; omega) (by omega) hB w.heap.size rfl ?_; intro g c w1 hown1 hgrow hat hlt; have k1 := hgrow.cell hkc (fun e => hkb e.symm); have k2 := hgrow.cell hnc (fun e => hnb e.symm); have k3 := (hgrow.frozen_far ⟨kb, 0, none⟩ hkl (fun e => hkb e.symm)).trans hkf; have k4 := (hgrow.frozen_far ⟨nb, 0, none⟩ hnl (fun e => hnb e.symm)).trans hnf))
  all_goals
    have HO1 := Lib.hid hown1
    have HGr := Lib.hid hgrow
    clear hown1 hgrow
    have hne2 : (kb == nb) = false := by simpa using hne
    go_wp2_with fail
    go_end0
    refine ⟨rfl, g, c, w1, ?_, ⟨HGr.out.os, HGr.out.tape, HGr.out.output, HGr.out.size, HGr.out.block⟩, hat, rfl⟩
    have := HO1.out
    unfold iv at this ⊢
    rw [List.map_append]
    exact this
theorem ge_fits (v : Value) (l : List Int) (last : Int) (w : World) (h : IS w v l) :
    Calls Tryz.prog 25 #[v, .int .i64 last] w fun e w' => e = .returned (.bool (Ge.fits 0 l last)) ∧ w = w' := by
  obtain ⟨a, c, rfl, hz, hc⟩ := h
  have HC := Lib.hid hc
  clear hc
  go_enter Tryz.func25, Tryz.ntmps25
  go_wp2_with fail
  go_loop [5, 7, 10] (fun b _ i => ∃ (k : Nat) (m : Int), k ≤ l.length ∧ i = .int .i64 k ∧ b = .int .i64 m ∧ Ge.fits 0 l last = Ge.fits m (l.drop k) last) (fun _ _ i => l.length - (intOf i).toNat)
  case atStart => exact ⟨0, 0, Nat.zero_le _, rfl, rfl, rfl⟩
  case round =>
    obtain ⟨k, m, hk, rfl, rfl, he⟩ := hrel
    have HE := Lib.hid he
    clear he
    by_cases hlt : k < l.length
    · obtain ⟨b, o, rfl, -, hcell⟩ := HC.out (by omega)
      have c1 := hcell k hlt
      have hr := HE.out
      rw [List.drop_eq_getElem_cons hlt, Ge.fits] at hr
      clear hcell
      by_cases hle : l[k] ≤ m
      · rw [if_pos hle] at hr
        have HR := Lib.hid hr
        clear hr
        go_wp2_with fail
        go_ret
        exact ⟨ret_bool HR.out.symm, rfl⟩
      · rw [if_neg hle] at hr
        have HR := Lib.hid hr
        clear hr
        go_wp2_with fail
        go_round
        case rel => exact ⟨k + 1, l[k], by omega, by go_num, rfl, HR.out⟩
        case measure => simp [intOf]; omega
    · have hr := HE.out
      rw [List.drop_eq_nil_of_le (by omega), Ge.fits] at hr
      have HR := Lib.hid hr
      clear hr
      go_wp2_with fail
      go_ret
      exact ⟨ret_bool HR.out.symm, rfl⟩
/-- do generations fit a group? -/
def okE (e : En) (l2 : List Int) (g2 : List Gr) (ex : List Int) : Bool := decide (e.kind = 1) && okG e l2 g2 && Ge.fits 0 ex e.last
attribute [local go_sem ↓] ldEnt
attribute [local go_sem] isHead_mk headOf_mk row_new row_new2 row_new2' row_drew row_drewN vals_0 vals_26 vals_size
theorem ge_valid (e : En) (al gr exv : Value) (l2 ex : List Int) (g2 : List Gr) (w : World) (hm : MaxL w) (h1 : IS w al l2) (h2 : GS w gr g2) (h3 : IS w exv ex) :
    Calls Tryz.prog 19 #[.agg (e.vals al gr), exv] w fun r w' => r = .returned (.bool (okE e l2 g2 ex)) ∧ Below w.heap.size w w' := by
  unfold okE
  by_cases hk : e.kind = 1
  · rw [decide_eq_true hk, Bool.true_and]
    have ha : Below w.heap.size w (w.alloc (.cells (e.vals al gr) 34)) := by (repeat (first | exact Below.refl _ _ | assumption | (refine Below.drew ?_) | (refine Below.alloc ?_ (by first | (simp; done) | (simp; omega) | omega) _) | (refine Below.setCell ?_ (by first | (simp; done) | (simp; omega) | omega) _)))
    have hv := va_kind1 e al gr l2 g2 _ hk (hm.below ha) (h1.below ha) (h2.below ha)
    have hf := fun W (b : Below w.heap.size w W) => ge_fits exv ex e.last W (h3.below b)
    have hk2 : (e.kind == 1) = true := by simpa using hk
    clear hk
    generalize okG e l2 g2 = x at hv ⊢
    generalize Ge.fits 0 ex e.last = y at hf ⊢
    cases x
    · go_enter Tryz.func19, Tryz.ntmps19
      go_wp2_with ((with_reducible refine hv.mono ?_); rintro _ w1 ⟨rfl, hb⟩)
      go_ret
      exact ⟨rfl, below1 hb⟩
    · go_enter Tryz.func19, Tryz.ntmps19
      go_wp2_with (first | ((with_reducible refine hv.mono ?_); rintro _ w1 ⟨rfl, hb⟩; have B := below1 hb; obtain ⟨hc1, hf1⟩ := bcell hb) | ((with_reducible refine (hf _ B).mono ?_); rintro _ w2 ⟨rfl, rfl⟩))
      go_ret
      exact ⟨rfl, B⟩
  · rw [decide_eq_false hk, Bool.false_and, Bool.false_and]
    have hk2 : (e.kind == 1) = false := by simpa using hk
    clear hk
    go_enter Tryz.func19, Tryz.ntmps19
    go_wp2_with fail
    go_ret
    exact ⟨rfl, by (repeat (first | exact Below.refl _ _ | assumption | (refine Below.drew ?_) | (refine Below.alloc ?_ (by first | (simp; done) | (simp; omega) | omega) _) | (refine Below.setCell ?_ (by first | (simp; done) | (simp; omega) | omega) _)))⟩
end Go.Proofs.YtlkfhlgngkgflaaGreatDoor
