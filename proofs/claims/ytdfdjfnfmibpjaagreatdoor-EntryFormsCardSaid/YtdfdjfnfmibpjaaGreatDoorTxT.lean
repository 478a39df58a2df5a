/- Contract of the reference's Text at any valid entry. Printed by wip/mktxt.py. -/
import Derived.Test.YtdfdjfnfmibpjaaGreatDoorTxS
import Derived.Test.YtdfdjfnfmibpjaaGreatDoorTxF
import Derived.Test.YtdfdjfnfmibpjaaGreatDoorAcA
namespace Go.Proofs.YtdfdjfnfmibpjaaGreatDoor
open Go.RowKit
set_option maxHeartbeats 64000000
set_option maxRecDepth 8000
set_option linter.unusedSimpArgs false
attribute [local go_sem ↓] ldEnt stEnt ldDat stDat ldDatH
attribute [local go_sem] isDat_mk isHead_mk headOf_mk cellsOfV_mk isAggV_mk row_new row_new2 row_new2' row_drew row_drewN vals_size vals_dat dat_size dat_one allOne_nil allOne_cons one_int one_bool one_string one_pointer one_slice one_func
theorem kf_0v (x : Fu) (h : okX x = true) (k : x.1.kind = 0) : Vp.dat x.1 x.2.1 = true := by
  unfold okX at h
  rw [if_pos k] at h
  unfold okD at h
  simp only [Bool.and_eq_true] at h
  exact h.1.2
theorem ow_hd (w2 : World) (o : Obj) (X : ByteArray) : OW ((w2.alloc o).alloc (.cells #[.string X] 9)).drew w2.heap.size (.slice (some ⟨w2.heap.size + 1, 0, none⟩) 1 1) [X] := by
  have h := OW.one (w2.alloc o) w2.heap.size X (by simp)
  rw [show (w2.alloc o).heap.size = w2.heap.size + 1 by simp] at h
  exact h
theorem SX.litP {base : Nat} {W1 w : World} {out : Value} {ts : List ByteArray} {pend : List (Value × List ByteArray)} (h : SX base W1 w out ts pend) (X : ByteArray) : SX base W1 (w.alloc (.cells #[.string X] 9)) out ts ((.slice (some ⟨w.heap.size, 0, none⟩) 1 1, [X]) :: pend) := h.call ((Below.refl _ _).alloc (Nat.le_refl _) _) (OW.one w _ X (Nat.le_refl _))
theorem levW_pos (n : Int) (h0 : 0 ≤ n) (h3 : n ≤ 3) : 1 ≤ (atW levW n).size := by
  rcases (by omega : n = 0 ∨ n = 1 ∨ n = 2 ∨ n = 3) with rfl | rfl | rfl | rfl <;> decide
theorem lev_eq (v : ByteArray) : (⟨#[32, 32, 108, 101, 118, 101, 108, 32]⟩ : ByteArray) ++ v = ((⟨#[32, 32]⟩ : ByteArray) ++ ⟨#[108, 101, 118, 101, 108]⟩ ++ ⟨#[32]⟩) ++ v := rfl
theorem rtx_any (x : Fu) (al gr : Value) (w : World) (hok : okX x = true) (h1 : IS w al x.2.1) (h2 : GS w gr x.2.2) :
    Calls Tryz.prog 18 #[.agg (x.1.vals al gr)] w fun r w' => ∃ a n c, r = .returned (.slice a n c) ∧ OW w' w.heap.size (.slice a n c) (txX x) ∧ Below w.heap.size w w' := by
  obtain ⟨e, l2, g2⟩ := x
  dsimp only at h1 h2 ⊢
  have hn := kf_name _ hok
  dsimp only at hn
  have hv := fun W (b : Below w.heap.size w W) => rva_any (e, l2, g2) al gr W (by dsimp only; omega) (h1.below b) (h2.below b)
  have hk := okX_kind _ hok
  dsimp only at hk hv
  rw [hok] at hv
  have HV := Lib.hid hv
  have HOK := Lib.hid hok
  have HI := Lib.hid h1
  have HG := Lib.hid h2
  obtain ⟨kw, hkw⟩ : ∃ kw, kw = atW kindsW e.kind := ⟨_, rfl⟩
  obtain ⟨kd, hkd⟩ : ∃ kd, kd = e.kind := ⟨_, rfl⟩
  have HKD := Lib.hid hkd
  have HKW := Lib.hid hkw
  have hk5 : kd = 0 ∨ kd = 1 ∨ kd = 2 ∨ kd = 3 ∨ kd = 4 := by omega
  clear hv hok hk h1 h2 hkd hkw
  go_enter Tryz.func18, Tryz.ntmps18
  go_upto_region 3 with (go_at_call 11; (with_reducible refine (HV.out _ (by exact belA)).mono ?_); rintro _ w2 ⟨rfl, hb⟩; have R2 := row_below hb (row_new w _ _ _) (by simp [vals_size]); have B2 := Below.trans (show Below w.heap.size w _ by exact belA) (hb.mono (by simp)); have z2 : w.heap.size < w2.heap.size := (by have := hb.size; simp at this; omega); clear hb)
  have n0 := cell_row R2 0 _ (vals_0 e al gr)
  have n1 := cell_row R2 1 _ (vals_1 e al gr)
  rw [← HKD.out] at n0
  obtain ⟨base, hbase⟩ : ∃ b, b = w2.heap.size := ⟨_, rfl⟩
  have hd0 : w.heap.size < base := by omega
  have hdz : base ≤ w2.heap.size := by omega
  have RE := Lib.hid R2
  have BW := Lib.hid B2
  have l5 : ¬ 9223372036854775807 < 5 + e.name.size := by omega
  have l6 : ¬ 9223372036854775807 < 6 + e.name.size := by omega
  have l8 : ¬ 9223372036854775807 < 8 + e.name.size := by omega
  go_cut [3] (fun v wx => ∃ a n c, v = .slice a n c ∧ SX base w2 wx (.slice a n c) [hdB e] [])
  case first =>
    rcases hk5 with rfl | rfl | rfl | rfl | rfl
    all_goals
      have HH := Lib.hid (show hdB e = _ by unfold hdB; rw [← HKD.out])
      go_region
      all_goals
        go_wp2_with fail
        go_meet
        rw [HH.out]
        exact ⟨_, _, _, rfl, SX.first (by exact belA) (ow_hd w2 _ _) (Below.refl _ _) hdz⟩
  obtain ⟨a, n, c, rfl, hS⟩ := hcut
  have HS := Lib.hid hS
  have n0 := below_rowc hS.2.2.1 hd0 R2 0 _ (vals_0 e al gr)
  rw [← HKD.out] at n0
  clear hS R2 B2 n1 l5 l6 l8

  rcases hk5 with rfl | rfl | rfl | rfl | rfl
  · have hq := kf_0 _ HOK.out HKD.out.symm
    dsimp only at hq
    have hvd : Vp.dat e l2 = true := kf_0v _ HOK.out HKD.out.symm
    have hz : w.heap.size < wc.heap.size := by have := HS.out.2.2.2; omega
    have RX : row wc w.heap.size = e.vals al gr := below_rowB HS.out.2.2.1 hd0 RE.out
    have HT := Lib.hid (rtx_data e al gr l2 wc hvd (HI.out.below (BW.out.trans (HS.out.2.2.1.mono (by omega)))))
    have hlen : [hdB e].length + (txData e l2 []).length ≤ 1000 := by
      have : (txData e l2 []).length ≤ 100 := by unfold txData txD2; exact Nat.le_trans LenLe.h (by decide)
      show 1 + _ ≤ 1000
      omega
    clear hvd
    go_wp2_with (first
      | (go_at_call 73; (with_reducible refine HT.out.mono ?_); rintro _ w3 ⟨fa, fn, fc, rfl, ho, hb⟩; have hS := HS.out.call hb ho; have HS := Lib.hid hS; clear hS ho hb)
      | (at_builtin; refine wp_appT rfl (.tmp 23) (.tmp 25) rfl HS.out (List.mem_cons_self ..) rfl rfl hlen ?_; intro ra rn rc w4 hS _ _; have HS := Lib.hid hS; clear hS))
    have hE := txData_app e l2 [hdB e] []
    rw [List.append_nil] at hE
    have HE := Lib.hid hE
    clear hE
    go_ret
    exact ⟨_, _, _, rfl, by rw [txX_0 _ HKD.out.symm]; exact (HE.out ▸ HS.out.1.le (by omega)), BW.out.trans (HS.out.2.2.1.mono (by omega))⟩
  · have hq := kf_1 _ HOK.out HKD.out.symm
    dsimp only at hq
    go_upto_region 8 with fail
    have c1 := below_rowc HS.out.2.2.1 hd0 RE.out 25 _ (vals_25 e _ _)
    have c2 := below_rowc HS.out.2.2.1 hd0 RE.out 26 _ (vals_26 e _ _)
    go_cut [3] (fun v wx => ∃ a n c, v = .slice a n c ∧ SX base w2 wx (.slice a n c) ([hdB e] ++ ln ⟨#[108, 105, 109, 105, 116]⟩ (nmB e.lim) ++ ln ⟨#[108, 97, 115, 116]⟩ (nmB e.last)) [])
    case first =>
      go_region_law (first | (refine step_appL (l := ln ⟨#[108, 105, 109, 105, 116]⟩ (nmB e.lim)) (sv := .slice fa fn fc) rfl (.tmp 29) (.tmp 32) rfl HS.out (by simp) (by simp [Act.eval, Act.put]) (by simp [Act.eval, Act.put]) ?_; intro ra rn rc w3 hS _ _; have c2 := below_rowc hS.2.2.1 hd0 RE.out 26 _ (vals_26 e _ _); have HS := Lib.hid hS; clear hS) | (refine step_appL (l := ln ⟨#[108, 97, 115, 116]⟩ (nmB e.last)) (sv := .slice ga gn gc) rfl (.tmp 33) (.tmp 36) rfl HS.out (by simp) (by simp [Act.eval, Act.put]) (by simp [Act.eval, Act.put]) ?_; intro ra rn rc w3 hS _ _; have HS := Lib.hid hS; clear hS) | (go_simp; go_at_call 74; (with_reducible refine (rline ⟨#[108, 105, 109, 105, 116]⟩ e.lim _ (by decide) hq.1.1 hq.1.2).mono ?_); rintro _ w3 ⟨fa, fn, fc, rfl, ho, hb⟩; have hS := (HS.out.below (by exact belA)).call hb ho; have c2 := below_rowc hS.2.2.1 hd0 RE.out 26 _ (vals_26 e _ _); have HS := Lib.hid hS; clear hS ho hb) | (go_simp; go_at_call 74; (with_reducible refine (rline ⟨#[108, 97, 115, 116]⟩ e.last _ (by decide) hq.2.1.1 hq.2.1.2).mono ?_); rintro _ w3 ⟨ga, gn, gc, rfl, ho, hb⟩; have hS := (HS.out.below (by exact belA)).call hb ho; have c1 := below_rowc hS.2.2.1 hd0 RE.out 25 _ (vals_25 e _ _); have c2 := below_rowc hS.2.2.1 hd0 RE.out 26 _ (vals_26 e _ _); have HS := Lib.hid hS; clear hS ho hb))
      all_goals
        go_wp2_with fail
        go_meet
        exact ⟨_, _, _, rfl, HS.out.done⟩
    clear c1 c2 HS
    obtain ⟨a, n, c, rfl, hS⟩ := hcut
    have HS := Lib.hid hS
    clear hS
    go_upto_region 9 with fail
    have c1 := below_rowc HS.out.2.2.1 hd0 RE.out 27 _ (vals_27 e _ _)
    have c2 := below_rowc HS.out.2.2.1 hd0 RE.out 28 _ (vals_28 e _ _)
    go_cut [2] (fun v wx => ∃ a n c, v = .slice a n c ∧ SX base w2 wx (.slice a n c) ([hdB e] ++ ln ⟨#[108, 105, 109, 105, 116]⟩ (nmB e.lim) ++ ln ⟨#[108, 97, 115, 116]⟩ (nmB e.last) ++ ln ⟨#[101, 109, 112, 116, 121]⟩ (ysB e.em) ++ ln ⟨#[111, 119, 110, 101, 114]⟩ e.owner) [])
    case first =>
      go_region_law (first | (refine step_appL (l := ln ⟨#[101, 109, 112, 116, 121]⟩ (ysB e.em)) (sv := .slice fa fn fc) rfl (.tmp 38) (.tmp 41) rfl HS.out (by simp) (by simp [Act.eval, Act.put]) (by simp [Act.eval, Act.put]) ?_; intro ra rn rc w3 hS _ _; have c2 := below_rowc hS.2.2.1 hd0 RE.out 28 _ (vals_28 e _ _); have HS := Lib.hid hS; clear hS) | (refine step_appL (l := ln ⟨#[111, 119, 110, 101, 114]⟩ e.owner) (sv := .slice ga gn gc) rfl (.tmp 42) (.tmp 45) rfl HS.out (by simp) (by simp [Act.eval, Act.put]) (by simp [Act.eval, Act.put]) ?_; intro ra rn rc w3 hS _ _; have HS := Lib.hid hS; clear hS) | (go_simp; go_at_call 75; (with_reducible refine (rflagL ⟨#[101, 109, 112, 116, 121]⟩ e.em _ (by decide)).mono ?_); rintro _ w3 ⟨fa, fn, fc, rfl, ho, hb⟩; have hS := (HS.out.below (by exact belA)).call hb ho; have c2 := below_rowc hS.2.2.1 hd0 RE.out 28 _ (vals_28 e _ _); have HS := Lib.hid hS; clear hS ho hb) | (go_simp; go_at_call 76; (with_reducible refine (rsayL ⟨#[111, 119, 110, 101, 114]⟩ e.owner _ (by decide) (by omega)).mono ?_); rintro _ w3 ⟨ga, gn, gc, rfl, ho, hb⟩; have hS := (HS.out.below (by exact belA)).call hb ho; have c1 := below_rowc hS.2.2.1 hd0 RE.out 27 _ (vals_27 e _ _); have c2 := below_rowc hS.2.2.1 hd0 RE.out 28 _ (vals_28 e _ _); have HS := Lib.hid hS; clear hS ho hb))
      all_goals
        go_wp2_with fail
        go_meet
        exact ⟨_, _, _, rfl, HS.out.done⟩
    clear c1 c2 HS
    obtain ⟨a, n, c, rfl, hS⟩ := hcut
    have HS := Lib.hid hS
    clear hS
    go_wp2_with fail
    go_ret
    exact ⟨_, _, _, rfl, by rw [txX_1 _ HKD.out.symm]; exact HS.out.1.le (by omega), BW.out.trans (HS.out.2.2.1.mono (by omega))⟩
  · have hq := kf_2 _ HOK.out HKD.out.symm
    dsimp only at hq
    have c1 := below_rowc HS.out.2.2.1 hd0 RE.out 29 _ (vals_29 e _ _)
    go_wp2_with (first | (at_builtin; refine wp_appL (l := ln ⟨#[116, 97, 114, 103, 101, 116]⟩ e.target) (sv := .slice fa fn fc) rfl (.tmp 49) (.tmp 52) rfl HS.out (by simp) (by simp [Act.eval, Act.put]) (by simp [Act.eval, Act.put]) ?_; intro ra rn rc w3 hS _ _; have HS := Lib.hid hS; clear hS) | (go_at_call 76; (with_reducible refine (rsayL ⟨#[116, 97, 114, 103, 101, 116]⟩ e.target _ (by decide) (by omega)).mono ?_); rintro _ w3 ⟨fa, fn, fc, rfl, ho, hb⟩; have hS := (HS.out.below (by exact belA)).call hb ho; have HS := Lib.hid hS; clear hS ho hb))
    go_ret
    exact ⟨_, _, _, rfl, by rw [txX_2 _ HKD.out.symm]; exact HS.out.1.le (by omega), BW.out.trans (HS.out.2.2.1.mono (by omega))⟩
  · have hq := kf_3 _ HOK.out HKD.out.symm
    dsimp only at hq
    have c1 := below_rowc HS.out.2.2.1 hd0 RE.out 30 _ (vals_30 e _ _)
    go_wp2_with (first | (at_builtin; refine wp_appL (l := ln ⟨#[99, 97, 116, 97, 108, 111, 103]⟩ (nmB e.cat)) (sv := .slice fa fn fc) rfl (.tmp 56) (.tmp 59) rfl HS.out (by simp) (by simp [Act.eval, Act.put]) (by simp [Act.eval, Act.put]) ?_; intro ra rn rc w3 hS _ _; have HS := Lib.hid hS; clear hS) | (go_at_call 74; (with_reducible refine (rline ⟨#[99, 97, 116, 97, 108, 111, 103]⟩ e.cat _ (by decide) hq.1 hq.2).mono ?_); rintro _ w3 ⟨fa, fn, fc, rfl, ho, hb⟩; have hS := (HS.out.below (by exact belA)).call hb ho; have HS := Lib.hid hS; clear hS ho hb))
    go_ret
    exact ⟨_, _, _, rfl, by rw [txX_3 _ HKD.out.symm]; exact HS.out.1.le (by omega), BW.out.trans (HS.out.2.2.1.mono (by omega))⟩
  · have hq := kf_4 _ HOK.out HKD.out.symm
    dsimp only at hq
    have hq1 := hq.1
    have hq2 := hq.2.1
    have hq3 := hq.2.2.1
    have HQ4 := Lib.hid hq.2.2.2
    clear hq
    obtain ⟨lw, hlw⟩ : ∃ lw, lw = atW levW e.lev := ⟨_, rfl⟩
    have hlws : lw.size ≤ 6 := by rw [hlw]; exact levW_size _
    have HLN := Lib.hid (fun W => rlevL e.lev W hq1.1 hq1.2)
    have HLW := Lib.hid (show ln ⟨#[108, 101, 118, 101, 108]⟩ (atW levW e.lev) = [((⟨#[32, 32, 108, 101, 118, 101, 108, 32]⟩ : ByteArray) ++ lw)] by rw [← hlw]; rw [ln_of _ _ (by rw [hlw]; exact levW_pos _ hq1.1 hq1.2)]; rfl)
    rw [← hlw] at HLN
    clear hlw
    have l1 : ¬ 9223372036854775807 < 8 + lw.size := by omega
    go_upto_region 14 with fail
    have c1 := below_rowc HS.out.2.2.1 hd0 RE.out 31 _ (vals_31 e _ _)
    have c2 := below_rowc HS.out.2.2.1 hd0 RE.out 28 _ (vals_28 e _ _)
    go_cut [3] (fun v wx => ∃ a n c, v = .slice a n c ∧ SX base w2 wx (.slice a n c) ([hdB e] ++ ln ⟨#[108, 101, 118, 101, 108]⟩ (atW levW e.lev) ++ ln ⟨#[111, 119, 110, 101, 114]⟩ e.owner) [])
    case first =>
      go_region_law (first
        | ((first | refine step_appL (l := [((⟨#[32, 32, 108, 101, 118, 101, 108, 32]⟩ : ByteArray) ++ lw)]) rfl (.tmp 61) (.tmp 66) rfl (HS.out.litP ((⟨#[32, 32, 108, 101, 118, 101, 108, 32]⟩ : ByteArray) ++ lw)) (by simp [Act.eval, Act.put]) (by simp [Act.eval, Act.put]) rfl ?_ | refine step_appL (l := [((⟨#[32, 32, 108, 101, 118, 101, 108, 32]⟩ : ByteArray) ++ lw)]) rfl (.tmp 61) (.tmp 66) rfl HS.out (by simp [Act.eval, Act.put]) (by simp [Act.eval, Act.put]) rfl ?_); intro ra rn rc w3 hS _ _; have c2 := below_rowc hS.2.2.1 hd0 RE.out 28 _ (vals_28 e _ _); have HS := Lib.hid hS; clear hS)
        | (refine step_appL (l := ln ⟨#[111, 119, 110, 101, 114]⟩ e.owner) (sv := .slice ga gn gc) rfl (.tmp 67) (.tmp 70) rfl HS.out (by simp) (by simp [Act.eval, Act.put]) (by simp [Act.eval, Act.put]) ?_; intro ra rn rc w3 hS _ _; have HS := Lib.hid hS; clear hS)
        | (go_simp; go_at_call 77; (refine (HLN.out _).mono ?_); rintro _ w3 ⟨rfl, hb⟩; have hS := SX.below (SX.below HS.out (by exact belA)) hb; have z3 : w.heap.size < w3.heap.size := (by have := hS.2.2.2; omega); have c2 := below_rowc hS.2.2.1 hd0 RE.out 28 _ (vals_28 e _ _); have HS := Lib.hid hS; clear hS hb)
        | (go_simp; go_at_call 76; (with_reducible refine (rsayL ⟨#[111, 119, 110, 101, 114]⟩ e.owner (World.alloc _ (.cells #[.string ((⟨#[32, 32, 108, 101, 118, 101, 108, 32]⟩ : ByteArray) ++ lw)] 9)) (by decide) (by omega)).mono ?_); rintro _ w3 ⟨ga, gn, gc, rfl, ho, hb⟩; have hS := SX.call (HS.out.litP ((⟨#[32, 32, 108, 101, 118, 101, 108, 32]⟩ : ByteArray) ++ lw)) hb ho; have HS := Lib.hid hS; clear hS ho hb)
        | (go_simp; go_at_call 76; (with_reducible refine (rsayL ⟨#[111, 119, 110, 101, 114]⟩ e.owner _ (by decide) (by omega)).mono ?_); rintro _ w3 ⟨ga, gn, gc, rfl, ho, hb⟩; have hS := (SX.below HS.out (by exact belA)).call hb ho; have c1 := below_rowc hS.2.2.1 hd0 RE.out 31 _ (vals_31 e _ _); have z3 : w.heap.size < w3.heap.size := (by have := hS.2.2.2; omega); have HS := Lib.hid hS; clear hS ho hb))
      all_goals
        go_wp2_with fail
        go_meet
        rw [HLW.out]
        exact ⟨_, _, _, rfl, HS.out.done⟩
    clear c1 c2 HS n0
    obtain ⟨a, n, c, rfl, hS⟩ := hcut
    have HS0 := Lib.hid hS
    clear hS
    obtain ⟨ga, gc, rfl, -, hgc⟩ := HG.out
    have HGC := Lib.hid hgc
    clear hgc
    have hlen0 : ([hdB e] ++ ln ⟨#[108, 101, 118, 101, 108]⟩ (atW levW e.lev) ++ ln ⟨#[111, 119, 110, 101, 114]⟩ e.owner).length ≤ 3 := LenLe.h
    go_wp2_with fail
    go_loopw [3, 4] (fun v i wr => ∃ (k : Nat) (a : Option Addr) (n c : Nat), k ≤ g2.length ∧ i = .int .i64 k ∧ v = .slice a n c ∧ SX base w2 wr (.slice a n c) (gsT g2 ([hdB e] ++ ln ⟨#[108, 101, 118, 101, 108]⟩ (atW levW e.lev) ++ ln ⟨#[111, 119, 110, 101, 114]⟩ e.owner) k) []) (fun _ i _ => g2.length - (intOf i).toNat)
    case atStart => exact ⟨0, a, n, c, Nat.zero_le _, rfl, rfl, HS0.out⟩
    case round =>
      obtain ⟨k, a', n', c', hk, rfl, rfl, hS⟩ := hrel
      have HS := Lib.hid hS
      have c32 := below_rowc hS.2.2.1 hd0 RE.out 32 _ (vals_32 e _ _)
      have BWr := BW.out.trans (hS.2.2.1.mono (by omega))
      clear hS
      by_cases hlt : k < g2.length
      · obtain ⟨b, o, rfl, hb, hcell⟩ := HGC.out (by omega)
        obtain ⟨q0, q1, q2⟩ := hcell k hlt
        have p0 := (BWr.cell (p := ⟨b, o + k * 3, none⟩) hb).trans q0
        have p1 := (BWr.cell (p := ⟨b, o + k * 3 + 1, none⟩) hb).trans q1
        have p2 := (BWr.cell (p := ⟨b, o + k * 3 + 2, none⟩) hb).trans q2
        clear hcell q0 q1 q2
        have hbr : b < wr.heap.size := Nat.lt_of_lt_of_le hb BWr.size
        have hwr : w.heap.size < wr.heap.size := by have := HS.out.2.2.2; omega
        have hg := HQ4.out _ (List.getElem_mem hlt)
        have hlen : (gsT g2 ([hdB e] ++ ln ⟨#[108, 101, 118, 101, 108]⟩ (atW levW e.lev) ++ ln ⟨#[111, 119, 110, 101, 114]⟩ e.owner) k).length + 1 ≤ 1000 := by
          have := gsT_len g2 ([hdB e] ++ ln ⟨#[108, 101, 118, 101, 108]⟩ (atW levW e.lev) ++ ln ⟨#[111, 119, 110, 101, 114]⟩ e.owner) k
          omega
        have HE := Lib.hid (show gsT g2 ([hdB e] ++ ln ⟨#[108, 101, 118, 101, 108]⟩ (atW levW e.lev) ++ ln ⟨#[111, 119, 110, 101, 114]⟩ e.owner) (k + 1) = gsT g2 ([hdB e] ++ ln ⟨#[108, 101, 118, 101, 108]⟩ (atW levW e.lev) ++ ln ⟨#[111, 119, 110, 101, 114]⟩ e.owner) k ++ ln ⟨#[103, 114, 97, 110, 116]⟩ (grB g2[k]) by rw [gsT, List.getD_eq_getElem?_getD, List.getElem?_eq_getElem hlt]; rfl)
        generalize g2[k] = gk at p0 p1 p2 hg HE
        obtain ⟨who, grp, lev⟩ := gk
        dsimp only at p0 p1 p2 hg HE
        obtain ⟨lw, hlw⟩ : ∃ lw, lw = atW levW lev := ⟨_, rfl⟩
        have hlws : lw.size ≤ 6 := by rw [hlw]; exact levW_size _
        have HLV := Lib.hid (fun W => rlevL lev W hg.2.1 hg.2.2)
        rw [← hlw] at HLV
        have hws := hg.1
        have HLE := Lib.hid (fun kind : ByteArray => show 1 ≤ ((kind ++ who) ++ ⟨#[32]⟩ ++ lw).size by rw [ByteArray.size_append, ByteArray.size_append, show (⟨#[32]⟩ : ByteArray).size = 1 from rfl]; omega)
        have HGB := Lib.hid (show grB (who, grp, lev) = (((if grp = true then ⟨#[103, 114, 111, 117, 112, 32]⟩ else ⟨#[117, 115, 101, 114, 32]⟩) ++ who) ++ ⟨#[32]⟩) ++ lw by unfold grB; rw [hlw])
        have j1 : (0 : Int) ≤ (k : Int) := by omega
        have j2 : (k : Int) < (g2.length : Int) := by omega
        clear hg hlw
        cases grp
        · have l1 : ¬ 9223372036854775807 < 8 + 5 + who.size := by omega
          have l2 : ¬ 9223372036854775807 < 13 + who.size := by omega
          have l3 : ¬ 9223372036854775807 < 13 + who.size + 1 := by omega
          have l4 : ¬ 9223372036854775807 < 13 + who.size + 1 + lw.size := by omega
          have HX := Lib.hid (show ln ⟨#[103, 114, 97, 110, 116]⟩ (grB (who, false, lev)) = [((((⟨#[32, 32, 103, 114, 97, 110, 116, 32]⟩ : ByteArray) ++ ⟨#[117, 115, 101, 114, 32]⟩) ++ who) ++ ⟨#[32]⟩) ++ lw] by
            rw [HGB.out]
            refine (ln_of _ _ (HLE.out _)).trans (congrArg (fun z => [z]) ?_)
            apply Ds.bl_inj
            unfold Ds.bl
            simp)
          go_upto_region 21 with fail
          refine wp_region_held_drew (S := fun w' => w'.cell? ⟨w.heap.size, 32, none⟩ = some (.slice (some ⟨b, o, none⟩) g2.length gc) ∧ w'.cell? ⟨b, o + k * 3, none⟩ = some (.string who) ∧ w'.cell? ⟨b, o + k * 3 + 2, none⟩ = some (.int .i64 lev) ∧ Below base wr w') (by kernel_rfl) ?_ (fun hHeld => ?_)
          · exact ⟨c32, p0, p2, Below.drew (Below.refl _ _)⟩
          have hbb : b < base := by omega
          have hbz := HS.out.2.2.2
          have KS : ∀ {W' : World}, Below base wr W' → W'.cell? ⟨w.heap.size, 32, none⟩ = some (.slice (some ⟨b, o, none⟩) g2.length gc) ∧ W'.cell? ⟨b, o + k * 3, none⟩ = some (.string who) ∧ W'.cell? ⟨b, o + k * 3 + 2, none⟩ = some (.int .i64 lev) ∧ Below base wr W' := fun h => ⟨(h.cell (p := ⟨w.heap.size, 32, none⟩) hd0).trans c32, (h.cell (p := ⟨b, o + k * 3, none⟩) hbb).trans p0, (h.cell (p := ⟨b, o + k * 3 + 2, none⟩) hbb).trans p2, h⟩
          clear p1
          (refine rg_y (i := 0) (some 85) (v := ?_) rfl rfl (by kernel_rfl) (by kernel_rfl) (by kernel_rfl) (fun _ _ _ h => h) (by kernel_rfl) ?_ (by assumption) ?_; rotate_left 1; focus (intro w hSw; (try dsimp only at hSw); (first | (go_simp; done) | (go_simp; with_reducible rfl))); (try simp only [Act.put, List.setIfInBounds_toArray, List.set_cons_zero, List.set_cons_succ]))
          (refine rg_y (i := 1) (some 86) (v := ?_) rfl rfl (by kernel_rfl) (by kernel_rfl) (by kernel_rfl) (fun _ _ _ h => h) (by kernel_rfl) ?_ (by assumption) ?_; rotate_left 1; focus (intro w hSw; (try dsimp only at hSw); (first | (go_simp; done) | (go_simp; with_reducible rfl))); (try simp only [Act.put, List.setIfInBounds_toArray, List.set_cons_zero, List.set_cons_succ]))
          (refine rg_y (i := 2) (some 87) (v := ?_) rfl rfl (by kernel_rfl) (by kernel_rfl) (by kernel_rfl) (fun _ _ _ h => h) (by kernel_rfl) ?_ (by assumption) ?_; rotate_left 1; focus (intro w hSw; (try dsimp only at hSw); (first | (go_simp; done) | (go_simp; with_reducible rfl))); (try simp only [Act.put, List.setIfInBounds_toArray, List.set_cons_zero, List.set_cons_succ]))
          (refine rg_y (i := 3) (some 88) (v := ?_) rfl rfl (by kernel_rfl) (by kernel_rfl) (by kernel_rfl) (fun _ _ _ h => h) (by kernel_rfl) ?_ (by assumption) ?_; rotate_left 1; focus (intro w hSw; (try dsimp only at hSw); (first | (go_simp; done) | (go_simp; with_reducible rfl))); (try simp only [Act.put, List.setIfInBounds_toArray, List.set_cons_zero, List.set_cons_succ]))
          (refine rg_y (i := 4) (some 89) (v := ?_) rfl rfl (by kernel_rfl) (by kernel_rfl) (by kernel_rfl) (fun _ _ _ h => h) (by kernel_rfl) ?_ (by assumption) ?_; rotate_left 1; focus (intro w hSw; (try dsimp only at hSw); (first | (go_simp; done) | (go_simp; with_reducible rfl))); (try simp only [Act.put, List.setIfInBounds_toArray, List.set_cons_zero, List.set_cons_succ]))
          (refine rg_y (i := 5) (some 90) (v := ?_) rfl rfl (by kernel_rfl) (by kernel_rfl) (by kernel_rfl) (fun _ _ _ h => h) (by kernel_rfl) ?_ (by assumption) ?_; rotate_left 1; focus (intro w hSw; (try dsimp only at hSw); (first | (go_simp; done) | (go_simp; with_reducible rfl))); (try simp only [Act.put, List.setIfInBounds_toArray, List.set_cons_zero, List.set_cons_succ]))
          (refine rg_y (i := 6) (some 91) (v := ?_) rfl rfl (by kernel_rfl) (by kernel_rfl) (by kernel_rfl) (fun _ _ _ h => h) (by kernel_rfl) ?_ (by assumption) ?_; rotate_left 1; focus (intro w hSw; (try dsimp only at hSw); (first | (go_simp; done) | (go_simp; with_reducible rfl))); (try simp only [Act.put, List.setIfInBounds_toArray, List.set_cons_zero, List.set_cons_succ]))
          (refine rg_y (i := 7) (some 92) (v := ?_) rfl rfl (by kernel_rfl) (by kernel_rfl) (by kernel_rfl) (fun _ _ _ h => h) (by kernel_rfl) ?_ (by assumption) ?_; rotate_left 1; focus (intro w hSw; (try dsimp only at hSw); (first | (go_simp; done) | (go_simp; with_reducible rfl))); (try simp only [Act.put, List.setIfInBounds_toArray, List.set_cons_zero, List.set_cons_succ]))
          (refine rg_y (i := 8) (some 93) (v := ?_) rfl rfl (by kernel_rfl) (by kernel_rfl) (by kernel_rfl) (fun _ _ _ h => h) (by kernel_rfl) ?_ (by assumption) ?_; rotate_left 1; focus (intro w hSw; (try dsimp only at hSw); (first | (go_simp; done) | (go_simp; with_reducible rfl))); (try simp only [Act.put, List.setIfInBounds_toArray, List.set_cons_zero, List.set_cons_succ]))
          (refine rg_y (i := 9) (some 94) (v := ?_) rfl rfl (by kernel_rfl) (by kernel_rfl) (by kernel_rfl) (fun _ _ _ h => h) (by kernel_rfl) ?_ (by assumption) ?_; rotate_left 1; focus (intro w hSw; (try dsimp only at hSw); (first | (go_simp; done) | (go_simp; with_reducible rfl))); (try simp only [Act.put, List.setIfInBounds_toArray, List.set_cons_zero, List.set_cons_succ]))
          (refine rg_y (i := 10) (some 95) (v := ?_) rfl rfl (by kernel_rfl) (by kernel_rfl) (by kernel_rfl) (fun _ _ _ h => h) (by kernel_rfl) ?_ (by assumption) ?_; rotate_left 1; focus (intro w hSw; (try dsimp only at hSw); (first | (go_simp; done) | (go_simp; with_reducible rfl))); (try simp only [Act.put, List.setIfInBounds_toArray, List.set_cons_zero, List.set_cons_succ]))
          (refine rg_y (i := 11) (some 96) (v := ?_) rfl rfl (by kernel_rfl) (by kernel_rfl) (by kernel_rfl) (fun _ _ _ h => h) (by kernel_rfl) ?_ (by assumption) ?_; rotate_left 1; focus (intro w hSw; (try dsimp only at hSw); (first | (go_simp; done) | (go_simp; with_reducible rfl))); (try simp only [Act.put, List.setIfInBounds_toArray, List.set_cons_zero, List.set_cons_succ]))
          (refine rg_y (i := 12) (some 97) (v := ?_) rfl rfl (by kernel_rfl) (by kernel_rfl) (by kernel_rfl) (fun _ _ _ h => h) (by kernel_rfl) ?_ (by assumption) ?_; rotate_left 1; focus (intro w hSw; (try dsimp only at hSw); (first | (go_simp; done) | (go_simp; with_reducible rfl))); (try simp only [Act.put, List.setIfInBounds_toArray, List.set_cons_zero, List.set_cons_succ]))
          (refine rg_y (i := 13) (some 98) (v := ?_) rfl rfl (by kernel_rfl) (by kernel_rfl) (by kernel_rfl) (fun _ _ _ h => h) (by kernel_rfl) ?_ (by assumption) ?_; rotate_left 1; focus (intro w hSw; (try dsimp only at hSw); (first | (go_simp; done) | (go_simp; with_reducible rfl))); (try simp only [Act.put, List.setIfInBounds_toArray, List.set_cons_zero, List.set_cons_succ]))
          (refine rg_y (i := 14) (some 99) (v := ?_) rfl rfl (by kernel_rfl) (by kernel_rfl) (by kernel_rfl) (fun _ _ _ h => h) (by kernel_rfl) ?_ (by assumption) ?_; rotate_left 1; focus (intro w hSw; (try dsimp only at hSw); (first | (go_simp; done) | (go_simp; with_reducible rfl))); (try simp only [Act.put, List.setIfInBounds_toArray, List.set_cons_zero, List.set_cons_succ]))
          (refine rg_y (i := 15) (some 100) (v := ?_) rfl rfl (by kernel_rfl) (by kernel_rfl) (by kernel_rfl) (fun _ _ _ h => h) (by kernel_rfl) ?_ (by assumption) ?_; rotate_left 1; focus (intro w hSw; (try dsimp only at hSw); (first | (go_simp; done) | (go_simp; with_reducible rfl))); (try simp only [Act.put, List.setIfInBounds_toArray, List.set_cons_zero, List.set_cons_succ]))
          (refine rg_y (i := 16) (some 101) (v := ?_) rfl rfl (by kernel_rfl) (by kernel_rfl) (by kernel_rfl) (fun _ _ _ h => h) (by kernel_rfl) ?_ (by assumption) ?_; rotate_left 1; focus (intro w hSw; (try dsimp only at hSw); (first | (go_simp; done) | (go_simp; with_reducible rfl))); (try simp only [Act.put, List.setIfInBounds_toArray, List.set_cons_zero, List.set_cons_succ]))
          (refine wpAnyH_ready (rs := [17]) (by kernel_rfl) (by simp) ?_; refine AllReadyH.cons (o := _) rfl (fun K hK => ?_) AllReadyH.nil)
          go_simp
          go_at_call 77
          refine (HLV.out _).mono ?_
          rintro _ w3 ⟨rfl, hb3⟩
          have b3s : Below wr.heap.size wr w3 := (Below.refl wr.heap.size wr).drew.trans hb3
          have b3 : Below base wr w3 := b3s.mono hbz
          have HS3 := Lib.hid (HS.out.below b3s)
          refine hK.out _ _ (KS b3) (fun hHeld => ?_)
          (clear hK K; (try simp only [Act.put, List.setIfInBounds_toArray, List.set_cons_zero, List.set_cons_succ]))
          (refine rg_y (i := 18) (some 103) (v := ?_) rfl rfl (by kernel_rfl) (by kernel_rfl) (by kernel_rfl) (fun _ _ _ h => h) (by kernel_rfl) ?_ (by assumption) ?_; rotate_left 1; focus (intro w hSw; (try dsimp only at hSw); (first | (go_simp; done) | (go_simp; with_reducible rfl))); (try simp only [Act.put, List.setIfInBounds_toArray, List.set_cons_zero, List.set_cons_succ]))
          (refine wpAnyH_ready (rs := [19]) (by kernel_rfl) (by simp) ?_; refine AllReadyH.cons (o := _) rfl (fun K hK => ?_) AllReadyH.nil)
          go_simp
          have b4 : Below base wr (w3.alloc (.cells #[.string (((((⟨#[32, 32, 103, 114, 97, 110, 116, 32]⟩ : ByteArray) ++ ⟨#[117, 115, 101, 114, 32]⟩) ++ who) ++ ⟨#[32]⟩) ++ lw)] 9)) := b3.alloc HS3.out.2.2.2 _
          refine hK.out _ _ (KS b4) (fun hHeld => ?_)
          (clear hK K; (try simp only [Act.put, List.setIfInBounds_toArray, List.set_cons_zero, List.set_cons_succ]))
          (refine wpAnyH_ready (rs := [20]) (by kernel_rfl) (by simp) ?_; refine AllReadyH.cons (o := _) rfl (fun K hK => ?_) AllReadyH.nil)
          refine step_appT (l := [_]) rfl (.tmp 85) (.tmp 104) rfl (HS3.out.lit1 _) (List.mem_cons_self ..) (by simp [Act.eval]) (by simp [Act.eval]) hlen ?_
          intro ra rn rc w5 hS5 hg5 hat5
          have b5 : Below base wr w5 := b4.grown hg5 (HS3.out.lit1 _).2.2.2 (fun q hq => (own_base HS3.out.1 q hq).1)
          refine hK.out _ _ (KS b5) (fun hHeld => ?_)
          (clear hK K; (try simp only [Act.put, List.setIfInBounds_toArray, List.set_cons_zero, List.set_cons_succ]))
          (refine rg_y (i := 21) (some 3) (v := ?_) rfl rfl (by kernel_rfl) (by kernel_rfl) (by kernel_rfl) (fun _ _ _ h => h) (by kernel_rfl) ?_ (by assumption) ?_; rotate_left 1; focus (intro w hSw; (try dsimp only at hSw); (first | (go_simp; done) | (go_simp; with_reducible rfl))); (try simp only [Act.put, List.setIfInBounds_toArray, List.set_cons_zero, List.set_cons_succ]))
          refine wpAnyH_done (by kernel_rfl) ?_ _
          have HS5 := Lib.hid hS5
          clear hHeld hS5 b3 b4 b5 hg5 hat5
          go_wp2_with fail
          go_roundw
          case rel => exact ⟨k + 1, _, _, _, by omega, by go_num, rfl, by rw [HE.out, HX.out]; exact HS5.out.done⟩
          case measure => simp [intOf]; omega
        · have l1 : ¬ 9223372036854775807 < 8 + 6 + who.size := by omega
          have l2 : ¬ 9223372036854775807 < 14 + who.size := by omega
          have l3 : ¬ 9223372036854775807 < 14 + who.size + 1 := by omega
          have l4 : ¬ 9223372036854775807 < 14 + who.size + 1 + lw.size := by omega
          have HX := Lib.hid (show ln ⟨#[103, 114, 97, 110, 116]⟩ (grB (who, true, lev)) = [((((⟨#[32, 32, 103, 114, 97, 110, 116, 32]⟩ : ByteArray) ++ ⟨#[103, 114, 111, 117, 112, 32]⟩) ++ who) ++ ⟨#[32]⟩) ++ lw] by
            rw [HGB.out]
            refine (ln_of _ _ (HLE.out _)).trans (congrArg (fun z => [z]) ?_)
            apply Ds.bl_inj
            unfold Ds.bl
            simp)
          go_upto_region 21 with fail
          refine wp_region_held_drew (S := fun w' => w'.cell? ⟨w.heap.size, 32, none⟩ = some (.slice (some ⟨b, o, none⟩) g2.length gc) ∧ w'.cell? ⟨b, o + k * 3, none⟩ = some (.string who) ∧ w'.cell? ⟨b, o + k * 3 + 2, none⟩ = some (.int .i64 lev) ∧ Below base wr w') (by kernel_rfl) ?_ (fun hHeld => ?_)
          · exact ⟨c32, p0, p2, Below.drew (Below.refl _ _)⟩
          have hbb : b < base := by omega
          have hbz := HS.out.2.2.2
          have KS : ∀ {W' : World}, Below base wr W' → W'.cell? ⟨w.heap.size, 32, none⟩ = some (.slice (some ⟨b, o, none⟩) g2.length gc) ∧ W'.cell? ⟨b, o + k * 3, none⟩ = some (.string who) ∧ W'.cell? ⟨b, o + k * 3 + 2, none⟩ = some (.int .i64 lev) ∧ Below base wr W' := fun h => ⟨(h.cell (p := ⟨w.heap.size, 32, none⟩) hd0).trans c32, (h.cell (p := ⟨b, o + k * 3, none⟩) hbb).trans p0, (h.cell (p := ⟨b, o + k * 3 + 2, none⟩) hbb).trans p2, h⟩
          clear p1
          (refine rg_y (i := 0) (some 85) (v := ?_) rfl rfl (by kernel_rfl) (by kernel_rfl) (by kernel_rfl) (fun _ _ _ h => h) (by kernel_rfl) ?_ (by assumption) ?_; rotate_left 1; focus (intro w hSw; (try dsimp only at hSw); (first | (go_simp; done) | (go_simp; with_reducible rfl))); (try simp only [Act.put, List.setIfInBounds_toArray, List.set_cons_zero, List.set_cons_succ]))
          (refine rg_y (i := 1) (some 86) (v := ?_) rfl rfl (by kernel_rfl) (by kernel_rfl) (by kernel_rfl) (fun _ _ _ h => h) (by kernel_rfl) ?_ (by assumption) ?_; rotate_left 1; focus (intro w hSw; (try dsimp only at hSw); (first | (go_simp; done) | (go_simp; with_reducible rfl))); (try simp only [Act.put, List.setIfInBounds_toArray, List.set_cons_zero, List.set_cons_succ]))
          (refine rg_y (i := 2) (some 87) (v := ?_) rfl rfl (by kernel_rfl) (by kernel_rfl) (by kernel_rfl) (fun _ _ _ h => h) (by kernel_rfl) ?_ (by assumption) ?_; rotate_left 1; focus (intro w hSw; (try dsimp only at hSw); (first | (go_simp; done) | (go_simp; with_reducible rfl))); (try simp only [Act.put, List.setIfInBounds_toArray, List.set_cons_zero, List.set_cons_succ]))
          (refine rg_y (i := 3) (some 88) (v := ?_) rfl rfl (by kernel_rfl) (by kernel_rfl) (by kernel_rfl) (fun _ _ _ h => h) (by kernel_rfl) ?_ (by assumption) ?_; rotate_left 1; focus (intro w hSw; (try dsimp only at hSw); (first | (go_simp; done) | (go_simp; with_reducible rfl))); (try simp only [Act.put, List.setIfInBounds_toArray, List.set_cons_zero, List.set_cons_succ]))
          (refine rg_y (i := 4) (some 89) (v := ?_) rfl rfl (by kernel_rfl) (by kernel_rfl) (by kernel_rfl) (fun _ _ _ h => h) (by kernel_rfl) ?_ (by assumption) ?_; rotate_left 1; focus (intro w hSw; (try dsimp only at hSw); (first | (go_simp; done) | (go_simp; with_reducible rfl))); (try simp only [Act.put, List.setIfInBounds_toArray, List.set_cons_zero, List.set_cons_succ]))
          (refine rg_y (i := 5) (some 90) (v := ?_) rfl rfl (by kernel_rfl) (by kernel_rfl) (by kernel_rfl) (fun _ _ _ h => h) (by kernel_rfl) ?_ (by assumption) ?_; rotate_left 1; focus (intro w hSw; (try dsimp only at hSw); (first | (go_simp; done) | (go_simp; with_reducible rfl))); (try simp only [Act.put, List.setIfInBounds_toArray, List.set_cons_zero, List.set_cons_succ]))
          (refine rg_y (i := 6) (some 91) (v := ?_) rfl rfl (by kernel_rfl) (by kernel_rfl) (by kernel_rfl) (fun _ _ _ h => h) (by kernel_rfl) ?_ (by assumption) ?_; rotate_left 1; focus (intro w hSw; (try dsimp only at hSw); (first | (go_simp; done) | (go_simp; with_reducible rfl))); (try simp only [Act.put, List.setIfInBounds_toArray, List.set_cons_zero, List.set_cons_succ]))
          (refine rg_y (i := 7) (some 92) (v := ?_) rfl rfl (by kernel_rfl) (by kernel_rfl) (by kernel_rfl) (fun _ _ _ h => h) (by kernel_rfl) ?_ (by assumption) ?_; rotate_left 1; focus (intro w hSw; (try dsimp only at hSw); (first | (go_simp; done) | (go_simp; with_reducible rfl))); (try simp only [Act.put, List.setIfInBounds_toArray, List.set_cons_zero, List.set_cons_succ]))
          (refine rg_y (i := 8) (some 93) (v := ?_) rfl rfl (by kernel_rfl) (by kernel_rfl) (by kernel_rfl) (fun _ _ _ h => h) (by kernel_rfl) ?_ (by assumption) ?_; rotate_left 1; focus (intro w hSw; (try dsimp only at hSw); (first | (go_simp; done) | (go_simp; with_reducible rfl))); (try simp only [Act.put, List.setIfInBounds_toArray, List.set_cons_zero, List.set_cons_succ]))
          (refine rg_y (i := 9) (some 94) (v := ?_) rfl rfl (by kernel_rfl) (by kernel_rfl) (by kernel_rfl) (fun _ _ _ h => h) (by kernel_rfl) ?_ (by assumption) ?_; rotate_left 1; focus (intro w hSw; (try dsimp only at hSw); (first | (go_simp; done) | (go_simp; with_reducible rfl))); (try simp only [Act.put, List.setIfInBounds_toArray, List.set_cons_zero, List.set_cons_succ]))
          (refine rg_y (i := 10) (some 95) (v := ?_) rfl rfl (by kernel_rfl) (by kernel_rfl) (by kernel_rfl) (fun _ _ _ h => h) (by kernel_rfl) ?_ (by assumption) ?_; rotate_left 1; focus (intro w hSw; (try dsimp only at hSw); (first | (go_simp; done) | (go_simp; with_reducible rfl))); (try simp only [Act.put, List.setIfInBounds_toArray, List.set_cons_zero, List.set_cons_succ]))
          (refine rg_y (i := 11) (some 96) (v := ?_) rfl rfl (by kernel_rfl) (by kernel_rfl) (by kernel_rfl) (fun _ _ _ h => h) (by kernel_rfl) ?_ (by assumption) ?_; rotate_left 1; focus (intro w hSw; (try dsimp only at hSw); (first | (go_simp; done) | (go_simp; with_reducible rfl))); (try simp only [Act.put, List.setIfInBounds_toArray, List.set_cons_zero, List.set_cons_succ]))
          (refine rg_y (i := 12) (some 97) (v := ?_) rfl rfl (by kernel_rfl) (by kernel_rfl) (by kernel_rfl) (fun _ _ _ h => h) (by kernel_rfl) ?_ (by assumption) ?_; rotate_left 1; focus (intro w hSw; (try dsimp only at hSw); (first | (go_simp; done) | (go_simp; with_reducible rfl))); (try simp only [Act.put, List.setIfInBounds_toArray, List.set_cons_zero, List.set_cons_succ]))
          (refine rg_y (i := 13) (some 98) (v := ?_) rfl rfl (by kernel_rfl) (by kernel_rfl) (by kernel_rfl) (fun _ _ _ h => h) (by kernel_rfl) ?_ (by assumption) ?_; rotate_left 1; focus (intro w hSw; (try dsimp only at hSw); (first | (go_simp; done) | (go_simp; with_reducible rfl))); (try simp only [Act.put, List.setIfInBounds_toArray, List.set_cons_zero, List.set_cons_succ]))
          (refine rg_y (i := 14) (some 99) (v := ?_) rfl rfl (by kernel_rfl) (by kernel_rfl) (by kernel_rfl) (fun _ _ _ h => h) (by kernel_rfl) ?_ (by assumption) ?_; rotate_left 1; focus (intro w hSw; (try dsimp only at hSw); (first | (go_simp; done) | (go_simp; with_reducible rfl))); (try simp only [Act.put, List.setIfInBounds_toArray, List.set_cons_zero, List.set_cons_succ]))
          (refine rg_y (i := 15) (some 100) (v := ?_) rfl rfl (by kernel_rfl) (by kernel_rfl) (by kernel_rfl) (fun _ _ _ h => h) (by kernel_rfl) ?_ (by assumption) ?_; rotate_left 1; focus (intro w hSw; (try dsimp only at hSw); (first | (go_simp; done) | (go_simp; with_reducible rfl))); (try simp only [Act.put, List.setIfInBounds_toArray, List.set_cons_zero, List.set_cons_succ]))
          (refine rg_y (i := 16) (some 101) (v := ?_) rfl rfl (by kernel_rfl) (by kernel_rfl) (by kernel_rfl) (fun _ _ _ h => h) (by kernel_rfl) ?_ (by assumption) ?_; rotate_left 1; focus (intro w hSw; (try dsimp only at hSw); (first | (go_simp; done) | (go_simp; with_reducible rfl))); (try simp only [Act.put, List.setIfInBounds_toArray, List.set_cons_zero, List.set_cons_succ]))
          (refine wpAnyH_ready (rs := [17]) (by kernel_rfl) (by simp) ?_; refine AllReadyH.cons (o := _) rfl (fun K hK => ?_) AllReadyH.nil)
          go_simp
          go_at_call 77
          refine (HLV.out _).mono ?_
          rintro _ w3 ⟨rfl, hb3⟩
          have b3s : Below wr.heap.size wr w3 := (Below.refl wr.heap.size wr).drew.trans hb3
          have b3 : Below base wr w3 := b3s.mono hbz
          have HS3 := Lib.hid (HS.out.below b3s)
          refine hK.out _ _ (KS b3) (fun hHeld => ?_)
          (clear hK K; (try simp only [Act.put, List.setIfInBounds_toArray, List.set_cons_zero, List.set_cons_succ]))
          (refine rg_y (i := 18) (some 103) (v := ?_) rfl rfl (by kernel_rfl) (by kernel_rfl) (by kernel_rfl) (fun _ _ _ h => h) (by kernel_rfl) ?_ (by assumption) ?_; rotate_left 1; focus (intro w hSw; (try dsimp only at hSw); (first | (go_simp; done) | (go_simp; with_reducible rfl))); (try simp only [Act.put, List.setIfInBounds_toArray, List.set_cons_zero, List.set_cons_succ]))
          (refine wpAnyH_ready (rs := [19]) (by kernel_rfl) (by simp) ?_; refine AllReadyH.cons (o := _) rfl (fun K hK => ?_) AllReadyH.nil)
          go_simp
          have b4 : Below base wr (w3.alloc (.cells #[.string (((((⟨#[32, 32, 103, 114, 97, 110, 116, 32]⟩ : ByteArray) ++ ⟨#[103, 114, 111, 117, 112, 32]⟩) ++ who) ++ ⟨#[32]⟩) ++ lw)] 9)) := b3.alloc HS3.out.2.2.2 _
          refine hK.out _ _ (KS b4) (fun hHeld => ?_)
          (clear hK K; (try simp only [Act.put, List.setIfInBounds_toArray, List.set_cons_zero, List.set_cons_succ]))
          (refine wpAnyH_ready (rs := [20]) (by kernel_rfl) (by simp) ?_; refine AllReadyH.cons (o := _) rfl (fun K hK => ?_) AllReadyH.nil)
          refine step_appT (l := [_]) rfl (.tmp 85) (.tmp 104) rfl (HS3.out.lit1 _) (List.mem_cons_self ..) (by simp [Act.eval]) (by simp [Act.eval]) hlen ?_
          intro ra rn rc w5 hS5 hg5 hat5
          have b5 : Below base wr w5 := b4.grown hg5 (HS3.out.lit1 _).2.2.2 (fun q hq => (own_base HS3.out.1 q hq).1)
          refine hK.out _ _ (KS b5) (fun hHeld => ?_)
          (clear hK K; (try simp only [Act.put, List.setIfInBounds_toArray, List.set_cons_zero, List.set_cons_succ]))
          (refine rg_y (i := 21) (some 3) (v := ?_) rfl rfl (by kernel_rfl) (by kernel_rfl) (by kernel_rfl) (fun _ _ _ h => h) (by kernel_rfl) ?_ (by assumption) ?_; rotate_left 1; focus (intro w hSw; (try dsimp only at hSw); (first | (go_simp; done) | (go_simp; with_reducible rfl))); (try simp only [Act.put, List.setIfInBounds_toArray, List.set_cons_zero, List.set_cons_succ]))
          refine wpAnyH_done (by kernel_rfl) ?_ _
          have HS5 := Lib.hid hS5
          clear hHeld hS5 b3 b4 b5 hg5 hat5
          go_wp2_with fail
          go_roundw
          case rel => exact ⟨k + 1, _, _, _, by omega, by go_num, rfl, by rw [HE.out, HX.out]; exact HS5.out.done⟩
          case measure => simp [intOf]; omega
      · obtain rfl : k = g2.length := by omega
        go_wp2_with fail
        go_ret
        exact ⟨_, _, _, rfl, by rw [txX_4 _ HKD.out.symm]; exact HS.out.1.le (by omega), BW.out.trans (HS.out.2.2.1.mono (by omega))⟩
end Go.Proofs.YtdfdjfnfmibpjaaGreatDoor
