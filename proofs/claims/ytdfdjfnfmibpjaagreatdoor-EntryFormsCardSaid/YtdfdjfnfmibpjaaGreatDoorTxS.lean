/- Contract of the reference's dataText. Printed by wip/mktxs.py. -/
import Derived.Test.YtdfdjfnfmibpjaaGreatDoorTxR
import Derived.Deep.DeepCutAuto
import Derived.Deep.RegionLaw
import Derived.Deep.RegionWith
namespace Go.Proofs.YtdfdjfnfmibpjaaGreatDoor
open Go.RowKit
set_option maxHeartbeats 64000000
set_option maxRecDepth 8000
set_option linter.unusedSimpArgs false
attribute [local go_sem ↓] ldEnt stEnt ldDat stDat ldDatH
attribute [local go_sem] isDat_mk isHead_mk headOf_mk cellsOfV_mk isAggV_mk row_new row_new2 row_new2' row_drew row_drewN vals_size vals_dat dat_size dat_one allOne_nil allOne_cons one_int one_bool one_string one_pointer one_slice one_func
theorem below_rowc {W1 w : World} {base b : Nat} {r : Array Value} (hB : Below base W1 w) (hb : b < base) (hr : row W1 b = r) (i : Nat) (v : Value) (hv : r[i]? = some v) : w.cell? ⟨b, i, none⟩ = some v := (hB.cell (p := ⟨b, i, none⟩) hb).trans (cell_row hr i v hv)
theorem below_rowB {W1 w : World} {base b : Nat} {r : Array Value} (hB : Below base W1 w) (hb : b < base) (hr : row W1 b = r) : row w b = r := by
  unfold row at hr ⊢
  rw [hB.block b hb]
  exact hr
theorem strs_newS (ps : List ByteArray) (W : World) (t : TypeId) : Strs (W.alloc (.cells (ps.map Value.string).toArray t)) W.heap.size ps := fun k hk => by
  rw [cell_of_row _ W.heap.size k _ t (0, 0) (heap_alloc_new W _)]
  simp [hk]
theorem rnums2 (e : En) (w : World) : Calls Tryz.prog 147 #[.agg e.dat] w fun r w' => r = .returned (.slice (some ⟨w.heap.size + 1, 0, none⟩) 14 14) ∧ (∀ k, k < 14 → w'.cell? ⟨w.heap.size + 1, k, none⟩ = some (.int .i64 ((numD e).getD k 0))) ∧ Below w.heap.size w w' ∧ w'.heap.size = w.heap.size + 2 := by
  have R := row_new w e.dat 23 (0, 0)
  have n0 := cell_row R 0 _ (dat_0 e)
  have n1 := cell_row R 1 _ (dat_1 e)
  have n2 := cell_row R 2 _ (dat_2 e)
  have n3 := cell_row R 3 _ (dat_3 e)
  have n4 := cell_row R 4 _ (dat_4 e)
  have n5 := cell_row R 5 _ (dat_5 e)
  have n6 := cell_row R 6 _ (dat_6 e)
  have n7 := cell_row R 7 _ (dat_7 e)
  have n8 := cell_row R 8 _ (dat_8 e)
  have n9 := cell_row R 9 _ (dat_9 e)
  have n10 := cell_row R 10 _ (dat_10 e)
  have n11 := cell_row R 11 _ (dat_11 e)
  have n12 := cell_row R 12 _ (dat_12 e)
  have n13 := cell_row R 13 _ (dat_13 e)
  have hi : ∀ k, k < 14 → ((w.alloc (.cells e.dat 23)).alloc (.cells #[Value.int .i64 e.d0, Value.int .i64 e.d1, Value.int .i64 e.d2, Value.int .i64 e.d3, Value.int .i64 e.d4, Value.int .i64 e.d5, Value.int .i64 e.d6, Value.int .i64 e.d7, Value.int .i64 e.d8, Value.int .i64 e.d9, Value.int .i64 e.d10, Value.int .i64 e.d11, Value.int .i64 e.d12, Value.int .i64 e.d13] 3)).cell? ⟨w.heap.size + 1, k, none⟩ = some (.int .i64 ((numD e).getD k 0)) := by
    intro k hk
    have e1 : (w.alloc (.cells e.dat 23)).heap.size = w.heap.size + 1 := by simp
    rw [← e1, cell_of_row _ _ k _ 3 (0, 0) (heap_alloc_new (w.alloc (.cells e.dat 23)) _)]
    show ((numD e).map (Value.int .i64)).toArray[k]? = _
    have hl : k < (numD e).length := hk
    rw [List.getElem?_toArray, List.getElem?_map, List.getElem?_eq_getElem hl, List.getD_eq_getElem?_getD, List.getElem?_eq_getElem hl]
    rfl
  have HI := Lib.hid hi
  clear hi R
  go_enter Tryz.func147, Tryz.ntmps147
  go_wp2_with fail
  go_ret
  exact ⟨rfl, HI.out, by exact belA, by simp⟩
theorem numW_size (k : Nat) : (numW.getD k ⟨#[]⟩).size ≤ 100 := by
  rw [List.getD_eq_getElem?_getD]
  rcases Nat.lt_or_ge k numW.length with h | h
  · rw [List.getElem?_eq_getElem h]
    have : ∀ p ∈ numW, p.size ≤ 100 := by decide
    exact this _ (List.getElem_mem h)
  · rw [List.getElem?_eq_none h]; decide
theorem org_eq (v : ByteArray) : (⟨#[32, 32, 111, 114, 103, 97, 110, 105, 115, 97, 116, 105, 111, 110, 32]⟩ : ByteArray) ++ v = ((⟨#[32, 32]⟩ : ByteArray) ++ ⟨#[111, 114, 103, 97, 110, 105, 115, 97, 116, 105, 111, 110]⟩ ++ ⟨#[32]⟩) ++ v := rfl
theorem fmt_eq (v : ByteArray) : (⟨#[32, 32, 102, 111, 114, 109, 97, 116, 32]⟩ : ByteArray) ++ v = ((⟨#[32, 32]⟩ : ByteArray) ++ ⟨#[102, 111, 114, 109, 97, 116]⟩ ++ ⟨#[32]⟩) ++ v := rfl

theorem rtx_data (e : En) (al gr : Value) (l : List Int) (w : World) (hv : Vp.dat e l = true) (h1 : IS w al l) :
    Calls Tryz.prog 73 #[.agg (e.vals al gr)] w fun r w' => ∃ a n c, r = .returned (.slice a n c) ∧ OW w' w.heap.size (.slice a n c) (txData e l []) ∧ Below w.heap.size w w' := by
  have HD := Lib.hid (DF.of hv)
  have HI := Lib.hid h1
  clear hv h1
  go_enter Tryz.func73, Tryz.ntmps73
  go_upto_region 2 with fail
  obtain ⟨W1, hW1⟩ : ∃ W1, W1 = (w.alloc (.cells (e.vals al gr) 27)).alloc (.cells e.dat 23) := ⟨_, rfl⟩
  obtain ⟨base, hbase⟩ : ∃ b, b = W1.heap.size := ⟨_, rfl⟩
  have hsz : W1.heap.size = w.heap.size + 2 := by rw [hW1]; simp
  have RE : Hid (row W1 w.heap.size = e.vals al gr) := Lib.hid (by rw [hW1]; exact row_below (show Below (w.alloc (.cells (e.vals al gr) 27)).heap.size (w.alloc (.cells (e.vals al gr) 27)) _ by exact belA) (row_new w _ _ (0, 0)) (by rw [vals_size]; decide))
  have RD : Hid (row W1 (w.heap.size + 1) = e.dat) := Lib.hid (by rw [hW1]; have := row_new (w.alloc (.cells (e.vals al gr) 27)) e.dat 23 (0, 0); simpa using this)
  have BW : Hid (Below w.heap.size w W1) := Lib.hid (by rw [hW1]; exact belA)
  have hd1 : w.heap.size + 1 < base := by omega
  have hd0 : w.heap.size < base := by omega
  have hdz : base ≤ W1.heap.size := by omega
  have c0 := cell_row RD.out 0 _ (dat_0 e)
  rw [← hW1]
  clear hW1
  go_cut [4] (fun v wx => ∃ a n c, v = .slice a n c ∧ SX base W1 wx (.slice a n c) (ln ⟨#[105, 100]⟩ (nmB e.d0)) [])
  case first =>
    go_wp2_with (go_at_call 74; (with_reducible refine (rline ⟨#[105, 100]⟩ e.d0 _ (by decide) HD.out.d0.1 HD.out.d0.2).mono ?_); rintro _ w2 ⟨a, n, c, rfl, ho, hb⟩)
    go_meet
    exact ⟨a, n, c, rfl, SX.first hb ho (Below.refl _ _) hdz⟩

  obtain ⟨a, n, c, rfl, hS⟩ := hcut
  have HS := Lib.hid hS
  have hB := hS.2.2.1
  have z1 : w.heap.size + 1 < wc.heap.size := by have := hS.2.2.2; omega
  have z0 : w.heap.size < wc.heap.size := by omega
  clear hS
  go_upto_region 3 with fail
  go_cut [4] (fun v wx => ∃ a n c, v = .slice a n c ∧ SX base W1 wx (.slice a n c) (ln ⟨#[105, 100]⟩ (nmB e.d0) ++ ln ⟨#[111, 114, 103, 97, 110, 105, 115, 97, 116, 105, 111, 110]⟩ (atW orgW e.d1)) [])
  case first =>
    have cx := below_rowc hB hd1 RD.out 1 _ (dat_1 e)
    rcases (by have := HD.out.d1; omega : e.d1 = 0 ∨ e.d1 = 1 ∨ e.d1 = 2 ∨ e.d1 = 3) with h | h | h | h
    all_goals
      have E : Hid (ln ⟨#[111, 114, 103, 97, 110, 105, 115, 97, 116, 105, 111, 110]⟩ (atW orgW e.d1) = [_]) := Lib.hid (by rw [h]; exact (ln_of _ _ (by decide)).trans (congrArg (fun z => [z]) (org_eq _).symm))
      rw [h] at cx
      clear h
      go_wp2_with (at_builtin; refine wp_appL rfl (.tmp 15) (.tmp 22) rfl (HS.out.lit _ _) (List.mem_cons_self ..) rfl rfl ?_; intro a2 n2 c2 w2 hS2 _ _)
      go_meet
      exact ⟨a2, n2, c2, rfl, by rw [E.out]; exact hS2.done⟩
  obtain ⟨a, n, c, rfl, hS⟩ := hcut
  have HS := Lib.hid hS
  have hB := hS.2.2.1
  have z1 : w.heap.size + 1 < wc.heap.size := by have := hS.2.2.2; omega
  have z0 : w.heap.size < wc.heap.size := by omega
  clear hS
  have cx := below_rowc hB hd1 RD.out 2 _ (dat_2 e)
  obtain ⟨d2, hd2⟩ : ∃ d2, d2 = e.d2 := ⟨_, rfl⟩
  rw [← hd2] at cx
  have HD2 := Lib.hid hd2
  have hr2 : d2 = 0 ∨ d2 = 1 ∨ d2 = 2 := by have := HD.out.d2; omega
  clear hd2
  go_upto_if 26 with fail
  go_cut [4] (fun v wx => ∃ a n c, v = .slice a n c ∧ SX base W1 wx (.slice a n c) (ln ⟨#[105, 100]⟩ (nmB e.d0) ++ ln ⟨#[111, 114, 103, 97, 110, 105, 115, 97, 116, 105, 111, 110]⟩ (atW orgW e.d1) ++ ln ⟨#[102, 111, 114, 109, 97, 116]⟩ (atW fmtW e.d2)) [])
  case first =>
    rcases hr2 with rfl | rfl | rfl
    · have E : Hid (ln ⟨#[102, 111, 114, 109, 97, 116]⟩ (atW fmtW e.d2) = []) := Lib.hid (by rw [← HD2.out]; rfl)
      go_wp2_with fail
      go_meet
      exact ⟨a, n, c, rfl, by rw [E.out, List.append_nil]; exact HS.out⟩
    all_goals
      have E : Hid (ln ⟨#[102, 111, 114, 109, 97, 116]⟩ (atW fmtW e.d2) = [_]) := Lib.hid (by rw [← HD2.out]; exact (ln_of _ _ (by decide)).trans (congrArg (fun z => [z]) (fmt_eq _).symm))
      go_wp2_with (at_builtin; refine wp_appL rfl (.tmp 27) (.tmp 34) rfl (HS.out.lit _ _) (List.mem_cons_self ..) rfl rfl ?_; intro a2 n2 c2 w2 hS2 _ _)
      go_meet
      exact ⟨a2, n2, c2, rfl, by rw [E.out]; exact hS2.done⟩
  obtain ⟨a, n, c, rfl, hS⟩ := hcut
  have HS := Lib.hid hS
  have hB := hS.2.2.1
  have z1 : w.heap.size + 1 < wc.heap.size := by have := hS.2.2.2; omega
  have z0 : w.heap.size < wc.heap.size := by omega
  clear hS
  have HO := Lib.hid (fun q hq => (own_base HS.out.1 q hq).2)
  have RX : ∀ o : Obj, row (wc.alloc o) (w.heap.size + 1) = e.dat := fun o => below_rowB (hB.alloc HS.out.2.2.2 o) hd1 RD.out
  have HW := Lib.hid (strs_newS numW wc 9)
  go_wp2_with (go_at_call 147; (refine (rnums2 e _).mono ?_); rintro _ w2 ⟨rfl, hN, hb, hs⟩; have HSK := Lib.hid ((HS.out.below ((Below.refl _ _).alloc (Nat.le_refl _) _)).below hb); have HWC := Lib.hid (fun k (hk : k < 11) => (hb.cell (p := ⟨wc.heap.size, k, none⟩) (by simp)).trans (HW.out k hk)); simp at hs; rw [World.size_alloc] at hN; have HNC := Lib.hid hN; clear hN hb)
  have HK2 := Lib.hid (show KP wc.heap.size w2 w2 (.slice a n c) from ⟨Nat.le_refl _, fun b h1 h2 => ⟨rfl, fun e => by have := HO.out b e; omega⟩⟩)
  have hn2 : (ln ⟨#[105, 100]⟩ (nmB e.d0) ++ ln ⟨#[111, 114, 103, 97, 110, 105, 115, 97, 116, 105, 111, 110]⟩ (atW orgW e.d1) ++ ln ⟨#[102, 111, 114, 109, 97, 116]⟩ (atW fmtW e.d2)).length ≤ 3 := LenLe.h
  go_loopw [4, 7] (fun v i wr => ∃ (k : Nat) (a : Option Addr) (n c : Nat), k ≤ 11 ∧ i = .int .i64 k ∧ v = .slice a n c ∧ SX base W1 wr (.slice a n c) (nsT e (ln ⟨#[105, 100]⟩ (nmB e.d0) ++ ln ⟨#[111, 114, 103, 97, 110, 105, 115, 97, 116, 105, 111, 110]⟩ (atW orgW e.d1) ++ ln ⟨#[102, 111, 114, 109, 97, 116]⟩ (atW fmtW e.d2)) k) [] ∧ KP wc.heap.size w2 wr (.slice a n c)) (fun _ i _ => 11 - (intOf i).toNat)
  case atStart => exact ⟨0, a, n, c, Nat.zero_le _, rfl, rfl, HSK.out, HK2.out⟩
  case round =>
    obtain ⟨k, a', n', c', hk, rfl, rfl, hS, hK⟩ := hrel
    have HS2 := Lib.hid hS
    have HK := Lib.hid hK
    have y0 := hK.1
    clear hS hK
    by_cases hlt : k < 11
    · obtain ⟨wd, hwd⟩ : ∃ wd, wd = numW.getD k ⟨#[]⟩ := ⟨_, rfl⟩
      obtain ⟨nv, hnv⟩ : ∃ nv, nv = (numT e).getD k 0 := ⟨_, rfl⟩
      have hz := numT_at HD.out k
      rw [← hnv] at hz
      have hws : wd.size ≤ 100 := by rw [hwd]; exact numW_size k
      have hlen : (nsT e (ln ⟨#[105, 100]⟩ (nmB e.d0) ++ ln ⟨#[111, 114, 103, 97, 110, 105, 115, 97, 116, 105, 111, 110]⟩ (atW orgW e.d1) ++ ln ⟨#[102, 111, 114, 109, 97, 116]⟩ (atW fmtW e.d2)) k).length + (ln wd (nmB nv)).length ≤ 1000 := by
        have := nsT_len e (ln ⟨#[105, 100]⟩ (nmB e.d0) ++ ln ⟨#[111, 114, 103, 97, 110, 105, 115, 97, 116, 105, 111, 110]⟩ (atW orgW e.d1) ++ ln ⟨#[102, 111, 114, 109, 97, 116]⟩ (atW fmtW e.d2)) k
        have := ln_len wd (nmB nv)
        omega
      have p1 : wr.cell? ⟨wc.heap.size, k, none⟩ = some (.string wd) := (HK.out.cell (Nat.le_refl _) (by omega)).trans ((HWC.out k hlt).trans (by rw [hwd, List.getD_eq_getElem?_getD, List.getElem?_eq_getElem (show k < numW.length from hlt)]; rfl))
      have p2 : wr.cell? ⟨wc.heap.size + 1 + 1, k + 3, none⟩ = some (.int .i64 nv) := (HK.out.cell (by omega) (by omega)).trans ((HNC.out (k + 3) (by omega)).trans (by rw [hnv]; rfl))
      have j1 : (0 : Int) ≤ (k : Int) := by omega
      have j2 : (k : Int) < 11 := by omega
      have x1 : ((k : Int) + 3).toNat = k + 3 := by omega
      have x2 : (0 : Int) ≤ (k : Int) + 3 := by omega
      have x3 : (k : Int) + 3 < 14 := by omega
      have x4 : IntKind.i64.wrap ((k : Int) + 3) = (k : Int) + 3 := IntWalk.i64_in _ ⟨by omega, by omega⟩
      have HE := Lib.hid (show nsT e (ln ⟨#[105, 100]⟩ (nmB e.d0) ++ ln ⟨#[111, 114, 103, 97, 110, 105, 115, 97, 116, 105, 111, 110]⟩ (atW orgW e.d1) ++ ln ⟨#[102, 111, 114, 109, 97, 116]⟩ (atW fmtW e.d2)) (k + 1) = nsT e (ln ⟨#[105, 100]⟩ (nmB e.d0) ++ ln ⟨#[111, 114, 103, 97, 110, 105, 115, 97, 116, 105, 111, 110]⟩ (atW orgW e.d1) ++ ln ⟨#[102, 111, 114, 109, 97, 116]⟩ (atW fmtW e.d2)) k ++ ln wd (nmB nv) by rw [nsT, hwd, hnv])
      clear hwd hnv
      go_wp2_with fail
      go_region_law (first
        | (refine step_appT rfl (.tmp 45) (.tmp 55) rfl HS3.out (List.mem_cons_self ..) (by simp [Act.eval, Act.put]) (by simp [Act.eval, Act.put]) hlen ?_; intro a3 n3 c3 w3 hS3 hg hat)
        | (go_simp; go_at_call 74; (with_reducible refine (rline wd nv _ hws hz.1 hz.2).mono ?_); rintro _ w3 ⟨a2, n2, c2, rfl, ho, hb⟩; have HS3 := Lib.hid ((HS2.out.below (show Below wr.heap.size wr wr.drew by exact belA)).call hb ho); have HK3 := Lib.hid ((HK.out.below (show Below wr.heap.size wr wr.drew by exact belA)).below hb); clear ho hb))
      all_goals
        go_wp2_with fail
        go_roundw
        case rel => exact ⟨k + 1, a3, n3, c3, by omega, by go_num, rfl, by rw [HE.out]; exact hS3.done, HK3.out.app hg hat⟩
        case measure => simp [intOf]; omega
    · obtain rfl : k = 11 := by omega
      clear HK HWC HNC HK2 HO HW RX
      have HS := Lib.hid (show SX base W1 wr (.slice a' n' c') (nsT e (txD0 e []) 11) [] from HS2.out)
      clear HS2

      go_upto_region 12 with fail
      have c1 := below_rowc HS.out.2.2.1 hd1 RD.out 14 _ (dat_14 e)
      have c2 := below_rowc HS.out.2.2.1 hd1 RD.out 15 _ (dat_15 e)
      go_cut [4] (fun v wx => ∃ a n c, v = .slice a n c ∧ SX base W1 wx (.slice a n c) (nsT e (txD0 e []) 11 ++ ln ⟨#[117, 110, 105, 113, 117, 101]⟩ (ysB e.uq) ++ ln ⟨#[99, 108, 97, 115, 115]⟩ (nmB e.cls)) [])
      case first =>
        go_region_law (first | (refine step_appL (l := ln ⟨#[117, 110, 105, 113, 117, 101]⟩ (ysB e.uq)) (sv := .slice fa fn fc) rfl (.tmp 57) (.tmp 60) rfl HS.out (by simp) (by simp [Act.eval, Act.put]) (by simp [Act.eval, Act.put]) ?_; intro ra rn rc w3 hS _ _; have c2 := below_rowc hS.2.2.1 hd1 RD.out 15 _ (dat_15 e); have HS := Lib.hid hS; clear hS) | (refine step_appL (l := ln ⟨#[99, 108, 97, 115, 115]⟩ (nmB e.cls)) (sv := .slice ga gn gc) rfl (.tmp 61) (.tmp 64) rfl HS.out (by simp) (by simp [Act.eval, Act.put]) (by simp [Act.eval, Act.put]) ?_; intro ra rn rc w3 hS _ _; have HS := Lib.hid hS; clear hS) | (go_simp; go_at_call 75; (with_reducible refine (rflagL ⟨#[117, 110, 105, 113, 117, 101]⟩ e.uq _ (by decide)).mono ?_); rintro _ w3 ⟨fa, fn, fc, rfl, ho, hb⟩; have hS := (HS.out.below (by exact belA)).call hb ho; have c2 := below_rowc hS.2.2.1 hd1 RD.out 15 _ (dat_15 e); have HS := Lib.hid hS; clear hS ho hb) | (go_simp; go_at_call 74; (with_reducible refine (rline ⟨#[99, 108, 97, 115, 115]⟩ e.cls _ (by decide) HD.out.cls.1 (by have := HD.out.cls; omega)).mono ?_); rintro _ w3 ⟨ga, gn, gc, rfl, ho, hb⟩; have hS := (HS.out.below (by exact belA)).call hb ho; have c1 := below_rowc hS.2.2.1 hd1 RD.out 14 _ (dat_14 e); have c2 := below_rowc hS.2.2.1 hd1 RD.out 15 _ (dat_15 e); have HS := Lib.hid hS; clear hS ho hb))
        all_goals
          go_wp2_with fail
          go_meet
          exact ⟨_, _, _, rfl, HS.out.done⟩
      clear c1 c2
      clear HS
      obtain ⟨a, n, c, rfl, hS⟩ := hcut
      have HS := Lib.hid hS
      clear hS
      go_upto_region 13 with fail
      have c1 := below_rowc HS.out.2.2.1 hd1 RD.out 16 _ (dat_16 e)
      have c2 := below_rowc HS.out.2.2.1 hd1 RD.out 17 _ (dat_17 e)
      go_cut [4] (fun v wx => ∃ a n c, v = .slice a n c ∧ SX base W1 wx (.slice a n c) (nsT e (txD0 e []) 11 ++ ln ⟨#[117, 110, 105, 113, 117, 101]⟩ (ysB e.uq) ++ ln ⟨#[99, 108, 97, 115, 115]⟩ (nmB e.cls) ++ ln ⟨#[118, 111, 108, 117, 109, 101]⟩ e.vol ++ ln ⟨#[111, 119, 110, 101, 114]⟩ e.own) [])
      case first =>
        go_region_law (first | (refine step_appL (l := ln ⟨#[118, 111, 108, 117, 109, 101]⟩ e.vol) (sv := .slice fa fn fc) rfl (.tmp 66) (.tmp 69) rfl HS.out (by simp) (by simp [Act.eval, Act.put]) (by simp [Act.eval, Act.put]) ?_; intro ra rn rc w3 hS _ _; have c2 := below_rowc hS.2.2.1 hd1 RD.out 17 _ (dat_17 e); have HS := Lib.hid hS; clear hS) | (refine step_appL (l := ln ⟨#[111, 119, 110, 101, 114]⟩ e.own) (sv := .slice ga gn gc) rfl (.tmp 70) (.tmp 73) rfl HS.out (by simp) (by simp [Act.eval, Act.put]) (by simp [Act.eval, Act.put]) ?_; intro ra rn rc w3 hS _ _; have HS := Lib.hid hS; clear hS) | (go_simp; go_at_call 76; (with_reducible refine (rsayL ⟨#[118, 111, 108, 117, 109, 101]⟩ e.vol _ (by decide) (by have := HD.out.vol; omega)).mono ?_); rintro _ w3 ⟨fa, fn, fc, rfl, ho, hb⟩; have hS := (HS.out.below (by exact belA)).call hb ho; have c2 := below_rowc hS.2.2.1 hd1 RD.out 17 _ (dat_17 e); have HS := Lib.hid hS; clear hS ho hb) | (go_simp; go_at_call 76; (with_reducible refine (rsayL ⟨#[111, 119, 110, 101, 114]⟩ e.own _ (by decide) (by have := HD.out.own; omega)).mono ?_); rintro _ w3 ⟨ga, gn, gc, rfl, ho, hb⟩; have hS := (HS.out.below (by exact belA)).call hb ho; have c1 := below_rowc hS.2.2.1 hd1 RD.out 16 _ (dat_16 e); have c2 := below_rowc hS.2.2.1 hd1 RD.out 17 _ (dat_17 e); have HS := Lib.hid hS; clear hS ho hb))
        all_goals
          go_wp2_with fail
          go_meet
          exact ⟨_, _, _, rfl, HS.out.done⟩
      clear c1 c2
      clear HS
      obtain ⟨a, n, c, rfl, hS⟩ := hcut
      have HS := Lib.hid hS
      clear hS
      go_upto_region 14 with fail
      have c1 := below_rowc HS.out.2.2.1 hd1 RD.out 18 _ (dat_18 e)
      have c2 := below_rowc HS.out.2.2.1 hd1 RD.out 19 _ (dat_19 e)
      go_cut [4] (fun v wx => ∃ a n c, v = .slice a n c ∧ SX base W1 wx (.slice a n c) (nsT e (txD0 e []) 11 ++ ln ⟨#[117, 110, 105, 113, 117, 101]⟩ (ysB e.uq) ++ ln ⟨#[99, 108, 97, 115, 115]⟩ (nmB e.cls) ++ ln ⟨#[118, 111, 108, 117, 109, 101]⟩ e.vol ++ ln ⟨#[111, 119, 110, 101, 114]⟩ e.own ++ ln ⟨#[99, 114, 101, 97, 116, 101, 100]⟩ (dtB e.cr) ++ ln ⟨#[101, 120, 112, 105, 114, 101, 115]⟩ (dtB e.ex)) [])
      case first =>
        go_region_law (first | (refine step_appL (l := ln ⟨#[99, 114, 101, 97, 116, 101, 100]⟩ (dtB e.cr)) (sv := .slice fa fn fc) rfl (.tmp 75) (.tmp 78) rfl HS.out (by simp) (by simp [Act.eval, Act.put]) (by simp [Act.eval, Act.put]) ?_; intro ra rn rc w3 hS _ _; have c2 := below_rowc hS.2.2.1 hd1 RD.out 19 _ (dat_19 e); have HS := Lib.hid hS; clear hS) | (refine step_appL (l := ln ⟨#[101, 120, 112, 105, 114, 101, 115]⟩ (dtB e.ex)) (sv := .slice ga gn gc) rfl (.tmp 79) (.tmp 82) rfl HS.out (by simp) (by simp [Act.eval, Act.put]) (by simp [Act.eval, Act.put]) ?_; intro ra rn rc w3 hS _ _; have HS := Lib.hid hS; clear hS) | (go_simp; go_at_call 154; (with_reducible refine (rdateL ⟨#[99, 114, 101, 97, 116, 101, 100]⟩ e.cr _ (by decide) HD.out.cr).mono ?_); rintro _ w3 ⟨fa, fn, fc, rfl, ho, hb⟩; have hS := (HS.out.below (by exact belA)).call hb ho; have c2 := below_rowc hS.2.2.1 hd1 RD.out 19 _ (dat_19 e); have HS := Lib.hid hS; clear hS ho hb) | (go_simp; go_at_call 154; (with_reducible refine (rdateL ⟨#[101, 120, 112, 105, 114, 101, 115]⟩ e.ex _ (by decide) HD.out.ex).mono ?_); rintro _ w3 ⟨ga, gn, gc, rfl, ho, hb⟩; have hS := (HS.out.below (by exact belA)).call hb ho; have c1 := below_rowc hS.2.2.1 hd1 RD.out 18 _ (dat_18 e); have c2 := below_rowc hS.2.2.1 hd1 RD.out 19 _ (dat_19 e); have HS := Lib.hid hS; clear hS ho hb))
        all_goals
          go_wp2_with fail
          go_meet
          exact ⟨_, _, _, rfl, HS.out.done⟩
      clear c1 c2
      clear HS
      obtain ⟨a, n, c, rfl, hS⟩ := hcut
      have HS := Lib.hid hS
      clear hS
      go_upto_region 15 with fail
      have c1 := below_rowc HS.out.2.2.1 hd1 RD.out 20 _ (dat_20 e)
      go_cut [4] (fun v wx => ∃ a n c, v = .slice a n c ∧ SX base W1 wx (.slice a n c) (nsT e (txD0 e []) 11 ++ ln ⟨#[117, 110, 105, 113, 117, 101]⟩ (ysB e.uq) ++ ln ⟨#[99, 108, 97, 115, 115]⟩ (nmB e.cls) ++ ln ⟨#[118, 111, 108, 117, 109, 101]⟩ e.vol ++ ln ⟨#[111, 119, 110, 101, 114]⟩ e.own ++ ln ⟨#[99, 114, 101, 97, 116, 101, 100]⟩ (dtB e.cr) ++ ln ⟨#[101, 120, 112, 105, 114, 101, 115]⟩ (dtB e.ex) ++ ln ⟨#[97, 114, 99, 104, 105, 118, 101, 100]⟩ (ysB e.ar)) [])
      case first =>
        go_wp2_with (first | (at_builtin; refine wp_appL (l := ln ⟨#[97, 114, 99, 104, 105, 118, 101, 100]⟩ (ysB e.ar)) (sv := .slice fa fn fc) rfl (.tmp 84) (.tmp 87) rfl HS.out (by simp) (by simp [Act.eval, Act.put]) (by simp [Act.eval, Act.put]) ?_; intro ra rn rc w3 hS _ _; have HS := Lib.hid hS; clear hS) | (go_at_call 75; (with_reducible refine (rflagL ⟨#[97, 114, 99, 104, 105, 118, 101, 100]⟩ e.ar _ (by decide)).mono ?_); rintro _ w3 ⟨fa, fn, fc, rfl, ho, hb⟩; have hS := (HS.out.below (by exact belA)).call hb ho; have c1 := below_rowc hS.2.2.1 hd1 RD.out 20 _ (dat_20 e); have HS := Lib.hid hS; clear hS ho hb))
        go_meet
        exact ⟨_, _, _, rfl, HS.out.done⟩
      clear c1
      clear HS
      obtain ⟨a, n, c, rfl, hS⟩ := hcut
      have HS := Lib.hid hS
      clear hS
      have HS1 := Lib.hid (show SX base W1 wc (.slice a n c) (txD1 e (nsT e (txD0 e []) 11)) [] from HS.out)
      clear HS
      obtain ⟨la, lc, rfl, -, hcell⟩ := HI.out
      have HL := Lib.hid hcell
      have hl4 := HD.out.l4
      have cl : wc.cell? ⟨w.heap.size, 23, none⟩ = some (.slice la l.length lc) := below_rowc HS1.out.2.2.1 hd0 RE.out 23 _ (vals_23 e _ gr)
      have HCL := Lib.hid (fun W (b : Below wc.heap.size wc W) => (b.cell (p := ⟨w.heap.size, 23, none⟩) (show w.heap.size < wc.heap.size by have := HS1.out.2.2.2; omega)).trans cl)
      have HLC := Lib.hid (fun W (b : Below wc.heap.size wc W) k (hk : k < l.length) => (show ∃ b o, la = some ⟨b, o, none⟩ ∧ W.cell? ⟨b, o + k, none⟩ = some (.int .i64 l[k]) by
        obtain ⟨b', o, h1, h2, h3⟩ := HL.out (by omega)
        have B1 : Below w.heap.size w W := BW.out.trans ((HS1.out.2.2.1.trans (b.mono HS1.out.2.2.2)).mono (by omega))
        exact ⟨b', o, h1, (B1.cell (p := ⟨b', o + k, none⟩) h2).trans (h3 k hk)⟩))
      clear hcell cl
      go_wp2_with fail
      go_loopw [8, 9] (fun v i wr => ∃ (k : Nat), k ≤ l.length ∧ i = .int .i64 k ∧ v = .string (altS l k) ∧ Below wc.heap.size wc wr) (fun _ i _ => l.length - (intOf i).toNat)
      case atStart => exact ⟨0, Nat.zero_le _, rfl, rfl, Below.refl _ _⟩
      case round =>
        obtain ⟨k, hk, rfl, rfl, hB⟩ := hrel
        have hc := HCL.out wr hB
        have HB := Lib.hid hB
        have hz := altS_size HD.out (fun n h1 h2 => (itoa_pos n h1 h2).2) k hk
        by_cases hlt : k < l.length
        · obtain ⟨b, o, rfl, hcell⟩ := HLC.out wr hB k hlt
          have hn := HD.out.al l[k] (List.getElem_mem _)
          have hip := itoa_pos l[k] hn.1 hn.2
          have HT := Lib.hid (rdecimal l[k] wr hn.1 hn.2)
          have HA := Lib.hid (show altS l (k + 1) = (if 0 < k then altS l k ++ ⟨#[32]⟩ else altS l k) ++ ⟨(Lib.itoa l[k]).toArray⟩ by rw [altS, List.getD_eq_getElem?_getD, List.getElem?_eq_getElem hlt]; rfl)
          have l0 : (⟨(Lib.itoa l[k]).toArray⟩ : ByteArray).size ≤ 13 := by show (Lib.itoa l[k]).toArray.size ≤ 13; rw [List.size_toArray]; exact hip.2
          generalize (⟨(Lib.itoa l[k]).toArray⟩ : ByteArray) = d at HT HA l0
          generalize altS l k = s at HA hz ⊢
          have j1 : (0 : Int) ≤ (k : Int) := by omega
          have j2 : (k : Int) < (l.length : Int) := by omega
          have l1 : ¬ 9223372036854775807 < s.size + 1 := by omega
          have l2 : ¬ 9223372036854775807 < s.size + 1 + d.size := by omega
          have l3 : ¬ 9223372036854775807 < s.size + d.size := by omega
          clear hip hn hz hB
          rcases Nat.eq_zero_or_pos k with h0 | h0
          · have f : decide (0 < (k : Int)) = false := by rw [decide_eq_false_iff_not]; omega
            have g0 : ¬ 0 < k := by omega
            have HA := Lib.hid (HA.out.trans (by rw [if_neg g0]))
            clear h0
            go_wp2_with (go_at_call 155; (with_reducible refine HT.out.mono ?_); rintro _ w3 ⟨rfl, hb⟩)
            go_roundw
            case rel =>
              repeat apply Exists.intro
              exact ⟨⟨k + 1, by omega, by go_num, by rw [HA.out], HB.out.trans (hb.mono HB.out.size)⟩, rfl⟩
            case measure => simp [intOf]; omega
          · have f : decide (0 < (k : Int)) = true := by rw [decide_eq_true_eq]; omega
            go_wp2_with (go_at_call 155; (with_reducible refine HT.out.mono ?_); rintro _ w3 ⟨rfl, hb⟩)
            go_roundw
            case rel =>
              repeat apply Exists.intro
              exact ⟨⟨k + 1, by omega, by go_num, by rw [HA.out, if_pos h0], HB.out.trans (hb.mono HB.out.size)⟩, rfl⟩
            case measure => simp [intOf]; omega
        · obtain rfl : k = l.length := by omega
          have HS := Lib.hid (HS1.out.below HB.out)
          have hzz : (altS l l.length).size ≤ 1000 := by have := HD.out.l4; omega
          clear HB hB hz HCL HLC HL HS1
          rw [altS_all] at hzz ⊢

          go_upto_region 23 with fail
          have c2 := below_rowc HS.out.2.2.1 hd0 RE.out 24 _ (vals_24 e _ gr)
          go_cut [2] (fun v wx => ∃ a n c, v = .slice a n c ∧ SX base W1 wx (.slice a n c) (txData e l []) [])
          case first =>
            go_region_law (first | (refine step_appL (l := ln ⟨#[97, 108, 116, 101, 114, 110, 97, 116, 101, 115]⟩ (altB l)) (sv := .slice fa fn fc) rfl (.tmp 108) (.tmp 110) rfl HS.out (by simp) (by simp [Act.eval, Act.put]) (by simp [Act.eval, Act.put]) ?_; intro ra rn rc w3 hS _ _; have c2 := below_rowc hS.2.2.1 hd0 RE.out 24 _ (vals_24 e _ gr); have HS := Lib.hid hS; clear hS) | (refine step_appL (l := ln ⟨#[117, 115, 101, 100]⟩ (dtB e.used)) (sv := .slice ga gn gc) rfl (.tmp 111) (.tmp 114) rfl HS.out (by simp) (by simp [Act.eval, Act.put]) (by simp [Act.eval, Act.put]) ?_; intro ra rn rc w3 hS _ _; have HS := Lib.hid hS; clear hS) | (go_simp; go_at_call 76; (with_reducible refine (rsayL ⟨#[97, 108, 116, 101, 114, 110, 97, 116, 101, 115]⟩ (altB l) _ (by decide) hzz).mono ?_); rintro _ w3 ⟨fa, fn, fc, rfl, ho, hb⟩; have hS := (HS.out.below (by exact belA)).call hb ho; have c2 := below_rowc hS.2.2.1 hd0 RE.out 24 _ (vals_24 e _ gr); have HS := Lib.hid hS; clear hS ho hb) | (go_simp; go_at_call 154; (with_reducible refine (rdateL ⟨#[117, 115, 101, 100]⟩ e.used _ (by decide) HD.out.us).mono ?_); rintro _ w3 ⟨ga, gn, gc, rfl, ho, hb⟩; have hS := (HS.out.below (by exact belA)).call hb ho; have c2 := below_rowc hS.2.2.1 hd0 RE.out 24 _ (vals_24 e _ gr); have HS := Lib.hid hS; clear hS ho hb))
            all_goals
              go_wp2_with fail
              go_meet
              exact ⟨_, _, _, rfl, HS.out.done⟩
          clear c2 HS
          obtain ⟨a, n, c, rfl, hS⟩ := hcut
          have HS := Lib.hid hS
          clear hS
          go_wp2_with fail
          go_ret
          exact ⟨a, n, c, rfl, HS.out.1.le (by omega), BW.out.trans (HS.out.2.2.1.mono (by omega))⟩
end Go.Proofs.YtdfdjfnfmibpjaaGreatDoor
