/- Contracts of package generation: fold's rounds. -/
import Derived.Test.YtbkbgkicpfbjfaaGreatDoorGeA
import Derived.Deep.RegionLaw
namespace Go.Proofs.YtbkbgkicpfbjfaaGreatDoor
open Go.RowKit
set_option maxHeartbeats 1600000
set_option maxRecDepth 8000
theorem FI.start {w w1 w2 : World} {cs : Array Value} {now : List Int} {nv : Value} (t t' : TypeId) (E1 : EB w1 w.heap.size cs) (H1 : Held w1 (w.heap.size + 1) 33) (hs : w.heap.size + 2 ≤ w1.heap.size) (B1 : Below w.heap.size w w1) (hb : Below w1.heap.size w1 w2) (ho : w2.ownsRow w1.heap.size 3 1 nv now.length (iv now)) :
    FI w ((w2.alloc (.cells #[nv] t)).alloc (.cells #[.slice none 0 0] t')) w1.heap.size w2.heap.size (w2.heap.size + 1) cs now [] nv (.slice none 0 0) := by
  have z := hb.size
  have s1 : (w2.alloc (.cells #[nv] t)).heap.size = w2.heap.size + 1 := by simp
  have kk : ∀ x, x < w2.heap.size → ((w2.alloc (.cells #[nv] t)).alloc (.cells #[.slice none 0 0] t')).heap[x]? = w2.heap[x]? := fun x hx => (heap_alloc_old _ _ (by omega)).trans (heap_alloc_old _ _ hx)
  obtain ⟨n1, -, n3⟩ := NW.owns ho
  have c1 : ((w2.alloc (.cells #[nv] t)).alloc (.cells #[.slice none 0 0] t')).cell? ⟨w2.heap.size, 0, none⟩ = some nv := by
    rw [World.cell?_of_block (a := ⟨w2.heap.size, 0, none⟩) (heap_alloc_old _ _ (by show w2.heap.size < _; omega)), cell_of_row _ w2.heap.size 0 _ t (0, 0) (heap_alloc_new w2 _)]; rfl
  have c2 : ((w2.alloc (.cells #[nv] t)).alloc (.cells #[.slice none 0 0] t')).cell? ⟨w2.heap.size + 1, 0, none⟩ = some (.slice none 0 0) := by
    have := cell_of_row _ _ 0 _ t' (0, 0) (heap_alloc_new (w2.alloc (.cells #[nv] t)) (.cells #[.slice none 0 0] t'))
    rw [s1] at this
    rw [this]; rfl
  refine ⟨(E1.of_block (hb.block _ (by omega)) z).of_block (kk _ (by omega)) (by simp; omega), (H1.of_block (hb.block _ (by omega))).of_block (kk _ (by omega)), hs, by simp; omega, c1, by simp, c2, by simp, z, by omega, by omega, n1.keep (by simp; omega) (fun x _ hx => kk x hx), ⟨rfl, .inl ⟨rfl, rfl⟩⟩, fun x hx => ?_, ⟨(fun e => by cases e), (fun e => by cases e)⟩, (B1.trans (hb.mono (by omega))).trans ⟨rfl, rfl, rfl, by simp; omega, fun x hx => kk x (by omega)⟩⟩
  have := n3 x hx
  exact ⟨this.1, by omega, by omega, fun e => by cases e⟩
theorem IS.at {w : World} {a : Option Addr} {c : Nat} {l : List Int} (h : IS w (.slice a l.length c) l) (h0 : 0 < l.length) : ∃ b o, a = some ⟨b, o, none⟩ ∧ ∀ j (hj : j < l.length), w.cell? ⟨b, o + j, none⟩ = some (.int .i64 l[j]) := by
  obtain ⟨a', c', e, -, h⟩ := h
  obtain ⟨rfl, -, rfl⟩ : a = a' ∧ True ∧ c = c' := by simpa using e
  obtain ⟨b, o, h1, -, h2⟩ := h h0
  exact ⟨b, o, h1, h2⟩
theorem below_up {w w' : World} (h : Below w.heap.size w w') : Below w.heap.size w w' := h
theorem NW.holds {w : World} {b o n c : Nat} {l : List Int} (h : NW w (.slice (some ⟨b, o, none⟩) n c) l) : ∀ j u, (iv l)[j]? = some u → w.cell? ((⟨b, o, none⟩ : Addr).add j) = some u := by
  obtain ⟨a', c', e, -, h⟩ := h
  rcases h with ⟨rfl, rfl, rfl⟩ | ⟨b', o', rfl, -, hc⟩
  · simp at e
  · obtain ⟨⟨rfl, rfl⟩, -, -⟩ : (b = b' ∧ o = o') ∧ n = l.length ∧ c = c' := by simpa using e
    intro j u hu
    have hj : j < l.length := by
      rcases Nat.lt_or_ge j l.length with h | h
      · exact h
      · rw [List.getElem?_eq_none (by unfold iv; simpa using h)] at hu; cases hu
    unfold iv at hu
    rw [List.getElem?_map, List.getElem?_eq_getElem hj] at hu
    rw [Addr.add_mid, hc j hj]; exact hu
theorem heap_alloc_new' (w : World) (o : Obj) (k : Nat) (h : w.heap.size = k) : (w.alloc o).heap[k]? = some o := by subst h; exact heap_alloc_new w o
theorem ok_bounds (e : En) (l2 ex : List Int) (g2 : List Gr) (h : okE e l2 g2 ex = true) : e.kind = 1 ∧ 1 ≤ e.lim ∧ e.lim ≤ 63 ∧ 0 ≤ e.last ∧ e.last ≤ 9999 ∧ sameE (onlyG e) e [] l2 [] g2 = true := by
  unfold okE okG Vp.grp at h
  simp only [Bool.and_eq_true, decide_eq_true_eq] at h
  obtain ⟨⟨h1, ⟨-, ⟨h2, h3⟩, -⟩, h5⟩, -⟩ := h
  have r1 := rng1 _ _ _ h2
  have r2 := rng1 _ _ _ h3
  exact ⟨h1, r1.1, r1.2, r2.1, r2.2, h5⟩
attribute [local go_sem ↓] ldEnt stEnt stEntRow
attribute [local go_sem] Held_drew isHead_mk headOf_mk cellsOfV_mk isAggV_mk row_new row_new2 row_new2' row_drew row_drewN vals_0 vals_25 vals_26 vals_27 vals_size allOne_nil allOne_cons one_int one_bool one_string one_pointer one_slice
theorem ge_fold_good (e : En) (al gr exv lv : Value) (l2 ex l : List Int) (g2 : List Gr) (w : World) (hm : MaxL w) (h1 : IS w al l2) (h2 : GS w gr g2) (h3 : IS w exv ex) (h4 : IS w lv l) (hok : okE e l2 g2 ex = true) (hex : ex.length ≤ 200) (hll : l.length ≤ 200) :
    Calls Tryz.prog 46 #[.agg (e.vals al gr), exv, lv] w (FoldR (Ge.foldG e.lim e.em l e.last ex []) (fun m => ({ e with last := m } : En).vals al gr) w) := by
  have hv := fun W (b : Below w.heap.size w W) => ge_valid e al gr exv l2 ex g2 W (hm.below b) (h1.below b) (h2.below b) (h3.below b)
  rw [hok] at hv
  obtain ⟨-, q1, q2, q3, q4, -⟩ := ok_bounds e l2 ex g2 hok
  have hcl := fun W (b : Below w.heap.size w W) => ge_clone exv ex W (h3.below b)
  have HV := Lib.hid hv
  have HC := Lib.hid hcl
  have hl0 := h4
  obtain ⟨la, lc, rfl, hlz, -⟩ := h4
  have HL := Lib.hid hl0
  have oal : one al = true := by obtain ⟨_, _, rfl, -⟩ := h1; rfl
  have ogr : one gr = true := by obtain ⟨_, _, rfl, -⟩ := h2; rfl
  clear hv hok hcl hl0 h1 h2 h3
  go_enter Tryz.func46, Tryz.ntmps46
  go_wp2_with (first | ((go_at_call 22; (with_reducible refine (HV.out _ (by (repeat (first | exact Below.refl _ _ | assumption | (refine Below.drew ?_) | (refine Below.alloc ?_ (by first | (simp; done) | (simp; omega) | omega) _) | (refine Below.setCell ?_ (by first | (simp; done) | (simp; omega) | omega) _))))).mono ?_)); rintro _ w1 ⟨rfl, hb⟩; obtain ⟨E1, H1, z1, B1⟩ := fd1 _ _ _ _ _ _ rfl hb; clear hb) | ((go_at_call 50; (with_reducible refine (HC.out _ B1).mono ?_)); rintro _ w2 ⟨nv, rfl, hown, hb2⟩; obtain ⟨na, nc, rfl, -⟩ := (NW.owns hown).1; have HF := Lib.hid (FI.start 24 24 E1 H1 z1 B1 hb2 hown); clear hown hb2 E1 H1))
  have hB1 : w.heap.size + 2 ≤ w1.heap.size := z1
  generalize w1.heap.size = B at HF hB1
  go_loopw [14, 15, 26] (fun _ _ i wr => ∃ (k : Nat) (m : Int) (now gone : List Int) (nv gv : Value), k ≤ l.length ∧ i = .int .i64 k ∧ 0 ≤ m ∧ m ≤ 9999 ∧ now.length + gone.length = ex.length + k ∧ FI w wr B w2.heap.size (w2.heap.size + 1) (({ e with last := m } : En).vals al gr) now gone nv gv ∧ Ge.foldG e.lim e.em l e.last ex [] = Ge.foldG e.lim e.em (l.drop k) m now gone) (fun _ _ i _ => l.length - (intOf i).toNat)
  case atStart => exact ⟨0, e.last, ex, [], _, _, Nat.zero_le _, rfl, q3, q4, rfl, HF.out, rfl⟩
  case round =>
    obtain ⟨k, m, now, gone, nv, gv, hk, rfl, m0, m9, hlen, hF, he⟩ := hrel
    have HE := Lib.hid he
    have HLn := Lib.hid hlen
    have HFI := Lib.hid hF
    clear he hlen hF
    by_cases hlt : k < l.length
    · obtain ⟨lb, lo, rfl, hlc⟩ := IS.at (HL.out.below (below_up HFI.out.hw)) (by omega)
      have cL := hlc k hlt
      have hr := HE.out
      rw [List.drop_eq_getElem_cons hlt, Ge.foldG] at hr
      have hH := HFI.out.hR
      clear hlc
      by_cases hb : l[k] < 1 ∨ 9999 < l[k]
      · rw [if_pos hb] at hr
        have HR := Lib.hid hr
        clear hr
        rcases (by omega : l[k] < 1 ∨ (1 ≤ l[k] ∧ 9999 < l[k])) with hb | ⟨hb1, hb2⟩
        all_goals
          go_wp2_with fail
          have hrow := row_setRow hH (zlit 0 ⟨#[]⟩)
          refine bodyPost_ret (res_row_tmp3 (n := 32) rfl Tryz.underlying27 rfl (by kernel_rfl) _ _ (w.heap.size + 1) rfl (congrArg Array.size hrow)) rfl ?_
          rw [HR.out]
          exact FoldR.bad (x := 2) (by decide) (hrow.trans (zlit_eq _ _)) (below_setRow HFI.out.hw (show w.heap.size ≤ w.heap.size + 1 by omega) _)
      · rw [if_neg hb] at hr
        have hb1 : 1 ≤ l[k] := by omega
        have hb2 : l[k] ≤ 9999 := by omega
        clear hb
        have cM := HFI.out.hE.cell 26 _ (vals_26 _ al gr)
        have fM := HFI.out.hE.2.1 26
        by_cases hle : l[k] ≤ m
        · rw [if_pos hle] at hr
          have HR := Lib.hid hr
          clear hr
          go_wp2_with fail
          have hrow := row_setRow hH (zlit 0 ⟨#[]⟩)
          refine bodyPost_ret (res_row_tmp3 (n := 32) rfl Tryz.underlying27 rfl (by kernel_rfl) _ _ (w.heap.size + 1) rfl (congrArg Array.size hrow)) rfl ?_
          rw [HR.out]
          exact FoldR.bad (x := 9) (by decide) (hrow.trans (zlit_eq _ _)) (below_setRow HFI.out.hw (show w.heap.size ≤ w.heap.size + 1 by omega) _)
        · rw [if_neg hle] at hr
          have HR := Lib.hid hr
          clear hr
          have HF1 := HFI.out.set 26 (by rw [vals_size]; decide) (.int .i64 l[k])
          rw [set_26] at HF1
          have HF2 := Lib.hid (HF1.alloc (World.grownBy_alloc _ (.cells #[.int .i64 l[k]] 3) none))
          have h400 : now.length ≤ 400 := by have := HLn.out; omega
          have h500 : gone.length ≤ 400 := by have := HLn.out; omega
          have c2 := HF1.hnf
          obtain ⟨na', nc', rfl, hnc, hnn⟩ := HFI.out.hnow
          have c1 := HF1.hn
          clear HF1
          rcases hnn with ⟨rfl, rfl, rfl⟩ | ⟨b, o, rfl, hbl, hcn⟩
          · have hA : (1 : Int) ≤ e.lim := q1
            go_wp2_with (at_builtin; refine wpList_append_grows _ rfl (.tmp 51) (.tmp 53) 24 rfl 3 _ (.int .i64 0) 1 8 Tryz.underlying24 ge_int ge_int0 ge_int1 ge_int2 rfl (by decide) none 0 0 (iv []) rfl (fun _ => ⟨rfl, rfl⟩) (by unfold iv; simp) (fun _ e => by cases e) ⟨wr.heap.size, 0, none⟩ 1 1 (iv [l[k]]) rfl rfl (World.news_of_block (heap_alloc_new' _ _ _ (by simp))) (iv_one _) (by omega) (by unfold maxLen; omega) (by omega) ?_; intro v' w' hown hgrow; have HF3 := HF2.out.app hown hgrow; have HFa := HF2.out.alloc hgrow; have n1 := HFa.hn; have n2 := HFa.hnf; obtain ⟨va, vc, rfl, -⟩ := HF3.hnow; have d1 := HF3.hn; have d2 := HFa.hE.cell 25 _ (vals_25 _ al gr); have d3 := HFa.hE.cell 27 _ (vals_27 _ al gr); have HF3 := Lib.hid HF3; clear hown hgrow HFa)
            go_roundw
            case rel =>
              refine ⟨k + 1, l[k], [l[k]], gone, _, _, by omega, by go_num, by omega, hb2, by have := HLn.out; simp at this ⊢; omega, HF3.out, ?_⟩
              rw [HR.out, Ge.stays_short _ _ _ _ (by simpa using hA), Ge.goes_short _ _ _ _ (by simpa using hA)]; simp
            case measure => simp [intOf]; omega
          · clear hbl hcn
            have i1 : (now.length : Int) ≤ (nc' : Int) := by omega
            have p1 : decide (l[k] < 1) = false := by rw [decide_eq_false_iff_not]; omega
            have p2 : decide (9999 < l[k]) = false := by rw [decide_eq_false_iff_not]; omega
            have p3 : decide (l[k] ≤ m) = false := by rw [decide_eq_false_iff_not]; omega
            rcases (by omega : ((now.length : Int) + 1 ≤ e.lim) ∨ e.lim < (now.length : Int) + 1) with hA | hA
            · go_wp2_with (at_builtin; refine wpList_append_grows _ rfl (.tmp 51) (.tmp 53) 24 rfl 3 _ (.int .i64 0) 1 8 Tryz.underlying24 ge_int ge_int0 ge_int1 ge_int2 rfl (by decide) (some ⟨b, o, none⟩) now.length now.length (iv now) rfl (fun e => by cases e) (by unfold iv; simp) (fun x e => by cases e; exact NW.holds HF2.out.hnow) ⟨wr.heap.size, 0, none⟩ 1 1 (iv [l[k]]) rfl rfl (World.news_of_block (heap_alloc_new' _ _ _ (by simp))) (iv_one _) (by omega) (by unfold maxLen; omega) (by omega) ?_; intro v' w' hown hgrow; have HF3 := HF2.out.app hown hgrow; have HFa := HF2.out.alloc hgrow; have n1 := HFa.hn; have n2 := HFa.hnf; obtain ⟨va, vc, rfl, -⟩ := HF3.hnow; have d1 := HF3.hn; have d2 := HFa.hE.cell 25 _ (vals_25 _ al gr); have d3 := HFa.hE.cell 27 _ (vals_27 _ al gr); rw [show (now ++ [l[k]]).length = now.length + 1 by simp] at HF3; have HF3 := Lib.hid HF3; clear hown hgrow HFa)
              go_roundw
              case rel =>
                refine ⟨k + 1, l[k], now ++ [l[k]], gone, _, _, by omega, by go_num, by omega, hb2, by have := HLn.out; simp; omega, HF3.out, ?_⟩
                rw [HR.out, Ge.stays_short _ _ _ _ (by simpa using hA), Ge.goes_short _ _ _ _ (by simpa using hA)]; simp
              case measure => simp [intOf]; omega
            · rcases Bool.eq_false_or_eq_true e.em with hem | hem
              rotate_left
              · have HEM := Lib.hid hem
                clear hem
                go_wp2_with (first | (at_builtin; refine wpList_append_grows _ rfl (.tmp 51) (.tmp 53) 24 rfl 3 _ (.int .i64 0) 1 8 Tryz.underlying24 ge_int ge_int0 ge_int1 ge_int2 rfl (by decide) (some ⟨b, o, none⟩) now.length now.length (iv now) rfl (fun e => by cases e) (by unfold iv; simp) (fun x e => by cases e; exact NW.holds HF2.out.hnow) ⟨wr.heap.size, 0, none⟩ 1 1 (iv [l[k]]) rfl rfl (World.news_of_block (heap_alloc_new' _ _ _ (by simp))) (iv_one _) (by omega) (by unfold maxLen; omega) (by omega) ?_; intro v' w' hown hgrow; have HF3 := HF2.out.app hown hgrow; have HFa := HF2.out.alloc hgrow; have n1 := HFa.hn; have n2 := HFa.hnf; obtain ⟨va, vc, rfl, -⟩ := HF3.hnow; have d1 := HF3.hn; have d2 := HFa.hE.cell 25 _ (vals_25 _ al gr); have d3 := HFa.hE.cell 27 _ (vals_27 _ al gr); rw [show ({ e with last := l[k] } : En).em = false from HEM.out] at d3; rw [show (now ++ [l[k]]).length = now.length + 1 by simp] at HF3; have HF3 := Lib.hid HF3; clear hown hgrow HFa) | (go_at_call 92; (with_reducible refine (HF3.out.drop ((now.length : Int) + 1 - e.lim).toNat _ (by omega) (by omega) (by simp; omega) (by simp; omega) (by omega)).mono ?_); rintro _ w4 ⟨rfl, nv', gv', HF4⟩; have HF4 := Lib.hid HF4))
                go_roundw
                case rel =>
                  refine ⟨k + 1, l[k], _, _, _, _, by omega, by go_num, by omega, hb2, ?_, HF4.out, ?_⟩
                  · have := HLn.out; simp; omega
                  · rw [HR.out, HEM.out]; unfold Ge.stays Ge.goes; rw [Ge.cut_some _ _ _ hA]
                case measure => simp [intOf]; omega
              · have HEM := Lib.hid hem
                clear hem
                go_wp2_with (first | (at_builtin; refine wpList_append_grows _ rfl (.tmp 51) (.tmp 53) 24 rfl 3 _ (.int .i64 0) 1 8 Tryz.underlying24 ge_int ge_int0 ge_int1 ge_int2 rfl (by decide) (some ⟨b, o, none⟩) now.length now.length (iv now) rfl (fun e => by cases e) (by unfold iv; simp) (fun x e => by cases e; exact NW.holds HF2.out.hnow) ⟨wr.heap.size, 0, none⟩ 1 1 (iv [l[k]]) rfl rfl (World.news_of_block (heap_alloc_new' _ _ _ (by simp))) (iv_one _) (by omega) (by unfold maxLen; omega) (by omega) ?_; intro v' w' hown hgrow; have HF3 := HF2.out.app hown hgrow; have HFa := HF2.out.alloc hgrow; have n1 := HFa.hn; have n2 := HFa.hnf; obtain ⟨va, vc, rfl, -⟩ := HF3.hnow; have d1 := HF3.hn; have d2 := HFa.hE.cell 25 _ (vals_25 _ al gr); have d3 := HFa.hE.cell 27 _ (vals_27 _ al gr); rw [show ({ e with last := l[k] } : En).em = true from HEM.out] at d3; rw [show (now ++ [l[k]]).length = now.length + 1 by simp] at HF3; have HF3 := Lib.hid HF3; clear hown hgrow HFa) | (go_at_call 92; (with_reducible refine (HF3.out.drop now.length _ (by omega) (by omega) (by rw [List.length_append, List.length_singleton]; omega) (by rw [List.length_append, List.length_singleton]; omega) (by omega)).mono ?_); rintro _ w4 ⟨rfl, nv', gv', HF4⟩; have HF4 := Lib.hid HF4))
                go_roundw
                case rel =>
                  refine ⟨k + 1, l[k], _, _, _, _, by omega, by go_num, by omega, hb2, ?_, HF4.out, ?_⟩
                  · have := HLn.out; simp; omega
                  · rw [HR.out, HEM.out]; unfold Ge.stays Ge.goes; rw [Ge.cut_all _ _ _ hA]
                case measure => simp [intOf]; omega
    · have hr := HE.out
      rw [List.drop_eq_nil_of_le (by omega), Ge.foldG] at hr
      have HR := Lib.hid hr
      clear hr
      have hH := HFI.out.hR
      have rE := HFI.out.hE.1
      have cN := HFI.out.hn
      have cK := HFI.out.hk
      have b1 := HFI.out.hB
      have b2 := HFI.out.hNB
      have b3 := HFI.out.hKB
      have cN2 : ∀ c, (wr.drew.setRow (w.heap.size + 1) c).cell? ⟨w2.heap.size, 0, none⟩ = some nv := fun c => (World.cell?_of_block (a := ⟨w2.heap.size, 0, none⟩) (setRow_block wr.drew _ _ c (by show w2.heap.size ≠ w.heap.size + 1; omega))).trans cN
      have cK2 : ∀ c, (wr.drew.setRow (w.heap.size + 1) c).cell? ⟨w2.heap.size + 1, 0, none⟩ = some gv := fun c => (World.cell?_of_block (a := ⟨w2.heap.size + 1, 0, none⟩) (setRow_block wr.drew _ _ c (by show w2.heap.size + 1 ≠ w.heap.size + 1; omega))).trans cK
      have ho : allOne (({ e with last := m } : En).vals al gr).toList = true := vals_one _ _ _ oal ogr
      go_wp2_with fail
      go_region_law (fail)
      all_goals
        go_wp2
        have hrow : row (wr.drew.setRow (w.heap.size + 1) (({ e with last := m } : En).vals al gr)) (w.heap.size + 1) = ({ e with last := m } : En).vals al gr := row_setRow hH.drew _
        refine bodyPost_ret (res_row_tmp3 (n := 32) rfl Tryz.underlying27 rfl (by kernel_rfl) _ _ (w.heap.size + 1) rfl ((congrArg Array.size hrow).trans (vals_size _ _ _))) rfl ?_
        rw [HR.out, hrow]
        have hB := HFI.out.hB
        have hk1 : ∀ x, B ≤ x → (wr.drew.setRow (w.heap.size + 1) (({ e with last := m } : En).vals al gr)).heap[x]? = wr.heap[x]? := fun x hx => setRow_block _ _ _ _ (by omega)
        refine ⟨nv, gv, by rw [if_pos rfl]; rfl, ?_, ?_, below_setRow HFI.out.hw.drew (show w.heap.size ≤ w.heap.size + 1 by omega) _⟩
        · exact ⟨(HFI.out.hnow.keep (by simp) (fun x hx _ => hk1 x (HFI.out.s1 x hx).1)).is (by have := HLn.out; omega), fun x hx => by have := (HFI.out.s1 x hx).1; omega⟩
        · obtain ⟨n1, -, n3⟩ := NW.owns HFI.out.hgone
          exact ⟨(n1.keep (by simp) (fun x hx _ => hk1 x (n3 x hx).1)).is (by have := HLn.out; omega), fun x hx => by have := (n3 x hx).1; omega⟩
end Go.Proofs.YtbkbgkicpfbjfaaGreatDoor
