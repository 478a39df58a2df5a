/- Several texts in one: LaGe CardGe. -/
import Derived.Test.YtbkbgkicpfbjfaaGreatDoorGeU
import Derived.Test.YtbkbgkicpfbjfaaGreatDoorRsG
import Derived.Test.YtbkbgkicpfbjfaaGreatDoorFrameEn
section
/- The walk of the law GenerationRelative. -/
namespace Go.Proofs.YtbkbgkicpfbjfaaGreatDoor
open Go.RowKit
set_option maxHeartbeats 1600000
set_option maxRecDepth 8000
theorem abs_at (last : Int) (ex : List Int) (h0 : 0 ≤ last) (h1 : last ≤ 9999) (h2 : Ge.fits 0 ex last = true) (k : Nat) (hk : k < ex.length) : Ge.abs last ex ((k : Int) + 1 - (ex.length : Int)) = (ex[k], 0) := by
  rw [abs_ok last _ ex h0 h1 h2, if_neg (by omega), if_neg (by omega)]
  have e : ((ex.length : Int) - 1 + ((k : Int) + 1 - (ex.length : Int))).toNat = k := by omega
  rw [e]
  simp [List.getD_eq_getElem?_getD, List.getElem?_eq_getElem hk]
theorem abs_low (last n : Int) (ex : List Int) (h0 : 0 ≤ last) (h1 : last ≤ 9999) (h2 : Ge.fits 0 ex last = true) (hn : 0 ≤ n) : Ge.abs last ex (-(ex.length : Int) - n) = (0, 6) := by
  rw [abs_ok last _ ex h0 h1 h2, if_neg (by omega), if_pos (by omega)]
theorem abs_far (last n : Int) (ex : List Int) (h0 : 0 ≤ last) (h1 : last ≤ 9999) (h2 : Ge.fits 0 ex last = true) (hn : 0 ≤ n) (hf : 9999 < last + 1 + n) : Ge.abs last ex (1 + n) = (0, 8) := by
  rw [abs_ok last _ ex h0 h1 h2, if_pos (by omega), if_pos (by omega)]
theorem abs_near (last n : Int) (ex : List Int) (h0 : 0 ≤ last) (h1 : last ≤ 9999) (h2 : Ge.fits 0 ex last = true) (hn : 0 ≤ n) (hf : last + 1 + n ≤ 9999) : Ge.abs last ex (1 + n) = (last + 1 + n, 0) := by
  rw [abs_ok last _ ex h0 h1 h2, if_pos (by omega), if_neg (by omega), show last + (1 + n) = last + 1 + n by omega]
theorem abs_new (e : En) (l2 ex : List Int) (g2 : List Gr) (n : Int) (hok : okE e l2 g2 ex = true) (h1 : e.last < n) (h2 : n ≤ 9999) : Ge.abs n (Ge.stays e.lim e.em ex n) 0 = (n, 0) := by
  obtain ⟨-, q1, -, q3, -⟩ := ok_bounds e l2 ex g2 hok
  have hn := ok_step e l2 g2 ex e.last n hok h1 h2
  have hfit : Ge.fits 0 (Ge.stays e.lim e.em ex n) n = true := by
    unfold okE at hn
    simp only [Bool.and_eq_true] at hn
    exact hn.2
  rw [abs_ok n _ _ (by omega) h2 hfit, if_neg (by omega), (Ge.stays_eq e.lim e.em ex n q1).1, if_neg (by simp)]
  have e1 : (((ex.drop (Ge.cut e.lim e.em (ex ++ [n])) ++ [n]).length : Int) - 1 + 0).toNat = (ex.drop (Ge.cut e.lim e.em (ex ++ [n]))).length := by rw [List.length_append, List.length_singleton]; omega
  rw [e1, List.getD_eq_getElem?_getD, List.getElem?_append_right (Nat.le_refl _)]
  simp
theorem ldGens (ev : Operand → Value) (w : World) (dst x t pos af gd) (h1 : isHead (ev x) = true) (h2 : (row w (headOf (ev x))).size = 3) :
    (execOp ev ⟨dst, .load 39 x, t, pos, af, gd⟩).run Tryz.prog w = .ok (.value (.agg (row w (headOf (ev x))))) w :=
  exec_load_row ev w _ 2 _ Tryz.underlying39 rfl (by kernel_rfl) dst x t pos af gd h1 h2
attribute [local go_sem ↓] ldEnt stEnt ldGens
attribute [local go_sem] isHead_mk headOf_mk cellsOfV_mk isAggV_mk row_new row_new2 row_new2' row_drew row_drewN vals_size allOne_nil allOne_cons one_int one_bool one_string one_pointer one_slice vals_1 vals_26
theorem law_rel_few (e : En) (a1 a2 a3 : Option Addr) (n1 c1 n2 c2 n3 c3 : Nat) (n : Int) (w : World) (hm : MaxL w) (hf : (decide (e.name.size ≤ 60) && decide (n2 ≤ 12) && decide (n1 ≤ 8) && decide (n3 ≤ 80) && decide (0 ≤ 20)) = false) :
    Calls Tryz.prog 5 #[.agg (e.vals (.slice a1 n1 c1) (.slice a2 n2 c2)), .slice a3 n3 c3, .int .u8 n] w fun r w' => r = .returned (.bool true) ∧ Below w.heap.size w w' := by
  go_enter Tryz.func5, Tryz.ntmps5
  go_wp2_with (first | (go_at_call 15; (with_reducible refine (aw38 _ (hm.below (by (repeat (first | exact Below.refl _ _ | assumption | (refine Below.drew ?_) | (refine Below.alloc ?_ (by first | (simp; done) | (simp; omega) | omega) _) | (refine Below.setCell ?_ (by first | (simp; done) | (simp; omega) | omega) _)))))).mono ?_); rintro _ w1 ⟨rfl, hb⟩; have R := row_below hb (row_new w _ _ _) (by simp [vals_size]); have B := below1 hb; clear hb) | (go_at_call 16; (with_reducible refine (few38 e _ _ _ _ _ _ _ _ _ _ _ _ _).mono ?_); rw [hf]; rintro _ w2 ⟨rfl, hb⟩; have B := bt B hb; clear hb))
  go_ret
  exact ⟨rfl, B⟩
theorem law_rel_not (e : En) (a1 a2 : Option Addr) (n1 c1 n2 c2 : Nat) (exv : Value) (l2 ex : List Int) (g2 : List Gr) (n : Int) (w : World) (hm : MaxL w) (h1 : IS w (.slice a1 n1 c1) l2) (h2 : GS w (.slice a2 n2 c2) g2) (h3 : IS w exv ex)
    (hf : (decide (e.name.size ≤ 60) && decide (n2 ≤ 12) && decide (n1 ≤ 8) && decide (ex.length ≤ 80) && decide (0 ≤ 20)) = true) (hok : okE e l2 g2 ex = false) :
    Calls Tryz.prog 5 #[.agg (e.vals (.slice a1 n1 c1) (.slice a2 n2 c2)), exv, .int .u8 n] w fun r w' => r = .returned (.bool true) ∧ Below w.heap.size w w' := by
  obtain ⟨a3, c3, rfl, -⟩ := id h3
  have hv := fun W (b : Below w.heap.size w W) => ge_valid e (.slice a1 n1 c1) (.slice a2 n2 c2) _ l2 ex g2 W (hm.below b) (h1.below b) (h2.below b) (h3.below b)
  rw [hok] at hv
  have HV := Lib.hid hv
  clear hv h1 h2 h3 hok
  go_enter Tryz.func5, Tryz.ntmps5
  go_wp2_with (first | (go_at_call 15; (with_reducible refine (aw38 _ (hm.below (by (repeat (first | exact Below.refl _ _ | assumption | (refine Below.drew ?_) | (refine Below.alloc ?_ (by first | (simp; done) | (simp; omega) | omega) _) | (refine Below.setCell ?_ (by first | (simp; done) | (simp; omega) | omega) _)))))).mono ?_); rintro _ w1 ⟨rfl, hb⟩; have R := row_below hb (row_new w _ _ _) (by simp [vals_size]); have B := below1 hb; clear hb) | (go_at_call 16; (with_reducible refine (few38 e _ _ _ _ _ _ _ _ _ _ _ _ _).mono ?_); rw [hf]; rintro _ w2 ⟨rfl, hb⟩; have R := row_below hb R (by simp [vals_size]); have B := bt B hb; clear hb) | (go_at_call 22; (with_reducible refine (HV.out _ B).mono ?_); rintro _ w3 ⟨rfl, hb⟩; have R := row_below hb R (by simp [vals_size]); have B := bt B hb; clear hb))
  go_ret
  exact ⟨rfl, B⟩
theorem law_rel_good (e : En) (a1 a2 : Option Addr) (n1 c1 n2 c2 : Nat) (exv : Value) (l2 ex : List Int) (g2 : List Gr) (n : Int) (w : World) (hm : MaxL w) (h1 : IS w (.slice a1 n1 c1) l2) (h2 : GS w (.slice a2 n2 c2) g2) (h3 : IS w exv ex)
    (hf : (decide (e.name.size ≤ 60) && decide (n2 ≤ 12) && decide (n1 ≤ 8) && decide (ex.length ≤ 80) && decide (0 ≤ 20)) = true) (hok : okE e l2 g2 ex = true) (hn : 0 ≤ n ∧ n ≤ 255) :
    Calls Tryz.prog 5 #[.agg (e.vals (.slice a1 n1 c1) (.slice a2 n2 c2)), exv, .int .u8 n] w fun r w' => r = .returned (.bool true) ∧ Below w.heap.size w w' := by
  have hf' := hf
  simp only [Bool.and_eq_true, decide_eq_true_eq] at hf'
  obtain ⟨⟨-, hex⟩, -⟩ := hf'
  obtain ⟨n0, n255⟩ := hn
  obtain ⟨a3, c3, rfl, -⟩ := id h3
  have hv := fun W (b : Below w.heap.size w W) => ge_valid e (.slice a1 n1 c1) (.slice a2 n2 c2) _ l2 ex g2 W (hm.below b) (h1.below b) (h2.below b) (h3.below b)
  rw [hok] at hv
  obtain ⟨-, q1, q2, q3, q4, -⟩ := ok_bounds e l2 ex g2 hok
  have hfit : Ge.fits 0 ex e.last = true := by
    unfold okE at hok
    simp only [Bool.and_eq_true] at hok
    exact hok.2
  have HV := Lib.hid hv
  have hA := fun (rel : Int) W (b : Below w.heap.size w W) => ge_abs e.name e.last rel (.slice a3 ex.length c3) ex W (h3.below b)
  have HA := Lib.hid hA
  have hlow := hA (-(ex.length : Int) - n)
  rw [abs_low e.last n ex q3 q4 hfit n0] at hlow
  have HLow := Lib.hid hlow
  have HFit := Lib.hid hfit
  have HOK := Lib.hid hok
  have H3 := Lib.hid (fun W (b : Below w.heap.size w W) => h3.below b)
  have H1x := Lib.hid h1
  have H2x := Lib.hid h2
  have hcv : IntKind.i64.wrap n = n := IntWalk.i64_in _ ⟨by omega, by omega⟩
  clear hv h1 h2 h3 hok hlow hfit hA
  go_enter Tryz.func5, Tryz.ntmps5
  go_wp2_with (first | (go_at_call 15; (with_reducible refine (aw38 _ (hm.below (by (repeat (first | exact Below.refl _ _ | assumption | (refine Below.drew ?_) | (refine Below.alloc ?_ (by first | (simp; done) | (simp; omega) | omega) _) | (refine Below.setCell ?_ (by first | (simp; done) | (simp; omega) | omega) _)))))).mono ?_); rintro _ w1 ⟨rfl, hb⟩; have R := row_below hb (row_new w _ _ _) (by simp [vals_size]); have B := below1 hb; clear hb) | (go_at_call 16; (with_reducible refine (few38 e _ _ _ _ _ _ _ _ _ _ _ _ _).mono ?_); rw [hf]; rintro _ w2 ⟨rfl, hb⟩; have R := row_below hb R (by simp [vals_size]); have B := bt B hb; clear hb) | (go_at_call 22; (with_reducible refine (HV.out _ B).mono ?_); rintro _ w3 ⟨rfl, hb⟩; have R := row_below hb R (by simp [vals_size]); have m1 := cell_row R 1 _ (vals_1 e _ _); have m26 := cell_row R 26 _ (vals_26 e _ _); have B := bt B hb; clear hb))
  go_loopw [40] (fun i wr => ∃ k : Nat, k ≤ ex.length ∧ i = .int .i64 k ∧ row wr w.heap.size = e.vals (.slice a1 n1 c1) (.slice a2 n2 c2) ∧ row wr w3.heap.size = #[.string e.name, .int .i64 e.last, .slice a3 ex.length c3] ∧ Below w.heap.size w wr) (fun i _ => ex.length - (intOf i).toNat)
  case atStart => exact ⟨0, Nat.zero_le _, rfl, row_keep R (by simp [vals_size]) (Below.refl _ _) _, row_new _ _ _ _, B.alloc B.size _⟩
  case round =>
    obtain ⟨k, hk, rfl, R1, R2, B1⟩ := hrel
    by_cases hlt : k < ex.length
    · obtain ⟨b3, o3, rfl, hc⟩ := IS.at (H3.out _ B1) (by omega)
      clear hc
      have hcl := fun (W : World) (b : Below w.heap.size w W) => (H3.out W b).cellAt k hlt
      have HCL := Lib.hid hcl
      have ha := HA.out ((k : Int) + 1 - (ex.length : Int))
      rw [abs_at e.last ex q3 q4 HFit.out k hlt] at ha
      have HAk := Lib.hid ha
      clear ha hcl
      go_wp2_with (go_at_call 23; (with_reducible refine (HAk.out _ B1).mono ?_); rintro _ w5 ⟨rfl, hb⟩; have R1 := row_below hb R1 (by simp [vals_size]); have R2 := row_below hb R2 (by simp); have B2 := bt B1 hb; have cc := HCL.out _ B2; clear hb)
      go_roundw
      case rel => exact ⟨k + 1, by omega, by go_num, R1, R2, B2⟩
      case measure => simp [intOf]; omega
    · have m1 := cell_row R1 1 _ (vals_1 e _ _)
      have m26 := cell_row R1 26 _ (vals_26 e _ _)
      by_cases hfar : 9999 < e.last + 1 + n
      · have ha := HA.out (1 + n)
        rw [abs_far e.last n ex q3 q4 HFit.out n0 hfar] at ha
        have HAk := Lib.hid ha
        have d1 : decide (9999 < e.last + 1 + n) = true := decide_eq_true hfar
        clear ha
        go_wp2_with (first | (go_at_call 23; (with_reducible refine (HLow.out _ B1).mono ?_); rintro _ w5 ⟨rfl, hb⟩; have R1 := row_below hb R1 (by simp [vals_size]); have m26 := cell_row R1 26 _ (vals_26 e _ _); have R2 := row_below hb R2 (by simp); have B2 := bt B1 hb; clear hb) | (go_at_call 23; (with_reducible refine (HAk.out _ B2).mono ?_); rintro _ w6 ⟨rfl, hb⟩; have R1 := row_below hb R1 (by simp [vals_size]); have m26 := cell_row R1 26 _ (vals_26 e _ _); have B3 := bt B2 hb; clear hb))
        go_ret
        exact ⟨rfl, B3⟩
      · have hnear : e.last + 1 + n ≤ 9999 := by omega
        have ha := HA.out (1 + n)
        rw [abs_near e.last n ex q3 q4 HFit.out n0 hnear] at ha
        have HAk := Lib.hid ha
        have d1 : decide (9999 < e.last + 1 + n) = false := decide_eq_false hfar
        have hF : foldA e l2 g2 ex [e.last + 1 + n] = (0, e.last + 1 + n, Ge.stays e.lim e.em ex (e.last + 1 + n), [] ++ Ge.goes e.lim e.em ex (e.last + 1 + n)) := by
          unfold foldA
          rw [if_pos HOK.out]
          unfold Ge.foldG
          rw [if_neg (by omega), if_neg (by omega)]
          unfold Ge.foldG
          rfl
        have hr2 := fun W lv (b : Below w.heap.size w W) (hl : IS W lv [e.last + 1 + n]) => ge_roll e (.slice a1 n1 c1) (.slice a2 n2 c2) _ lv l2 ex [e.last + 1 + n] g2 W (hm.below b) (H1x.out.below b) (H2x.out.below b) (H3.out W b) hl (by omega) (by simp)
        have hN := fun v W (i : IS W v (Ge.stays e.lim e.em ex (e.last + 1 + n))) => ge_abs ⟨#[]⟩ (e.last + 1 + n) 0 v (Ge.stays e.lim e.em ex (e.last + 1 + n)) W i
        rw [abs_new e l2 ex g2 (e.last + 1 + n) HOK.out (by omega) hnear] at hN
        rw [hF, rolled_good] at hr2
        have ho : allOne (({ e with last := e.last + 1 + n } : En).vals (.slice a1 n1 c1) (.slice a2 n2 c2)).toList = true := vals_one _ _ _ rfl rfl
        have hx : (({ e with last := e.last + 1 + n } : En).vals (.slice a1 n1 c1) (.slice a2 n2 c2)).size = 33 := vals_size _ _ _
        have v26 : (({ e with last := e.last + 1 + n } : En).vals (.slice a1 n1 c1) (.slice a2 n2 c2))[26]? = some (.int .i64 (e.last + 1 + n)) := vals_26 _ _ _
        generalize ({ e with last := e.last + 1 + n } : En).vals (.slice a1 n1 c1) (.slice a2 n2 c2) = X at hr2 ho hx v26
        simp only at hr2
        generalize Ge.stays e.lim e.em ex (e.last + 1 + n) = st at hr2 hN
        have HR2 := Lib.hid hr2
        have HNN := Lib.hid hN
        have e5 : wrap64 (e.last + 1 + n) = e.last + 1 + n := by unfold wrap64; omega
        clear ha hF hr2 hN
        go_wp2_with (first
          | (go_at_call 23; (with_reducible refine (HLow.out _ B1).mono ?_); rintro _ w5 ⟨rfl, hb⟩; have R1 := row_below hb R1 (by simp [vals_size]); have m26 := cell_row R1 26 _ (vals_26 e _ _); have R2 := row_below hb R2 (by simp); have B2 := bt B1 hb; clear hb)
          | (go_at_call 23; (with_reducible refine (HAk.out _ B2).mono ?_); rintro _ w6 ⟨rfl, hb⟩; have R1 := row_below hb R1 (by simp [vals_size]); have m26 := cell_row R1 26 _ (vals_26 e _ _); have B3 := bt B2 hb; clear hb)
          | (go_at_call 17; (with_reducible refine (HR2.out _ _ (B3.alloc B3.size _) (IS.one1' rfl)).mono ?_); rintro _ w7 ⟨v2, rfl, ⟨i2, -⟩, hb⟩; obtain ⟨a9, c9, rfl, -⟩ := id i2; have R3 := row_below hb (row_keep R1 (by simp [vals_size]) (Below.refl _ _) _) (by simp [vals_size]); have R4 := row_keep R3 (by simp [vals_size]) (Below.refl _ _) (.cells X 27); have k26 := cell_row (row_new w7 X 27 (0, 0)) 26 _ v26; have B4 := bt (B3.alloc B3.size _) hb; have i3 := i2.below ((Below.refl _ _).alloc (Nat.le_refl _) (.cells X 27)); have B5 := B4.alloc B4.size (.cells X 27); clear hb)
          | (go_at_call 23; (with_reducible refine (HNN.out _ _ i3).mono ?_); rintro _ w8 ⟨rfl, hb⟩; have R5 := row_below hb R4 (by simp [vals_size]); have m26 := cell_row R5 26 _ (vals_26 e _ _); have B6 := bt B5 hb; clear hb))
        go_ret
        exact ⟨rfl, B6⟩
theorem law_rel_any (e : En) (a1 a2 a3 : Option Addr) (n1 c1 n2 c2 n3 c3 : Nat) (n : Int) (w : World) (hm : MaxL w) (hn : 0 ≤ n ∧ n ≤ 255) (o1 : n1 ≤ 1000 → ∃ l : List Int, l.length = n1 ∧ IS w (.slice a1 n1 c1) l) (o2 : n2 ≤ 1000 → ∃ l : List Gr, l.length = n2 ∧ GS w (.slice a2 n2 c2) l) (o3 : n3 ≤ 1000 → ∃ l : List Int, l.length = n3 ∧ IS w (.slice a3 n3 c3) l) :
    Calls Tryz.prog 5 #[.agg (e.vals (.slice a1 n1 c1) (.slice a2 n2 c2)), .slice a3 n3 c3, .int .u8 n] w fun r w' => r = .returned (.bool true) ∧ Below w.heap.size w w' := by
  cases hf : (decide (e.name.size ≤ 60) && decide (n2 ≤ 12) && decide (n1 ≤ 8) && decide (n3 ≤ 80) && decide (0 ≤ 20))
  · exact law_rel_few e a1 a2 a3 n1 c1 n2 c2 n3 c3 n w hm hf
  · have hf' := hf
    simp only [Bool.and_eq_true, decide_eq_true_eq] at hf'
    obtain ⟨l2, rfl, h1⟩ := o1 (by omega)
    obtain ⟨g2, rfl, h2⟩ := o2 (by omega)
    obtain ⟨ex, rfl, h3⟩ := o3 (by omega)
    cases hok : okE e l2 g2 ex
    · exact law_rel_not e a1 a2 _ c1 _ c2 _ l2 ex g2 n w hm h1 h2 h3 hf hok
    · exact law_rel_good e a1 a2 _ c1 _ c2 _ l2 ex g2 n w hm h1 h2 h3 hf hok hn
end Go.Proofs.YtbkbgkicpfbjfaaGreatDoor

end
section
/- The statement GenerationRelative: the walk, the frame of the row, the card. Conditions: none beyond the statement. -/
namespace Go.Proofs.YtbkbgkicpfbjfaaGreatDoor.generationRelative
open Go.ChangeShapes Go.WideShapes Go.ChangeAt Go.RowKit Go.Proofs.YtbkbgkicpfbjfaaGreatDoor
open Go.ChangeMaps (open_string)

set_option maxRecDepth 100000 in
theorem contract (H : Type) (enc : TypeId × Value → H) (W : World) (base : Nat) (args : Array Value) (ds gs : List (DataW H)) (before : List MemPlace)
    (hval : ∀ (j : Nat) t v, Tryz.f5.params[j]? = some t → args[j]? = some v → Value.okWide Tryz.prog W .any base t v)
    (hW : DataW.Whole enc Tryz.prog Tryz.f5.params.toList Rows.generationRelativeSpec.vars false W args.toList ds gs before) (_hL : laidMetH Tryz.prog Rows.generationRelativeRow.laid W) (hS : W.ShapedOpen Tryz.prog) :
    Calls Tryz.prog 5 args W fun e W' => ∃ v, e = .returned v ∧ Rows.generationRelativeSpec.post enc Tryz.prog Tryz.f5 false true false false W args v W' := by
  have hW' := hW
  have hlt : ∀ x ∈ before, x.block < W.heap.size := fun x hx => by simpa using hW'.lt x hx
  obtain ⟨p, q, hA0, hV, rfl, hfz, hnd⟩ := hW
  have hA : DataW.TrodAll enc Tryz.prog W 0 (fun _ => true) true Tryz.f5.params.toList args.toList ds p := hA0
  have hK := hA
  rw [Tryz.params5] at hA hval
  obtain ⟨v0, vs0, d0, ds0, p0, q0, hargs, rfl, rfl, h0, r0⟩ := trodAll_cons hA
  obtain ⟨v1, vs1, d1, ds1, p1, q1, rfl, rfl, rfl, h1, r1⟩ := trodAll_cons r0
  obtain ⟨v2, vs2, d2, ds2, p2, q2, rfl, rfl, rfl, h2, r2⟩ := trodAll_cons r1
  obtain ⟨rfl, rfl, rfl⟩ := trodAll_nil r2
  obtain rfl : args = #[v0, v1, v2] := by cases args; simp_all
  obtain ⟨rfl, rfl⟩ := trodVars_none hV
  obtain ⟨e0, a0, n0, c0, x0, m0, k0, rfl, o0, u0⟩ := open_en (hval 0 27 v0 rfl rfl) h0
  obtain ⟨a1, n1, c1, rfl, o1⟩ := open_islice' (hval 1 24 v1 rfl rfl) h1
  obtain ⟨n2, rfl⟩ := okWide_int Tryz.underlying5 (hval 2 5 v2 rfl rfl)
  have b2 := int_bounds Tryz.underlying5 (hval 2 5 _ rfl rfl)
  refine (law_rel_any e0 a0 x0 a1 n0 c0 m0 k0 n1 c1 n2 W (max_of hS) b2 o0 u0 o1).mono fun e W' ⟨he, hb⟩ => ?_
  subst he
  exact ⟨_, rfl, _, _, _, [], _, [], hW', trodAll_cons_mk (shut_bool Tryz.underlying4 _) trodAll_mk0, args_below hb (by rw [Tryz.params5]; kernel_rfl) hK (fun x hx => hlt x (by simpa using hx)), rfl, hb.frame _, fun h => by cases h⟩

def zEnt : Value := .agg #[.int .i64 0, .string ⟨#[]⟩, .int .i64 0, .int .i64 0, .int .i64 0, .int .i64 0, .int .i64 0, .int .i64 0, .int .i64 0, .int .i64 0, .int .i64 0, .int .i64 0, .int .i64 0, .int .i64 0, .int .i64 0, .int .i64 0, .bool false, .int .i64 0, .string ⟨#[]⟩, .string ⟨#[]⟩, .int .i64 0, .int .i64 0, .bool false, .slice none 0 0, .int .i64 0, .int .i64 0, .int .i64 0, .bool false, .string ⟨#[]⟩, .string ⟨#[]⟩, .int .i64 0, .int .i64 0, .slice none 0 0]
def dEnt {H : Type} : DataW H := .agg [.lit (.int .i64 0), .lit (.string []), .agg [.lit (.int .i64 0), .lit (.int .i64 0), .lit (.int .i64 0), .lit (.int .i64 0), .lit (.int .i64 0), .lit (.int .i64 0), .lit (.int .i64 0), .lit (.int .i64 0), .lit (.int .i64 0), .lit (.int .i64 0), .lit (.int .i64 0), .lit (.int .i64 0), .lit (.int .i64 0), .lit (.int .i64 0), .lit (.bool false), .lit (.int .i64 0), .lit (.string []), .lit (.string []), .lit (.int .i64 0), .lit (.int .i64 0), .lit (.bool false)], .nil, .lit (.int .i64 0), .lit (.int .i64 0), .lit (.int .i64 0), .lit (.bool false), .lit (.string []), .lit (.string []), .lit (.int .i64 0), .lit (.int .i64 0), .nil]

theorem laid_met (os : Os) : laidMetH Tryz.prog Rows.generationRelativeRow.laid ((World.laidAll Tryz.prog os Rows.generationRelativeRow.laid).forCall (fun _ _ => 0) ⟨#[], #[(zEnt : Value), (.slice none 0 0 : Value), (.int .u8 0 : Value)], []⟩).memory := by
  rw [MakeChecks.laidMetH_plain _ _ _ (by kernel_rfl)]; exact laidMet_laidAll _ (by kernel_rfl) (by kernel_rfl)
theorem reads (os : Os) {H : Type} (enc : TypeId × Value → H) : ∃ places, DataW.whole enc Tryz.prog ((World.laidAll Tryz.prog os Rows.generationRelativeRow.laid).forCall (fun _ _ => 0) ⟨#[], #[(zEnt : Value), (.slice none 0 0 : Value), (.int .u8 0 : Value)], []⟩).memory Tryz.f5.params.toList Rows.generationRelativeSpec.vars false #[(zEnt : Value), (.slice none 0 0 : Value), (.int .u8 0 : Value)].toList 8 = some ([dEnt, .nil, .lit (.int .u8 0)], [], places) :=
  ⟨[], by kernel_rfl⟩

set_option maxRecDepth 100000 in
theorem lifted (os : Os) (started : os.Started) (H : Type) (enc : TypeId × Value → H) (F : Stop.Interp) :
    ReturnsInHanded {} Tryz.checked os 5 .any ((OpenSpec.ofChange Rows.generationRelativeSpec).preRow enc Tryz.prog Tryz.f5 Rows.generationRelativeRow.domain false Rows.generationRelativeRow.laid) (((OpenSpec.ofChange Rows.generationRelativeSpec).at F).post enc Tryz.prog Tryz.f5 false true false false) := by
  obtain ⟨places, hx⟩ := reads os enc
  refine returnsInHanded_of_row (C := Tryz.checked) (s := OpenSpec.ofChange Rows.generationRelativeSpec) ownk started (by kernel_rfl) Tryz.func5
    (witness_lay (enc := enc) (C := Tryz.checked) false #[(zEnt : Value), (.slice none 0 0 : Value), (.int .u8 0 : Value)] (World.shaped_of_ZipB (by kernel_rfl) (by kernel_rfl)) (by kernel_rfl)
      (OpenSpec.preRow_of_cond 8 hx (by kernel_rfl) (fun k hk => by cases hk) (by kernel_rfl) (laid_met os))) ?_
  intro W base args ds gs before hval hW _ _ _ hL hS _
  exact contract H enc W base args ds gs before hval hW hL hS

theorem said : Rows.GenerationRelativeSaid :=
  OpenClaim.holds_of_cond 5 Tryz.f5 rfl rfl rfl rfl rfl rfl rfl ⟨rfl, rfl, rfl, rfl, rfl⟩ rfl rfl rfl rfl rfl (by kernel_rfl) Tryz.func5 (by kernel_rfl)
    (of_decide_eq_true (by kernel_rfl)) (by unfold Func.isWrapper; first | (rw [if_pos (by decide +kernel)]; kernel_rfl) | (rw [if_neg (by decide +kernel)]; exact ⟨rfl, rfl⟩))
    (fun os started H enc _ F => by rw [OpenClaim.pre_eq_preRow]; exact lifted os started H enc F)

theorem plain (f : FuncId) (fn : Func) (hf : Tryz.pinned.checked.prog.funcNamed Rows.generationRelativeRow.func = some f) (hfn : Tryz.pinned.checked.prog.funcs[f]? = some fn) :
    false = Tryz.pinned.checked.prog.looks [] ∧ ∀ (j : Nat) t, fn.params[j]? = some t → Tryz.pinned.checked.prog.wantsStandIn t = false := by
  obtain rfl : f = 5 := Option.some.inj ((show Tryz.prog.funcNamed Rows.generationRelativeRow.func = some 5 by kernel_rfl).symm.trans hf) |>.symm
  obtain rfl : fn = Tryz.f5 := (Option.some.inj (Tryz.func5.symm.trans hfn)).symm
  refine ⟨by kernel_rfl, fun j t ht => ?_⟩
  rw [Tryz.params5] at ht
  have hm := Array.mem_of_getElem? ht
  have ha : (#[27, 24, 5] : Array TypeId).all (fun t => !Tryz.prog.wantsStandIn t) = true := by kernel_rfl
  have := (Array.all_eq_true_iff_forall_mem.1 ha) t hm
  exact (show Tryz.prog.wantsStandIn t = false by simpa using this)

/-- THE CARD -/
theorem card : Rows.GenerationRelativeCardSaid :=
  Claim7.holds_tied_plain_at .later [] _ _ _ _ said (fun _ h => by cases h) (by kernel_rfl) (fun _ h => by cases h) generationRelative_row_tie rfl ⟨rfl, rfl⟩ (by kernel_rfl) rfl plain (by kernel_rfl)
end Go.Proofs.YtbkbgkicpfbjfaaGreatDoor.generationRelative

end
