/- Several texts in one: LaGr CardGr. -/
import Derived.Test.YtbkbgkicpfbjfaaGreatDoorGeU
import Derived.Test.YtbkbgkicpfbjfaaGreatDoorRsI
import Derived.Test.YtbkbgkicpfbjfaaGreatDoorRsG
import Derived.Deep.RegionHeld3
import Derived.Test.YtbkbgkicpfbjfaaGreatDoorFrameEn
section
/- The walk of the law GenerationRolls. -/
namespace Go.Proofs.YtbkbgkicpfbjfaaGreatDoor
open Go.RowKit
set_option maxHeartbeats 1600000
set_option maxRecDepth 8000
theorem sameE_same (e : En) (l : List Int) (g : List Gr) : sameE e e l l g g = true := by
  unfold sameE datEq
  simp
theorem rolled_as (e : En) (al gr : Value) (l2 : List Int) (g2 : List Gr) (F : Int × Int × List Int × List Int) (w : World) (h1 : IS w al l2) (h2 : GS w gr g2) :
    ∃ (f : En) (al' gr' : Value) (l' : List Int) (g' : List Gr), rolled e al gr F = f.vals al' gr' ∧ IS w al' l' ∧ GS w gr' g' := by
  unfold rolled
  split
  · exact ⟨_, _, _, _, _, rfl, h1, h2⟩
  · exact ⟨_, _, _, _, _, rfl, IS.nil w, GS.nil w⟩
theorem rge_rollin (e : En) (al gr : Value) (a : Option Addr) (c : Nat) (l2 ex : List Int) (g2 : List Gr) (n : Int) (w : World) (h1 : IS w al l2) (h2 : GS w gr g2) (h3 : IS w (.slice a ex.length c) ex) (hcap : ex.length ≤ c) (hz : ex.length ≤ 1000) (hsz : e.name.size ≤ 60) :
    Calls Tryz.prog 25 #[.agg (e.vals al gr), .slice a ex.length c, .int .i64 n] w fun r w' => ∃ v, r = .returned (.tuple #[.agg (rolled e al gr (foldA e l2 g2 ex [n])), v, .int .i64 (foldA e l2 g2 ex [n]).1]) ∧ IB w.heap.size w' v (foldA e l2 g2 ex [n]).2.2.2 ∧ Below w.heap.size w w' := by
  unfold foldA
  cases hok : okE e l2 g2 ex
  · rw [if_neg (by decide), rolled_bad e al gr _ _ _ _ (by decide)]
    refine (rge_rollin_bad e al gr _ l2 ex g2 n w h1 h2 h3 hsz hok).mono ?_
    rintro r w' ⟨rfl, B⟩
    exact ⟨_, rfl, IB.nil _ _, B⟩
  · rw [if_pos rfl]
    unfold Ge.foldG
    by_cases hb : n < 1 ∨ 9999 < n
    · rw [if_pos hb, rolled_bad e al gr _ _ _ _ (by decide)]
      refine (rge_rollin_range e al gr _ l2 ex g2 n w h1 h2 h3 hsz hok hb).mono ?_
      rintro r w' ⟨rfl, B⟩
      exact ⟨_, rfl, IB.nil _ _, B⟩
    · rw [if_neg hb]
      by_cases hl : n ≤ e.last
      · rw [if_pos hl, rolled_bad e al gr _ _ _ _ (by decide)]
        refine (rge_rollin_state e al gr _ l2 ex g2 n w h1 h2 h3 hsz hok (by omega) (by omega) hl).mono ?_
        rintro r w' ⟨rfl, B⟩
        exact ⟨_, rfl, IB.nil _ _, B⟩
      · rw [if_neg hl]
        unfold Ge.foldG
        rw [rolled_good]
        have hg := (Ge.stays_eq e.lim e.em ex n (ok_bounds e l2 ex g2 hok).2.1).2
        refine (rge_rollin_good e al gr a c l2 ex g2 n w h1 h2 h3 hcap hz hsz hok (by omega) (by omega) (by omega) _ rfl).mono ?_
        rintro r w' ⟨v, rfl, i, B⟩
        exact ⟨v, rfl, by simp only [List.nil_append]; rw [hg]; exact i, B⟩
/-- what the last test reads -/
def SQ (w w' : World) (v1 v2 v3 v4 : Value) (st gl : List Int) : Prop := IS w' v1 st ∧ IS w' v2 st ∧ IS w' v3 gl ∧ IS w' v4 gl ∧ Below w.heap.size w w'
theorem SQ.keep {w w1 w2 : World} {b1 b2 : Nat} {v1 v2 v3 v4 : Value} {st gl : List Int} {cs X : Array Value} (hb : Below w1.heap.size w1 w2) (s : row w1 w.heap.size = cs ∧ row w1 b1 = X ∧ row w1 b2 = X ∧ SQ w w1 v1 v2 v3 v4 st gl) (h0 : 0 < cs.size) (h1 : 0 < X.size) :
    row w2 w.heap.size = cs ∧ row w2 b1 = X ∧ row w2 b2 = X ∧ SQ w w2 v1 v2 v3 v4 st gl := by
  obtain ⟨r1, r2, r3, i1, i2, i3, i4, B⟩ := s
  exact ⟨row_below hb r1 h0, row_below hb r2 h1, row_below hb r3 h1, i1.below hb, i2.below hb, i3.below hb, i4.below hb, bt B hb⟩
theorem SQ.i1 {w w1 : World} {v1 v2 v3 v4 : Value} {st gl : List Int} (s : SQ w w1 v1 v2 v3 v4 st gl) : IS w1 v1 st := s.1
theorem SQ.i2 {w w1 : World} {v1 v2 v3 v4 : Value} {st gl : List Int} (s : SQ w w1 v1 v2 v3 v4 st gl) : IS w1 v2 st := s.2.1
theorem SQ.i3 {w w1 : World} {v1 v2 v3 v4 : Value} {st gl : List Int} (s : SQ w w1 v1 v2 v3 v4 st gl) : IS w1 v3 gl := s.2.2.1
theorem SQ.i4 {w w1 : World} {v1 v2 v3 v4 : Value} {st gl : List Int} (s : SQ w w1 v1 v2 v3 v4 st gl) : IS w1 v4 gl := s.2.2.2.1
theorem SQ.b {w w1 : World} {v1 v2 v3 v4 : Value} {st gl : List Int} (s : SQ w w1 v1 v2 v3 v4 st gl) : Below w.heap.size w w1 := s.2.2.2.2
theorem SQ.drew {w w1 : World} {v1 v2 v3 v4 : Value} {st gl : List Int} (s : SQ w w1 v1 v2 v3 v4 st gl) : SQ w w1.drew v1 v2 v3 v4 st gl := ⟨s.1.drew, s.2.1.drew, s.2.2.1.drew, s.2.2.2.1.drew, s.2.2.2.2.drew⟩
attribute [local go_sem ↓] ldEnt stEnt
attribute [local go_sem] isHead_mk headOf_mk cellsOfV_mk isAggV_mk row_new row_new2 row_new2' row_drew row_drewN vals_size allOne_nil allOne_cons one_int one_bool one_string one_pointer one_slice
theorem law_rolls_few (e : En) (a1 a2 a3 : Option Addr) (n1 c1 n2 c2 n3 c3 : Nat) (n m : Int) (w : World) (hm : MaxL w) (hf : (decide (e.name.size ≤ 60) && decide (n2 ≤ 12) && decide (n1 ≤ 8) && decide (n3 ≤ 80) && decide (0 ≤ 20)) = false) :
    Calls Tryz.prog 6 #[.agg (e.vals (.slice a1 n1 c1) (.slice a2 n2 c2)), .slice a3 n3 c3, .int .i64 n, .int .i64 m] w fun r w' => r = .returned (.bool true) ∧ Below w.heap.size w w' := by
  go_enter Tryz.func6, Tryz.ntmps6
  go_wp2_with (first | (go_at_call 15; (with_reducible refine (aw38 _ (hm.below (by (repeat (first | exact Below.refl _ _ | assumption | (refine Below.drew ?_) | (refine Below.alloc ?_ (by first | (simp; done) | (simp; omega) | omega) _) | (refine Below.setCell ?_ (by first | (simp; done) | (simp; omega) | omega) _)))))).mono ?_); rintro _ w1 ⟨rfl, hb⟩; have R := row_below hb (row_new w _ _ _) (by simp [vals_size]); have B := below1 hb; clear hb) | (go_at_call 16; (with_reducible refine (few38 e _ _ _ _ _ _ _ _ _ _ _ _ _).mono ?_); rw [hf]; rintro _ w2 ⟨rfl, hb⟩; have B := bt B hb; clear hb))
  go_ret
  exact ⟨rfl, B⟩
theorem law_rolls_good (e : En) (a1 a2 a3 : Option Addr) (n1 c1 n2 c2 c3 : Nat) (n m : Int) (l2 ex : List Int) (g2 : List Gr) (w : World) (hm : MaxL w) (h1 : IS w (.slice a1 n1 c1) l2) (h2 : GS w (.slice a2 n2 c2) g2) (h3 : IS w (.slice a3 ex.length c3) ex) (hcap : ex.length ≤ c3)
    (hf : (decide (e.name.size ≤ 60) && decide (n2 ≤ 12) && decide (n1 ≤ 8) && decide (ex.length ≤ 80) && decide (0 ≤ 20)) = true) :
    Calls Tryz.prog 6 #[.agg (e.vals (.slice a1 n1 c1) (.slice a2 n2 c2)), .slice a3 ex.length c3, .int .i64 n, .int .i64 m] w fun r w' => r = .returned (.bool true) ∧ Below w.heap.size w w' := by
  have hf' := hf
  simp only [Bool.and_eq_true, decide_eq_true_eq] at hf'
  obtain ⟨⟨⟨⟨hsz, -⟩, -⟩, hex⟩, -⟩ := hf'
  have hr1 := fun W (b : Below w.heap.size w W) => ge_rollin e (.slice a1 n1 c1) (.slice a2 n2 c2) _ l2 ex g2 n W (hm.below b) (h1.below b) (h2.below b) (h3.below b) (by omega)
  have hr2 := fun W (b : Below w.heap.size w W) => rge_rollin e (.slice a1 n1 c1) (.slice a2 n2 c2) a3 c3 l2 ex g2 n W (h1.below b) (h2.below b) (h3.below b) hcap (by omega) hsz
  have hl1 := fun W (b : Below w.heap.size w W) => ge_limit e (.slice a1 n1 c1) (.slice a2 n2 c2) a3 c3 l2 ex g2 m W (hm.below b) (h1.below b) (h2.below b) (h3.below b) hcap
  have hl2 := fun W (b : Below w.heap.size w W) => rge_limit e (.slice a1 n1 c1) (.slice a2 n2 c2) a3 c3 l2 ex g2 m W (h1.below b) (h2.below b) (h3.below b) hcap (by omega) hsz
  have hv1 := fun W (b : Below w.heap.size w W) => ge_valid e (.slice a1 n1 c1) (.slice a2 n2 c2) _ l2 ex g2 W (hm.below b) (h1.below b) (h2.below b) (h3.below b)
  have hv2 := fun W (b : Below w.heap.size w W) => rge_valid e (.slice a1 n1 c1) (.slice a2 n2 c2) _ l2 ex g2 W (h1.below b) (h2.below b) (h3.below b) hsz
  have ho := rolled_one e (.slice a1 n1 c1) (.slice a2 n2 c2) (foldA e l2 g2 ex [n]) h1.one h2.one
  have hx := rolled_size e (.slice a1 n1 c1) (.slice a2 n2 c2) (foldA e l2 g2 ex [n])
  obtain ⟨f, al', gr', l', g', hform, i1, i2⟩ := rolled_as e (.slice a1 n1 c1) (.slice a2 n2 c2) l2 g2 (foldA e l2 g2 ex [n]) w h1 h2
  have hs := fun W (b : Below w.heap.size w W) => rsame f f al' gr' al' gr' l' l' g' g' W (i1.below b) (i1.below b) (i2.below b) (i2.below b)
  rw [← hform, sameE_same] at hs
  generalize rolled e (.slice a1 n1 c1) (.slice a2 n2 c2) (foldA e l2 g2 ex [n]) = X at hr1 hr2 ho hx hs
  generalize (foldA e l2 g2 ex [n]).1 = E at hr1 hr2
  generalize (foldA e l2 g2 ex [n]).2.2.2 = st at hr1 hr2
  generalize (limA e l2 g2 ex m).1 = E2 at hl1 hl2
  generalize (limA e l2 g2 ex m).2 = gl at hl1 hl2
  generalize okE e l2 g2 ex = ok at hv1 hv2
  have q1 : (E == E) = true := by simp
  have q2 : (E2 == E2) = true := by simp
  have q3 : (ok == ok) = true := by simp
  have H1 := Lib.hid hr1
  have H2 := Lib.hid hr2
  have L1 := Lib.hid hl1
  have L2 := Lib.hid hl2
  have V1 := Lib.hid hv1
  have V2 := Lib.hid hv2
  have HS := Lib.hid hs
  clear hr1 hr2 h1 h2 h3 hs i1 i2 hform hex hl1 hl2 hv1 hv2
  go_enter Tryz.func6, Tryz.ntmps6
  go_wp2_with (first
    | (go_at_call 15; (with_reducible refine (aw38 _ (hm.below (by (repeat (first | exact Below.refl _ _ | assumption | (refine Below.drew ?_) | (refine Below.alloc ?_ (by first | (simp; done) | (simp; omega) | omega) _) | (refine Below.setCell ?_ (by first | (simp; done) | (simp; omega) | omega) _)))))).mono ?_); rintro _ w1 ⟨rfl, hb⟩; have R := row_below hb (row_new w _ _ _) (by simp [vals_size]); have B := below1 hb; clear hb)
    | (go_at_call 16; (with_reducible refine (few38 e _ _ _ _ _ _ _ _ _ _ _ _ _).mono ?_); rw [hf]; rintro _ w2 ⟨rfl, hb⟩; have R := row_below hb R (by simp [vals_size]); have B := bt B hb; clear hb)
    | (go_at_call 24; (with_reducible refine (H1.out _ B).mono ?_); rintro _ w3 ⟨v1, rfl, ⟨j1, -⟩, hb⟩; have R := row_below hb R (by simp [vals_size]); have R5 := row_keep R (by simp [vals_size]) (Below.refl _ _) (.cells X 27); have B := bt B hb; have BA := B.alloc B.size (.cells X 27); clear hb)
    | (go_at_call 25; (with_reducible refine (H2.out _ BA).mono ?_); rintro _ w4 ⟨v2, rfl, ⟨j2, -⟩, hb⟩; have k1 := j1.below (below1 hb); have RX := row_below hb (row_new w3 X 27 (0, 0)) (by rw [hx]; decide); have RE := row_below hb R5 (by simp [vals_size]); have B := bt BA hb; have RX2 := row_keep RX (by rw [hx]; decide) (Below.refl _ _) (.cells X 27); have RE2 := row_keep RE (by simp [vals_size]) (Below.refl _ _) (.cells X 27); have BA := B.alloc B.size (.cells X 27); have kk1 := k1.below ((Below.refl _ _).alloc (Nat.le_refl _) (.cells X 27)); have kk2 := j2.below ((Below.refl _ _).alloc (Nat.le_refl _) (.cells X 27)); clear hb)
    | (go_at_call 26; (with_reducible refine (L1.out _ BA).mono ?_); rintro _ w5 ⟨v3, rfl, j3, hb⟩; have RX := row_below hb RX2 (by rw [hx]; decide); have RY := row_below hb (row_new w4 X 27 (0, 0)) (by rw [hx]; decide); have RE := row_below hb RE2 (by simp [vals_size]); have B := bt BA hb; have k1 := kk1.below hb; have k2 := kk2.below hb; clear hb)
    | (go_at_call 27; (with_reducible refine (L2.out _ B).mono ?_); rintro _ w6 ⟨v4, rfl, j4, hb⟩; have RX := row_below hb RX (by rw [hx]; decide); have RY := row_below hb RY (by rw [hx]; decide); have RE := row_below hb RE (by simp [vals_size]); have SS : SQ w w6 v1 v2 v3 v4 st gl := ⟨k1.below hb, k2.below hb, j3.below hb, j4, bt B hb⟩; clear hb))
  have SSd := SQ.drew SS
  go_region_held3 (fun w' => row w' w.heap.size = e.vals (.slice a1 n1 c1) (.slice a2 n2 c2) ∧ row w' w3.heap.size = X ∧ row w' w4.heap.size = X ∧ SQ w w' v1 v2 v3 v4 st gl) (first | exact ⟨RE, RX, RY, SSd⟩ | exact SQ.keep hb (by assumption) (by simp [vals_size]) (by rw [hx]; decide)) (first | (go_at_call 22; (with_reducible refine (V1.out _ (SQ.b (by assumption : row _ _ = _ ∧ row _ _ = _ ∧ row _ _ = _ ∧ SQ _ _ _ _ _ _ _ _).2.2.2)).mono ?_); rintro _ w7 ⟨rfl, hb⟩) | (go_at_call 28; (with_reducible refine (V2.out _ (SQ.b (by assumption : row _ _ = _ ∧ row _ _ = _ ∧ row _ _ = _ ∧ SQ _ _ _ _ _ _ _ _).2.2.2)).mono ?_); rintro _ w8 ⟨rfl, hb⟩) | (go_at_call 19; (with_reducible refine (HS.out _ (SQ.b (by assumption : row _ _ = _ ∧ row _ _ = _ ∧ row _ _ = _ ∧ SQ _ _ _ _ _ _ _ _).2.2.2)).mono ?_); rintro _ w9 ⟨rfl, hb⟩) | (go_at_call 20; (with_reducible refine (rints _ _ st st _ (SQ.i1 (by assumption : row _ _ = _ ∧ row _ _ = _ ∧ row _ _ = _ ∧ SQ _ _ _ _ _ _ _ _).2.2.2) (SQ.i2 (by assumption : row _ _ = _ ∧ row _ _ = _ ∧ row _ _ = _ ∧ SQ _ _ _ _ _ _ _ _).2.2.2)).mono ?_); rw [decide_eq_true rfl]; rintro _ w9 ⟨rfl, hb⟩) | (go_at_call 20; (with_reducible refine (rints _ _ gl gl _ (SQ.i3 (by assumption : row _ _ = _ ∧ row _ _ = _ ∧ row _ _ = _ ∧ SQ _ _ _ _ _ _ _ _).2.2.2) (SQ.i4 (by assumption : row _ _ = _ ∧ row _ _ = _ ∧ row _ _ = _ ∧ SQ _ _ _ _ _ _ _ _).2.2.2)).mono ?_); rw [decide_eq_true rfl]; rintro _ w9 ⟨rfl, hb⟩))
  all_goals
    go_wp2_with fail
    go_ret
    exact ⟨rfl, (SQ.b (by assumption : row _ _ = _ ∧ row _ _ = _ ∧ row _ _ = _ ∧ SQ _ _ _ _ _ _ _ _).2.2.2)⟩
theorem law_rolls_any (e : En) (a1 a2 a3 : Option Addr) (n1 c1 n2 c2 n3 c3 : Nat) (n m : Int) (w : World) (hm : MaxL w) (o1 : n1 ≤ 1000 → ∃ l : List Int, l.length = n1 ∧ IS w (.slice a1 n1 c1) l) (o2 : n2 ≤ 1000 → ∃ l : List Gr, l.length = n2 ∧ GS w (.slice a2 n2 c2) l) (hc : n3 ≤ c3) (o3 : n3 ≤ 1000 → ∃ l : List Int, l.length = n3 ∧ IS w (.slice a3 n3 c3) l) :
    Calls Tryz.prog 6 #[.agg (e.vals (.slice a1 n1 c1) (.slice a2 n2 c2)), .slice a3 n3 c3, .int .i64 n, .int .i64 m] w fun r w' => r = .returned (.bool true) ∧ Below w.heap.size w w' := by
  cases hf : (decide (e.name.size ≤ 60) && decide (n2 ≤ 12) && decide (n1 ≤ 8) && decide (n3 ≤ 80) && decide (0 ≤ 20))
  · exact law_rolls_few e a1 a2 a3 n1 c1 n2 c2 n3 c3 n m w hm hf
  · have hf' := hf
    simp only [Bool.and_eq_true, decide_eq_true_eq] at hf'
    obtain ⟨l2, rfl, h1⟩ := o1 (by omega)
    obtain ⟨g2, rfl, h2⟩ := o2 (by omega)
    obtain ⟨ex, rfl, h3⟩ := o3 (by omega)
    exact law_rolls_good e a1 a2 a3 _ c1 _ c2 c3 n m l2 ex g2 w hm h1 h2 h3 hc hf
end Go.Proofs.YtbkbgkicpfbjfaaGreatDoor

end
section
/- The statement GenerationRolls: the walk, the frame of the row, the card. Conditions: none beyond the statement. -/
namespace Go.Proofs.YtbkbgkicpfbjfaaGreatDoor.generationRolls
open Go.ChangeShapes Go.WideShapes Go.ChangeAt Go.RowKit Go.Proofs.YtbkbgkicpfbjfaaGreatDoor
open Go.ChangeMaps (open_string)

set_option maxRecDepth 100000 in
theorem contract (H : Type) (enc : TypeId × Value → H) (W : World) (base : Nat) (args : Array Value) (ds gs : List (DataW H)) (before : List MemPlace)
    (hval : ∀ (j : Nat) t v, Tryz.f6.params[j]? = some t → args[j]? = some v → Value.okWide Tryz.prog W .any base t v)
    (hW : DataW.Whole enc Tryz.prog Tryz.f6.params.toList Rows.generationRollsSpec.vars false W args.toList ds gs before) (_hL : laidMetH Tryz.prog Rows.generationRollsRow.laid W) (hS : W.ShapedOpen Tryz.prog) :
    Calls Tryz.prog 6 args W fun e W' => ∃ v, e = .returned v ∧ Rows.generationRollsSpec.post enc Tryz.prog Tryz.f6 false true false false W args v W' := by
  have hW' := hW
  have hlt : ∀ x ∈ before, x.block < W.heap.size := fun x hx => by simpa using hW'.lt x hx
  obtain ⟨p, q, hA0, hV, rfl, hfz, hnd⟩ := hW
  have hA : DataW.TrodAll enc Tryz.prog W 0 (fun _ => true) true Tryz.f6.params.toList args.toList ds p := hA0
  have hK := hA
  rw [Tryz.params6] at hA hval
  obtain ⟨v0, vs0, d0, ds0, p0, q0, hargs, rfl, rfl, h0, r0⟩ := trodAll_cons hA
  obtain ⟨v1, vs1, d1, ds1, p1, q1, rfl, rfl, rfl, h1, r1⟩ := trodAll_cons r0
  obtain ⟨v2, vs2, d2, ds2, p2, q2, rfl, rfl, rfl, h2, r2⟩ := trodAll_cons r1
  obtain ⟨v3, vs3, d3, ds3, p3, q3, rfl, rfl, rfl, h3, r3⟩ := trodAll_cons r2
  obtain ⟨rfl, rfl, rfl⟩ := trodAll_nil r3
  obtain rfl : args = #[v0, v1, v2, v3] := by cases args; simp_all
  obtain ⟨rfl, rfl⟩ := trodVars_none hV
  obtain ⟨e0, a0, n0, c0, x0, m0, k0, rfl, o0, u0⟩ := open_en (hval 0 27 v0 rfl rfl) h0
  obtain ⟨a1, n1, c1, rfl, l1, o1⟩ := open_islice_c (hval 1 24 v1 rfl rfl) h1
  obtain ⟨n2, rfl⟩ := okWide_int Tryz.underlying3 (hval 2 3 v2 rfl rfl)
  obtain ⟨n3, rfl⟩ := okWide_int Tryz.underlying3 (hval 3 3 v3 rfl rfl)
  refine (law_rolls_any e0 a0 x0 a1 n0 c0 m0 k0 n1 c1 n2 n3 W (max_of hS) o0 u0 l1 o1).mono fun e W' ⟨he, hb⟩ => ?_
  subst he
  exact ⟨_, rfl, _, _, _, [], _, [], hW', trodAll_cons_mk (shut_bool Tryz.underlying4 _) trodAll_mk0, args_below hb (by rw [Tryz.params6]; kernel_rfl) hK (fun x hx => hlt x (by simpa using hx)), rfl, hb.frame _, fun h => by cases h⟩

def zEnt : Value := .agg #[.int .i64 0, .string ⟨#[]⟩, .int .i64 0, .int .i64 0, .int .i64 0, .int .i64 0, .int .i64 0, .int .i64 0, .int .i64 0, .int .i64 0, .int .i64 0, .int .i64 0, .int .i64 0, .int .i64 0, .int .i64 0, .int .i64 0, .bool false, .int .i64 0, .string ⟨#[]⟩, .string ⟨#[]⟩, .int .i64 0, .int .i64 0, .bool false, .slice none 0 0, .int .i64 0, .int .i64 0, .int .i64 0, .bool false, .string ⟨#[]⟩, .string ⟨#[]⟩, .int .i64 0, .int .i64 0, .slice none 0 0]
def dEnt {H : Type} : DataW H := .agg [.lit (.int .i64 0), .lit (.string []), .agg [.lit (.int .i64 0), .lit (.int .i64 0), .lit (.int .i64 0), .lit (.int .i64 0), .lit (.int .i64 0), .lit (.int .i64 0), .lit (.int .i64 0), .lit (.int .i64 0), .lit (.int .i64 0), .lit (.int .i64 0), .lit (.int .i64 0), .lit (.int .i64 0), .lit (.int .i64 0), .lit (.int .i64 0), .lit (.bool false), .lit (.int .i64 0), .lit (.string []), .lit (.string []), .lit (.int .i64 0), .lit (.int .i64 0), .lit (.bool false)], .nil, .lit (.int .i64 0), .lit (.int .i64 0), .lit (.int .i64 0), .lit (.bool false), .lit (.string []), .lit (.string []), .lit (.int .i64 0), .lit (.int .i64 0), .nil]

theorem laid_met (os : Os) : laidMetH Tryz.prog Rows.generationRollsRow.laid ((World.laidAll Tryz.prog os Rows.generationRollsRow.laid).forCall (fun _ _ => 0) ⟨#[], #[(zEnt : Value), (.slice none 0 0 : Value), (.int .i64 0 : Value), (.int .i64 0 : Value)], []⟩).memory := by
  rw [MakeChecks.laidMetH_plain _ _ _ (by kernel_rfl)]; exact laidMet_laidAll _ (by kernel_rfl) (by kernel_rfl)
theorem reads (os : Os) {H : Type} (enc : TypeId × Value → H) : ∃ places, DataW.whole enc Tryz.prog ((World.laidAll Tryz.prog os Rows.generationRollsRow.laid).forCall (fun _ _ => 0) ⟨#[], #[(zEnt : Value), (.slice none 0 0 : Value), (.int .i64 0 : Value), (.int .i64 0 : Value)], []⟩).memory Tryz.f6.params.toList Rows.generationRollsSpec.vars false #[(zEnt : Value), (.slice none 0 0 : Value), (.int .i64 0 : Value), (.int .i64 0 : Value)].toList 8 = some ([dEnt, .nil, .lit (.int .i64 0), .lit (.int .i64 0)], [], places) :=
  ⟨[], by kernel_rfl⟩

set_option maxRecDepth 100000 in
theorem lifted (os : Os) (started : os.Started) (H : Type) (enc : TypeId × Value → H) (F : Stop.Interp) :
    ReturnsInHanded {} Tryz.checked os 6 .any ((OpenSpec.ofChange Rows.generationRollsSpec).preRow enc Tryz.prog Tryz.f6 Rows.generationRollsRow.domain false Rows.generationRollsRow.laid) (((OpenSpec.ofChange Rows.generationRollsSpec).at F).post enc Tryz.prog Tryz.f6 false true false false) := by
  obtain ⟨places, hx⟩ := reads os enc
  refine returnsInHanded_of_row (C := Tryz.checked) (s := OpenSpec.ofChange Rows.generationRollsSpec) ownk started (by kernel_rfl) Tryz.func6
    (witness_lay (enc := enc) (C := Tryz.checked) false #[(zEnt : Value), (.slice none 0 0 : Value), (.int .i64 0 : Value), (.int .i64 0 : Value)] (World.shaped_of_ZipB (by kernel_rfl) (by kernel_rfl)) (by kernel_rfl)
      (OpenSpec.preRow_of_cond 8 hx (by kernel_rfl) (fun k hk => by cases hk) (by kernel_rfl) (laid_met os))) ?_
  intro W base args ds gs before hval hW _ _ _ hL hS _
  exact contract H enc W base args ds gs before hval hW hL hS

theorem said : Rows.GenerationRollsSaid :=
  OpenClaim.holds_of_cond 6 Tryz.f6 rfl rfl rfl rfl rfl rfl rfl ⟨rfl, rfl, rfl, rfl, rfl⟩ rfl rfl rfl rfl rfl (by kernel_rfl) Tryz.func6 (by kernel_rfl)
    (of_decide_eq_true (by kernel_rfl)) (by unfold Func.isWrapper; first | (rw [if_pos (by decide +kernel)]; kernel_rfl) | (rw [if_neg (by decide +kernel)]; exact ⟨rfl, rfl⟩))
    (fun os started H enc _ F => by rw [OpenClaim.pre_eq_preRow]; exact lifted os started H enc F)

theorem plain (f : FuncId) (fn : Func) (hf : Tryz.pinned.checked.prog.funcNamed Rows.generationRollsRow.func = some f) (hfn : Tryz.pinned.checked.prog.funcs[f]? = some fn) :
    false = Tryz.pinned.checked.prog.looks [] ∧ ∀ (j : Nat) t, fn.params[j]? = some t → Tryz.pinned.checked.prog.wantsStandIn t = false := by
  obtain rfl : f = 6 := Option.some.inj ((show Tryz.prog.funcNamed Rows.generationRollsRow.func = some 6 by kernel_rfl).symm.trans hf) |>.symm
  obtain rfl : fn = Tryz.f6 := (Option.some.inj (Tryz.func6.symm.trans hfn)).symm
  refine ⟨by kernel_rfl, fun j t ht => ?_⟩
  rw [Tryz.params6] at ht
  have hm := Array.mem_of_getElem? ht
  have ha : (#[27, 24, 3, 3] : Array TypeId).all (fun t => !Tryz.prog.wantsStandIn t) = true := by kernel_rfl
  have := (Array.all_eq_true_iff_forall_mem.1 ha) t hm
  exact (show Tryz.prog.wantsStandIn t = false by simpa using this)

/-- THE CARD -/
theorem card : Rows.GenerationRollsCardSaid :=
  Claim7.holds_tied_plain_at .later [] _ _ _ _ said (fun _ h => by cases h) (by kernel_rfl) (fun _ h => by cases h) generationRolls_row_tie rfl ⟨rfl, rfl⟩ (by kernel_rfl) rfl plain (by kernel_rfl)
end Go.Proofs.YtbkbgkicpfbjfaaGreatDoor.generationRolls

end
