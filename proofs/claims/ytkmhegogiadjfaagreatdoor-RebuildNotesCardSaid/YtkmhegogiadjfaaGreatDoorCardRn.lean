/- Several texts in one: LaRn CardRn. -/
import Derived.Test.YtkmhegogiadjfaaGreatDoorAw7
import Derived.Test.YtkmhegogiadjfaaGreatDoorNg
import Derived.Test.YtkmhegogiadjfaaGreatDoorJRebuildNotes
section
/- The walk of RebuildNotes: Note and Parse return the results of the reference. -/
namespace Go.Proofs.YtkmhegogiadjfaaGreatDoor
open Go.RowKit
set_option maxHeartbeats 16000000
set_option maxRecDepth 8000
set_option linter.unusedSimpArgs false
attribute [local go_sem ↓] ldEnt stEntRow ldEntM bldEnt bldEnt2
attribute [local go_sem ↓ high] stEnt
attribute [local go_sem] Held_drew isHead_mk headOf_mk offOf_mk isPtr_mk cellsOfV_mk isAggV_mk row_new row_new2 row_new2' row_drew row_drewN vals_size allOne_nil allOne_cons one_int one_bool one_string one_pointer one_slice one_func hz_n hz_a hz_b held_v
theorem rn_no (e f : En) (a1 a2 b1 b2 : Option Addr) (n1 c1 n2 c2 m1 d1 m2 d2 : Nat) (s : ByteArray) (w : World) (hm : MaxL w) (hT : Tab w) (h2 : Two2 w e f a1 a2 b1 b2 n1 c1 n2 c2 m1 d1 m2 d2) (hall : ¬ (((e.name.size ≤ 60 ∧ n2 ≤ 12 ∧ n1 ≤ 8) ∧ (f.name.size ≤ 60 ∧ m2 ≤ 12 ∧ m1 ≤ 8)) ∧ s.size ≤ 500)) :
    Calls Tryz.prog 9 #[.agg (e.vals (.slice a1 n1 c1) (.slice a2 n2 c2)), .agg (f.vals (.slice b1 m1 d1) (.slice b2 m2 d2)), .string s] w fun r w' => r = .returned (.bool true) ∧ Below w.heap.size w w' := by
  have HAW := Lib.hid (fun W (b : Below w.heap.size w W) => aw37 W (hm.below b) (hT.below b))
  have HF := Lib.hid h2.few
  have v1 := vals_one e (.slice a1 n1 c1) (.slice a2 n2 c2) rfl rfl
  have v2 := vals_one f (.slice b1 m1 d1) (.slice b2 m2 d2) rfl rfl
  have R0 := row_new2 w (e.vals (.slice a1 n1 c1) (.slice a2 n2 c2)) 27 (0, 0) (.cells (f.vals (.slice b1 m1 d1) (.slice b2 m2 d2)) 27)
  have Q0 := row_new2' w (f.vals (.slice b1 m1 d1) (.slice b2 m2 d2)) 27 (0, 0) (.cells (e.vals (.slice a1 n1 c1) (.slice a2 n2 c2)) 27)
  obtain ⟨q0, e0⟩ : ∃ b, decide (500 < (s.size : Int)) = b := ⟨_, rfl⟩
  have HALL : Hid (q0 = false → ¬ ((e.name.size ≤ 60 ∧ n2 ≤ 12 ∧ n1 ≤ 8) ∧ (f.name.size ≤ 60 ∧ m2 ≤ 12 ∧ m1 ≤ 8))) := Lib.hid (by
    rintro rfl h
    rw [decide_eq_false_iff_not] at e0
    exact hall ⟨h, by omega⟩)
  clear hall h2
  cases q0
  · have HNA := Lib.hid (HALL.out rfl)
    clear HALL
    go_enter Tryz.func9, Tryz.ntmps9
    go_wp2_with (first
      | (go_at_call 49; (with_reducible refine (HAW.out _ (by (repeat (first | exact Below.refl _ _ | assumption | (refine Below.drew ?_) | (refine Below.alloc ?_ (by first | (simp; done) | (simp; omega) | omega) _) | (refine Below.setCell ?_ (by first | (simp; done) | (simp; omega) | omega) _))))).mono ?_); rintro _ w1 ⟨rfl, hb⟩; have R1 := row_below hb R0 (by rw [vals_size]; decide); have Q1 := row_below hb Q0 (by rw [vals_size]; decide); have B1 := below2 hb; clear hb)
      | (go_at_call 50; (refine (HF.out _ B1).mono ?_); rintro _ w2 ⟨bb, rfl, hf, hb⟩; have B2 := bt B1 hb; have HF2 := Lib.hid hf; clear hb hf; cases bb; rotate_left 1; exact absurd (HF2.out rfl) HNA.out))
    go_ret
    exact ⟨rfl, B2⟩
  · go_enter Tryz.func9, Tryz.ntmps9
    go_wp2_with (first
      | (go_at_call 49; (with_reducible refine (HAW.out _ (by (repeat (first | exact Below.refl _ _ | assumption | (refine Below.drew ?_) | (refine Below.alloc ?_ (by first | (simp; done) | (simp; omega) | omega) _) | (refine Below.setCell ?_ (by first | (simp; done) | (simp; omega) | omega) _))))).mono ?_); rintro _ w1 ⟨rfl, hb⟩; have R1 := row_below hb R0 (by rw [vals_size]; decide); have Q1 := row_below hb Q0 (by rw [vals_size]; decide); have B1 := below2 hb; clear hb)
      | (go_at_call 50; (refine (HF.out _ B1).mono ?_); rintro _ w2 ⟨bb, rfl, hf, hb⟩; have B2 := bt B1 hb; clear hb hf; cases bb))
    all_goals
      go_ret
      exact ⟨rfl, B2⟩
/-- both Parse's, at one text -/
theorem par_two (s : ByteArray) : ∃ (p q : Fu) (code : Int), ∀ (w w' : World) r, ParR w w' (Ds.bl s) r → ∃ al gr al2 gr2, r = .returned (.tuple #[.agg (p.1.vals al gr), .agg (q.1.vals al2 gr2), .int .i64 code]) ∧ IS w' al p.2.1 ∧ GS w' gr p.2.2 ∧ IS w' al2 q.2.1 ∧ GS w' gr2 q.2.2 ∧ Below w.heap.size w w' := by
  cases h : parseX (Ds.bl s) with
  | none =>
    refine ⟨zFu, zFu, 11, fun w w' r hr => ?_⟩
    obtain ⟨x', g', al, gr, al2, gr2, code, rfl, h1, h2, h3, h4, hb, h5⟩ := hr
    rw [h] at h5
    rcases h5 with ⟨h5, -⟩ | ⟨-, rfl, rfl, rfl⟩
    · cases h5
    · exact ⟨al, gr, al2, gr2, rfl, h1, h2, h3, h4, hb⟩
  | some y =>
    obtain ⟨x, g⟩ := y
    refine ⟨x, g, 0, fun w w' r hr => ?_⟩
    obtain ⟨x', g', al, gr, al2, gr2, code, rfl, h1, h2, h3, h4, hb, h5⟩ := hr
    rw [h] at h5
    rcases h5 with ⟨h5, rfl⟩ | ⟨h5, -⟩
    · cases Option.some.inj h5
      exact ⟨al, gr, al2, gr2, rfl, h1, h2, h3, h4, hb⟩
    · cases h5
theorem rsame_own (e : En) (l1 : List Int) (l2 : List Gr) (al gr al' gr' : Value) (w : World) (h1 : IS w al l1) (h2 : GS w gr l2) (h3 : IS w al' l1) (h4 : GS w gr' l2) :
    Calls Tryz.prog 16 #[.agg (e.vals al gr), .agg (e.vals al' gr')] w fun r w' => r = .returned (.bool true) ∧ Below w.heap.size w w' := by
  have := rsame e e al gr al' gr' l1 l1 l2 l2 w h1 h3 h2 h4
  rw [(sameE_eq e e l1 l1 l2 l2).2 ⟨rfl, rfl, rfl⟩] at this
  exact this
theorem rn_yes (x g : Fu) (al gr al2 gr2 : Value) (s : ByteArray) (w : World) (hm : MaxL w) (hT : Tab w) (hxs : x.1.name.size ≤ 60) (hgs : g.1.name.size ≤ 60) (h1 : IS w al x.2.1) (h2 : GS w gr x.2.2) (h3 : IS w al2 g.2.1) (h4 : GS w gr2 g.2.2) (hs : s.size ≤ 500)
    (hF : ∀ W, Below w.heap.size w W → Calls Tryz.prog 50 #[.slice (some ⟨W.heap.size, 0, none⟩) 2 2, .int .i64 2] (W.alloc (.cells (x.1.vals al gr ++ g.1.vals al2 gr2) 27)) fun r w' => ∃ b : Bool, r = .returned (.bool b) ∧ Below W.heap.size W w') :
    Calls Tryz.prog 9 #[.agg (x.1.vals al gr), .agg (g.1.vals al2 gr2), .string s] w fun r w' => r = .returned (.bool true) ∧ Below w.heap.size w w' := by
  have HAW := Lib.hid (fun W (b : Below w.heap.size w W) => aw37 W (hm.below b) (hT.below b))
  have HF := Lib.hid hF
  have v1 := vals_one x.1 al gr (is_one h1) (gs_one h2)
  have v2 := vals_one g.1 al2 gr2 (is_one h3) (gs_one h4)
  have R0 := row_new2 w (x.1.vals al gr) 27 (0, 0) (.cells (g.1.vals al2 gr2) 27)
  have Q0 := row_new2' w (g.1.vals al2 gr2) 27 (0, 0) (.cells (x.1.vals al gr) 27)
  have e0 : decide (500 < (s.size : Int)) = false := by rw [decide_eq_false_iff_not]; omega
  obtain ⟨p, q, code, hpq⟩ := par_two s
  have HP := Lib.hid (fun W (b : Below w.heap.size w W) => (re_parse s W (by omega) (hm.below b) (hT.below b)).mono (R' := _) fun r w' h => hpq _ _ _ h)
  have HR := Lib.hid (fun W => (rn_parse s W (by omega)).mono (R' := _) fun r w' h => hpq _ _ _ h)
  have hn := fun W (b : Below w.heap.size w W) => re_note x g al gr al2 gr2 W (hm.below b) (hT.below b) (by omega) (by omega) (h1.below b) (h2.below b) (h3.below b) (h4.below b)
  have hr := fun W (b : Below w.heap.size w W) => rn_note x g al gr al2 gr2 W hxs hgs (h1.below b) (h2.below b) (h3.below b) (h4.below b)
  generalize (if noteOk x g = true then (0 : Int) else 1) = c at hn hr
  generalize noteS x g = ns at hn hr
  have HN := Lib.hid hn
  have HM := Lib.hid hr
  have l1 : (ns.toList == ns.toList) = true := by simp
  have l2 : (c == c) = true := by simp
  have l3 : (code == code) = true := by simp
  clear hpq hn hr hF h1 h2 h3 h4
  go_enter Tryz.func9, Tryz.ntmps9
  go_upto_region 8 with (first
    | (go_at_call 49; (with_reducible refine (HAW.out _ (by (repeat (first | exact Below.refl _ _ | assumption | (refine Below.drew ?_) | (refine Below.alloc ?_ (by first | (simp; done) | (simp; omega) | omega) _) | (refine Below.setCell ?_ (by first | (simp; done) | (simp; omega) | omega) _))))).mono ?_); rintro _ w1 ⟨rfl, hb⟩; have R1 := row_below hb R0 (by rw [vals_size]; decide); have Q1 := row_below hb Q0 (by rw [vals_size]; decide); have B1 := below2 hb; clear hb)
    | (go_at_call 50; (refine (HF.out _ B1).mono ?_); rintro _ w2 ⟨bb, rfl, hb⟩; have B2 := bt B1 hb; have R2 := row_below hb R1 (by rw [vals_size]; decide); have Q2 := row_below hb Q1 (by rw [vals_size]; decide); clear hb; cases bb)
    | (go_at_call 51; (refine (HN.out _ B2).mono ?_); rintro _ w3 ⟨rfl, hb⟩; have B3 := bt B2 hb; have R3 := row_below hb R2 (by rw [vals_size]; decide); have Q3 := row_below hb Q2 (by rw [vals_size]; decide); clear hb)
    | (go_at_call 52; (refine (HM.out _ B3).mono ?_); rintro _ w4 ⟨rfl, hb⟩; have B4 := bt B3 hb; clear hb)
    | (go_at_call 53; (refine (HP.out _ B4).mono ?_); rintro _ w5 ⟨a5, b5, c5, d5, rfl, i5, g5, j5, k5, hb⟩; have B5 := bt B4 hb; have o5 := vals_one p.1 a5 b5 (is_one i5) (gs_one g5); have o6 := vals_one q.1 c5 d5 (is_one j5) (gs_one k5); have I5 := Lib.hid i5; have G5 := Lib.hid g5; have J5 := Lib.hid j5; have K5 := Lib.hid k5; clear hb i5 g5 j5 k5))
  all_goals first | (go_ret; exact ⟨rfl, B2⟩) | skip
  generalize hW : World.setRow (World.setRow _ _ _) _ _ = W6
  obtain ⟨B6, X6, Y6⟩ : Below w5.heap.size w5 W6 ∧ row W6 w5.heap.size = p.1.vals a5 b5 ∧ row W6 (w5.heap.size + 1) = q.1.vals c5 d5 := by rw [← hW]; exact two_new w5 _ _ _ _ _ (vals_size _ _ _) (vals_size _ _ _) rfl rfl
  clear hW
  have BB6 := Lib.hid (bt B5 B6)
  have I6 := Lib.hid (I5.out.below B6)
  have G6 := Lib.hid (G5.out.below B6)
  have J6 := Lib.hid (J5.out.below B6)
  have K6 := Lib.hid (K5.out.below B6)
  clear B6 I5 G5 J5 K5
  go_upto_region 9 with (go_at_call 54; (refine (HR.out _).mono ?_); rintro _ w7 ⟨a7, b7, c7, d7, rfl, i7, g7, j7, k7, hb⟩; have B7 := Lib.hid hb; have X7 := row_below hb X6 (by rw [vals_size]; decide); have Y7 := row_below hb Y6 (by rw [vals_size]; decide); have o7 := vals_one p.1 a7 b7 (is_one i7) (gs_one g7); have o8 := vals_one q.1 c7 d7 (is_one j7) (gs_one k7); have I7 := Lib.hid i7; have G7 := Lib.hid g7; have J7 := Lib.hid j7; have K7 := Lib.hid k7; clear hb i7 g7 j7 k7)
  generalize hW : World.setRow (World.setRow _ _ _) _ _ = W8
  obtain ⟨B8, X8, Y8⟩ : Below w7.heap.size w7 W8 ∧ row W8 w7.heap.size = p.1.vals a7 b7 ∧ row W8 (w7.heap.size + 1) = q.1.vals c7 d7 := by rw [← hW]; exact two_new w7 _ _ _ _ _ (vals_size _ _ _) (vals_size _ _ _) rfl rfl
  clear hW
  have X9 := row_below B8 X7 (by rw [vals_size]; decide)
  have Y9 := row_below B8 Y7 (by rw [vals_size]; decide)
  have BB8 := Lib.hid (bt (bt BB6.out B7.out) B8)
  have B78 := Lib.hid (bt B7.out B8)
  have I8 := Lib.hid (I7.out.below B8)
  have G8 := Lib.hid (G7.out.below B8)
  have J8 := Lib.hid (J7.out.below B8)
  have K8 := Lib.hid (K7.out.below B8)
  clear X7 Y7 X6 Y6
  go_wp2_with (first
    | (go_at_call 16; have b10 := B10; clear b10; (refine (rsame_own q.1 q.2.1 q.2.2 _ _ _ _ _ (J6.out.below (bt B78.out S10.out)) (K6.out.below (bt B78.out S10.out)) (J8.out.below S10.out) (K8.out.below S10.out)).mono ?_); rintro _ w11 ⟨rfl, hb⟩; have B11 := Lib.hid (bt B10.out hb); clear hb)
    | (go_at_call 16; (refine (rsame_own p.1 p.2.1 p.2.2 _ _ _ _ _ (I6.out.below B78.out) (G6.out.below B78.out) I8.out G8.out).mono ?_); rintro _ w10 ⟨rfl, hb⟩; have B10 := Lib.hid (bt BB8.out hb); have S10 := Lib.hid hb; have Y10 := row_below hb Y9 (by rw [vals_size]; decide); have Y11 := row_below hb Y8 (by rw [vals_size]; decide); clear hb))
  go_ret
  exact ⟨rfl, B11.out⟩
theorem law_notes37 (e f : En) (a1 a2 b1 b2 : Option Addr) (n1 c1 n2 c2 m1 d1 m2 d2 : Nat) (s : ByteArray) (w : World) (hm : MaxL w) (hT : Tab w) (h2 : Two2 w e f a1 a2 b1 b2 n1 c1 n2 c2 m1 d1 m2 d2) :
    Calls Tryz.prog 9 #[.agg (e.vals (.slice a1 n1 c1) (.slice a2 n2 c2)), .agg (f.vals (.slice b1 m1 d1) (.slice b2 m2 d2)), .string s] w fun r w' => r = .returned (.bool true) ∧ Below w.heap.size w w' := by
  by_cases h : ((e.name.size ≤ 60 ∧ n2 ≤ 12 ∧ n1 ≤ 8) ∧ (f.name.size ≤ 60 ∧ m2 ≤ 12 ∧ m1 ≤ 8)) ∧ s.size ≤ 500
  · obtain ⟨⟨⟨q1, q2, q3⟩, q4, q5, q6⟩, q7⟩ := h
    obtain ⟨l1, -, i1⟩ := h2.i1 (by omega)
    obtain ⟨l2, -, g1⟩ := h2.g1 (by omega)
    obtain ⟨r1, -, i2⟩ := h2.i2 (by omega)
    obtain ⟨r2, -, g2⟩ := h2.g2 (by omega)
    exact rn_yes (e, l1, l2) (f, r1, r2) _ _ _ _ s w hm hT q1 q4 i1 g1 i2 g2 q7 fun W b => (h2.few W b).mono fun r w' ⟨bb, k1, _, k3⟩ => ⟨bb, k1, k3⟩
  · exact rn_no e f a1 a2 b1 b2 n1 c1 n2 c2 m1 d1 m2 d2 s w hm hT h2 h
end Go.Proofs.YtkmhegogiadjfaaGreatDoor

end
section
/- The statement RebuildNotes: the walk, the frame of the row, the card. Conditions: none beyond the statement. -/
namespace Go.Proofs.YtkmhegogiadjfaaGreatDoor.rebuildNotes
open Go.ChangeShapes Go.WideShapes Go.ChangeAt Go.RowKit Go.Proofs.YtkmhegogiadjfaaGreatDoor
open Go.ChangeMaps (open_string)

set_option maxRecDepth 100000 in
theorem contract (H : Type) (enc : TypeId × Value → H) (W : World) (base : Nat) (args : Array Value) (ds gs : List (DataW H)) (before : List MemPlace)
    (hval : ∀ (j : Nat) t v, Tryz.f9.params[j]? = some t → args[j]? = some v → Value.okWide Tryz.prog W .any base t v)
    (hW : DataW.Whole enc Tryz.prog Tryz.f9.params.toList Rows.rebuildNotesSpec.vars false W args.toList ds gs before) (hL : laidMetH Tryz.prog Rows.rebuildNotesRow.laid W) (hS : W.ShapedOpen Tryz.prog) :
    Calls Tryz.prog 9 args W fun e W' => ∃ v, e = .returned v ∧ Rows.rebuildNotesSpec.post enc Tryz.prog Tryz.f9 false true false false W args v W' := by
  have hW' := hW
  have hlt : ∀ x ∈ before, x.block < W.heap.size := fun x hx => by simpa using hW'.lt x hx
  obtain ⟨p, q, hA0, hV, rfl, hfz, hnd⟩ := hW
  have hA : DataW.TrodAll enc Tryz.prog W 0 (fun _ => true) true Tryz.f9.params.toList args.toList ds p := hA0
  have hK := hA
  rw [Tryz.params9] at hA hval
  obtain ⟨v0, vs0, d0, ds0, p0, q0, hargs, rfl, rfl, h0, r0⟩ := trodAll_cons hA
  obtain ⟨v1, vs1, d1, ds1, p1, q1, rfl, rfl, rfl, h1, r1⟩ := trodAll_cons r0
  obtain ⟨v2, vs2, d2, ds2, p2, q2, rfl, rfl, rfl, h2, r2⟩ := trodAll_cons r1
  obtain ⟨rfl, rfl, rfl⟩ := trodAll_nil r2
  obtain rfl : args = #[v0, v1, v2] := by cases args; simp_all
  obtain ⟨rfl, rfl⟩ := trodVars_none hV
  obtain ⟨e0, a0, n0, c0, x0, m0, k0, rfl, o0, u0⟩ := open_en (hval 0 27 v0 rfl rfl) h0
  obtain ⟨e1, a1, n1, c1, x1, m1, k1, rfl, o1, u1⟩ := open_en (hval 1 27 v1 rfl rfl) h1
  have hs2 := hval 2 9 v2 rfl rfl
  obtain ⟨s2, rfl⟩ := okWide_string Tryz.underlying9 hs2
  rw [MakeChecks.laidMetH_plain _ _ _ (by kernel_rfl)] at hL
  refine (law_notes37 e0 e1 a0 x0 a1 x1 n0 c0 m0 k0 n1 c1 m1 k1 s2 W (max_of hS) (tab_of hL) ⟨(en_lens h0).1, (en_lens h0).2, (en_lens h1).1, (en_lens h1).2, o0, u0, o1, u1⟩).mono fun e W' ⟨he, hb⟩ => ?_
  subst he
  exact ⟨_, rfl, _, _, _, [], _, [], hW', trodAll_cons_mk (shut_bool Tryz.underlying4 _) trodAll_mk0, args_below hb (by rw [Tryz.params9]; kernel_rfl) hK (fun x hx => hlt x (by simpa using hx)), rfl, hb.frame _, fun h => by cases h⟩

def zEnt : Value := .agg #[.int .i64 0, .string ⟨#[]⟩, .int .i64 0, .int .i64 0, .int .i64 0, .int .i64 0, .int .i64 0, .int .i64 0, .int .i64 0, .int .i64 0, .int .i64 0, .int .i64 0, .int .i64 0, .int .i64 0, .int .i64 0, .int .i64 0, .bool false, .int .i64 0, .string ⟨#[]⟩, .string ⟨#[]⟩, .int .i64 0, .int .i64 0, .bool false, .slice none 0 0, .int .i64 0, .int .i64 0, .int .i64 0, .bool false, .string ⟨#[]⟩, .string ⟨#[]⟩, .int .i64 0, .int .i64 0, .slice none 0 0]
def dEnt {H : Type} : DataW H := .agg [.lit (.int .i64 0), .lit (.string []), .agg [.lit (.int .i64 0), .lit (.int .i64 0), .lit (.int .i64 0), .lit (.int .i64 0), .lit (.int .i64 0), .lit (.int .i64 0), .lit (.int .i64 0), .lit (.int .i64 0), .lit (.int .i64 0), .lit (.int .i64 0), .lit (.int .i64 0), .lit (.int .i64 0), .lit (.int .i64 0), .lit (.int .i64 0), .lit (.bool false), .lit (.int .i64 0), .lit (.string []), .lit (.string []), .lit (.int .i64 0), .lit (.int .i64 0), .lit (.bool false)], .nil, .lit (.int .i64 0), .lit (.int .i64 0), .lit (.int .i64 0), .lit (.bool false), .lit (.string []), .lit (.string []), .lit (.int .i64 0), .lit (.int .i64 0), .nil]

theorem laid_met (os : Os) : laidMetH Tryz.prog Rows.rebuildNotesRow.laid ((World.laidAll Tryz.prog os Rows.rebuildNotesRow.laid).forCall (fun _ _ => 0) ⟨#[], #[(zEnt : Value), (zEnt : Value), (.string ⟨#[]⟩ : Value)], []⟩).memory := by
  rw [MakeChecks.laidMetH_plain _ _ _ (by kernel_rfl)]; exact laidMet_laidAll _ (by kernel_rfl) (by kernel_rfl)
theorem reads (os : Os) {H : Type} (enc : TypeId × Value → H) : ∃ places, DataW.whole enc Tryz.prog ((World.laidAll Tryz.prog os Rows.rebuildNotesRow.laid).forCall (fun _ _ => 0) ⟨#[], #[(zEnt : Value), (zEnt : Value), (.string ⟨#[]⟩ : Value)], []⟩).memory Tryz.f9.params.toList Rows.rebuildNotesSpec.vars false #[(zEnt : Value), (zEnt : Value), (.string ⟨#[]⟩ : Value)].toList 8 = some ([dEnt, dEnt, .lit (.string [])], [], places) :=
  ⟨[], by kernel_rfl⟩

set_option maxRecDepth 100000 in
theorem lifted (os : Os) (started : os.Started) (H : Type) (enc : TypeId × Value → H) (F : Stop.Interp) :
    ReturnsInHanded {} Tryz.checked os 9 .any ((OpenSpec.ofChange Rows.rebuildNotesSpec).preRow enc Tryz.prog Tryz.f9 Rows.rebuildNotesRow.domain false Rows.rebuildNotesRow.laid) (((OpenSpec.ofChange Rows.rebuildNotesSpec).at F).post enc Tryz.prog Tryz.f9 false true false false) := by
  obtain ⟨places, hx⟩ := reads os enc
  refine returnsInHanded_of_row (C := Tryz.checked) (s := OpenSpec.ofChange Rows.rebuildNotesSpec) ownk started (by kernel_rfl) Tryz.func9
    (witness_lay (enc := enc) (C := Tryz.checked) false #[(zEnt : Value), (zEnt : Value), (.string ⟨#[]⟩ : Value)] (World.shaped_of_ZipB (by kernel_rfl) (by kernel_rfl)) (by kernel_rfl)
      (OpenSpec.preRow_of_cond 8 hx (by kernel_rfl) (fun k hk => by cases hk) (by kernel_rfl) (laid_met os))) ?_
  intro W base args ds gs before hval hW _ _ _ hL hS _
  exact contract H enc W base args ds gs before hval hW hL hS

theorem said : Rows.RebuildNotesSaid :=
  OpenClaim.holds_of_cond 9 Tryz.f9 rfl rfl rfl rfl rfl rfl rfl ⟨rfl, rfl, rfl, rfl, rfl⟩ rfl rfl rfl rfl rfl (by kernel_rfl) Tryz.func9 joined_rebuildNotes
    (of_decide_eq_true (by kernel_rfl)) (by unfold Func.isWrapper; first | (rw [if_pos (by decide +kernel)]; kernel_rfl) | (rw [if_neg (by decide +kernel)]; exact ⟨rfl, rfl⟩))
    (fun os started H enc _ F => by rw [OpenClaim.pre_eq_preRow]; exact lifted os started H enc F)

theorem plain (f : FuncId) (fn : Func) (hf : Tryz.pinned.checked.prog.funcNamed Rows.rebuildNotesRow.func = some f) (hfn : Tryz.pinned.checked.prog.funcs[f]? = some fn) :
    false = Tryz.pinned.checked.prog.looks [] ∧ ∀ (j : Nat) t, fn.params[j]? = some t → Tryz.pinned.checked.prog.wantsStandIn t = false := by
  obtain rfl : f = 9 := Option.some.inj ((show Tryz.prog.funcNamed Rows.rebuildNotesRow.func = some 9 by kernel_rfl).symm.trans hf) |>.symm
  obtain rfl : fn = Tryz.f9 := (Option.some.inj (Tryz.func9.symm.trans hfn)).symm
  refine ⟨by kernel_rfl, fun j t ht => ?_⟩
  rw [Tryz.params9] at ht
  have hm := Array.mem_of_getElem? ht
  have ha : (#[27, 27, 9] : Array TypeId).all (fun t => !Tryz.prog.wantsStandIn t) = true := by kernel_rfl
  have := (Array.all_eq_true_iff_forall_mem.1 ha) t hm
  exact (show Tryz.prog.wantsStandIn t = false by simpa using this)

/-- THE CARD -/
theorem card : Rows.RebuildNotesCardSaid :=
  Claim7.holds_tied_plain_at .later [] _ _ _ _ said (fun _ h => by cases h) (by kernel_rfl) (fun _ h => by cases h) rebuildNotes_row_tie rfl ⟨rfl, rfl⟩ (by kernel_rfl) rfl plain (by kernel_rfl)
end Go.Proofs.YtkmhegogiadjfaaGreatDoor.rebuildNotes

end
