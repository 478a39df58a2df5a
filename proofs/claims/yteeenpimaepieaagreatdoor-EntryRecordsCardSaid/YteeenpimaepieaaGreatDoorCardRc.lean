/- Several texts in one: FewE FrameE3 LaRc CardRc. -/
import Derived.Test.YteeenpimaepieaaGreatDoorSaC
import Derived.Test.YteeenpimaepieaaGreatDoorEn
import Derived.Test.YteeenpimaepieaaGreatDoorFrameEn
import Derived.Test.YteeenpimaepieaaGreatDoorAwE
import Derived.Test.YteeenpimaepieaaGreatDoorRtF
import Derived.Test.YteeenpimaepieaaGreatDoorJEntryRecords
section
/- Contract of dasdlaw33.few. -/
namespace Go.Proofs.YteeenpimaepieaaGreatDoor
open Go.RowKit
set_option maxHeartbeats 8000000
set_option maxRecDepth 8000
attribute [local go_sem] vals_0 vals_1 vals_18 vals_19 vals_23 vals_28 vals_29 vals_32
/-- grants that can be read, however many -/
def GR (w : World) (a : Option Addr) (n : Nat) : Prop := n ≤ 9223372036854775807 ∧ ∀ k, k < n → ∃ (b o : Nat) (g : Gr), a = some ⟨b, o, none⟩ ∧ b < w.heap.size ∧ w.cell? ⟨b, o + k * 3, none⟩ = some (.string g.1) ∧ w.cell? ⟨b, o + k * 3 + 1, none⟩ = some (.bool g.2.1) ∧ w.cell? ⟨b, o + k * 3 + 2, none⟩ = some (.int .i64 g.2.2)
def fewP (e : En) (n1 n2 : Nat) : Prop := e.name.size ≤ 60 ∧ n1 ≤ 8 ∧ n2 ≤ 12
def FV (w wr : World) (cs : Array Value) : Prop := Below w.heap.size w wr ∧ row wr w.heap.size = cs ∧ w.heap.size < wr.heap.size
def FewR (e : En) (n1 n2 : Nat) (w w' : World) (r : Ending) : Prop := ∃ b : Bool, r = .returned (.bool b) ∧ (b = true → fewP e n1 n2) ∧ Below w.heap.size w w'
theorem FewR.no {e : En} {n1 n2 : Nat} {w w' : World} (h : Below w.heap.size w w') : FewR e n1 n2 w w' (.returned (.bool false)) := ⟨false, rfl, (fun h => by cases h), h⟩
theorem few33 (e : En) (a1 a2 : Option Addr) (n1 c1 n2 c2 : Nat) (w : World) (hG : GR w a2 n2) :
    Calls Tryz.prog 13 #[.agg (e.vals (.slice a1 n1 c1) (.slice a2 n2 c2))] w fun r w' => FewR e n1 n2 w w' r := by
  obtain ⟨hn, hG⟩ := hG
  have HG := Lib.hid hG
  clear hG
  go_enter Tryz.func13, Tryz.ntmps13
  go_wp2_with fail
  go_loopw [8] (fun i wr => ∃ k : Nat, k ≤ n2 ∧ i = .int .i64 k ∧ FV w wr (e.vals (.slice a1 n1 c1) (.slice a2 n2 c2))) (fun i _ => n2 - (intOf i).toNat)
  case atStart => exact ⟨0, Nat.zero_le _, rfl, by (repeat (first | exact Below.refl _ _ | assumption | (refine Below.drew ?_) | (refine Below.alloc ?_ (by first | (simp; done) | (simp; omega) | omega) _) | (refine Below.setCell ?_ (by first | (simp; done) | (simp; omega) | omega) _))), row_new _ _ _ _, by simp⟩
  case round =>
    obtain ⟨k, hk, rfl, hB, hrow, hlt⟩ := hrel
    by_cases hkn : k < n2
    · obtain ⟨b, o, g, rfl, hb, g0, g1, g2⟩ := HG.out k hkn
      have q0 := (hB.cell (p := ⟨b, o + k * 3, none⟩) hb).trans g0
      have q1 := (hB.cell (p := ⟨b, o + k * 3 + 1, none⟩) hb).trans g1
      have q2 := (hB.cell (p := ⟨b, o + k * 3 + 2, none⟩) hb).trans g2
      obtain ⟨gw, gg, gl⟩ := g
      simp only at q0 q1 q2
      clear g0 g1 g2
      have z0 := hB.size
      by_cases h20 : 20 < gw.size
      · go_wp2_with fail
        go_ret
        exact FewR.no (by (repeat (first | exact Below.refl _ _ | assumption | (refine Below.drew ?_) | (refine Below.alloc ?_ (by first | (simp; done) | (simp; omega) | omega) _) | (refine Below.setCell ?_ (by first | (simp; done) | (simp; omega) | omega) _))))
      · go_wp2_with fail
        go_roundw
        case rel => exact ⟨k + 1, by omega, by go_num, by (repeat (first | exact Below.refl _ _ | assumption | (refine Below.drew ?_) | (refine Below.alloc ?_ (by first | (simp; done) | (simp; omega) | omega) _) | (refine Below.setCell ?_ (by first | (simp; done) | (simp; omega) | omega) _))), row_below ((Below.refl _ _).alloc (Nat.le_refl _) _) hrow (by simp [vals_size]), by simp; omega⟩
        case measure => simp [intOf]; omega
    · have v1 := cell_row hrow 1 _ (vals_1 e _ _)
      have v18 := cell_row hrow 18 _ (vals_18 e _ _)
      have v19 := cell_row hrow 19 _ (vals_19 e _ _)
      have v23 := cell_row hrow 23 _ (vals_23 e _ _)
      have v28 := cell_row hrow 28 _ (vals_28 e _ _)
      have v29 := cell_row hrow 29 _ (vals_29 e _ _)
      have v32 := cell_row hrow 32 _ (vals_32 e _ _)
      by_cases h1 : e.name.size ≤ 60
      rotate_left
      · have q1 : decide ((e.name.size : Int) ≤ 60) = false := by rw [decide_eq_false_iff_not]; omega
        clear h1
        go_wp2_with fail
        go_ret
        exact FewR.no hB
      have q1 : decide ((e.name.size : Int) ≤ 60) = true := by rw [decide_eq_true_eq]; omega
      by_cases h2 : n1 ≤ 8
      rotate_left
      · have q2 : decide ((n1 : Int) ≤ 8) = false := by rw [decide_eq_false_iff_not]; omega
        clear h2
        go_wp2_with fail
        go_ret
        exact FewR.no hB
      have q2 : decide ((n1 : Int) ≤ 8) = true := by rw [decide_eq_true_eq]; omega
      by_cases h3 : n2 ≤ 12
      rotate_left
      · have q3 : decide ((n2 : Int) ≤ 12) = false := by rw [decide_eq_false_iff_not]; omega
        clear h3
        go_wp2_with fail
        go_ret
        exact FewR.no hB
      have q3 : decide ((n2 : Int) ≤ 12) = true := by rw [decide_eq_true_eq]; omega
      have HP : Hid (fewP e n1 n2) := Lib.hid ⟨h1, h2, h3⟩
      clear h1 h2 h3
      go_wp2_with fail
      go_ret
      exact ⟨_, rfl, fun _ => HP.out, hB⟩
end Go.Proofs.YteeenpimaepieaaGreatDoor

end
section
/- The grants of an entry among the arguments can be read, however many. -/
namespace Go.Proofs.YteeenpimaepieaaGreatDoor
open Go.ChangeShapes Go.WideShapes Go.RowKit
set_option maxRecDepth 100000
theorem open_gr {H : Type} {enc : TypeId × Value → H} {W : World} {fuel : Nat} {a2 : Option Addr} {n2 c2 : Nat} {x : DataW H × List MemPlace} (h : DataW.trod enc Tryz.prog W 0 (fun _ => true) true fuel 25 [.slice a2 n2 c2] = some x) : GR W a2 n2 := by
  rcases Go.Deep.open_slice Tryz.underlying25 h with ⟨h1, -⟩ | ⟨a, len, cap, m, f, D, Pl, h1, -, hl, hmax, hm, -, hi⟩
  · have := List.head_eq_of_cons_eq h1
    injection this with e1 e2 e3
    subst e2
    exact ⟨by omega, fun k hk => by omega⟩
  · have := List.head_eq_of_cons_eq h1
    injection this with e1 e2 e3
    subst e1 e2 e3
    refine ⟨by simp only [maxLen] at hmax; omega, fun k hk => ?_⟩
    have e3 : Tryz.prog.cellsOf 80 = 3 := by kernel_rfl
    obtain ⟨cs, hc, ht⟩ := hi k (by rw [hm]; split <;> omega)
    rw [e3] at hc
    obtain ⟨_, hcl, hat⟩ := World.cells?_some hc
    obtain ⟨y0, y1, y2, n', -, -, f0, f1, f2⟩ := Go.Deep.trod_struct3 Tryz.underlying80 ht
    match cs, hcl with
    | [c0, c1, c2], _ =>
      obtain ⟨b, e0, -⟩ := DataW.trod_string Tryz.underlying9 f0
      obtain ⟨g, e1, -⟩ := DataW.trod_bool Tryz.underlying4 f1
      obtain ⟨l, e2, -⟩ := DataW.trod_int Tryz.underlying3 f2
      have k0 : c0 = .string b := List.head_eq_of_cons_eq e0
      have k1 : c1 = .bool g := List.head_eq_of_cons_eq e1
      have k2 : c2 = .int .i64 l := List.head_eq_of_cons_eq e2
      subst k0 k1 k2
      have z0 := hat 0 (by omega)
      have z1 := hat 1 (by omega)
      have z2 := hat 2 (by omega)
      have hs : a.spot = none := by
        obtain ⟨cs', hc', -⟩ := hi 0 (by rw [hm]; split <;> omega)
        rw [e3] at hc'
        obtain ⟨_, hcl', hat'⟩ := World.cells?_some hc'
        match cs', hcl' with
        | [_, _, _], _ =>
          have := World.cell?_spot (hat' 0 (by omega))
          simpa [Addr.add] using this
      obtain ⟨bb, o, s⟩ := a
      simp only at hs
      subst hs
      refine ⟨bb, o, (b, g, l), rfl, ?_, ?_, ?_, ?_⟩
      · have := World.block_lt_of_cell? W _ z0
        rw [Addr.add_mid, Addr.add_mid] at this
        exact this
      · simpa [Addr.add_mid] using z0
      · simpa [Addr.add_mid] using z1
      · simpa [Addr.add_mid] using z2
theorem en_gr {H : Type} {enc : TypeId × Value → H} {W : World} {e : En} {a1 a2 : Option Addr} {n1 c1 n2 c2 : Nat} {d : DataW H} {p : List MemPlace} (h : DataW.Trod enc Tryz.prog W 0 (fun _ => true) true 27 (.agg (e.vals (.slice a1 n1 c1) (.slice a2 n2 c2))) d p) : GR W a2 n2 := by
  obtain ⟨fuel, hf⟩ := h
  unfold En.vals at hf
  obtain ⟨xs, n, -, -, -, hxs, hfs⟩ := DataW.trod_struct Tryz.underlying27 hf
  have hx1 : xs[12]? = some (xs[12]'(by rw [hxs]; decide)) := List.getElem?_eq_getElem _
  have s2 := (hfs 12 _ rfl).trans hx1
  exact open_gr s2
end Go.Proofs.YteeenpimaepieaaGreatDoor

end
section
/- The walk of EntryRecords: Encode is the reference's Encode. -/
namespace Go.Proofs.YteeenpimaepieaaGreatDoor
open Go.RowKit
set_option maxHeartbeats 8000000
set_option maxRecDepth 8000
/-- the record that Encode gives, or nothing -/
def encR (x : Fu) : ByteArray := if okX x = true then ⟨(recX x).toArray⟩ else ⟨#[]⟩
theorem encR_of (x : Fu) (t : ByteArray) (h : Ds.bl t = (if okX x = true then recX x else [])) : t = encR x := by
  refine Ds.bl_inj (h.trans ?_)
  unfold encR
  split
  · rw [Ds.bl_mk]
  · rfl
theorem few_three (e : En) (a1 a2 : Option Addr) (n1 c1 n2 c2 : Nat) (w : World) (hG : GR w a2 n2) (o1 : n1 ≤ 1000 → ∃ l : List Int, l.length = n1 ∧ IS w (.slice a1 n1 c1) l) (o2 : n2 ≤ 1000 → ∃ l : List Gr, l.length = n2 ∧ GS w (.slice a2 n2 c2) l) (W : World) (hB : Below w.heap.size w W) :
    Calls Tryz.prog 13 #[.agg (e.vals (.slice a1 n1 c1) (.slice a2 n2 c2))] W fun r w' => Below W.heap.size W w' ∧ (r = .returned (.bool false) ∨ r = .returned (.bool true) ∧ Hid (e.name.size ≤ 60 ∧ ∃ (l1 : List Int) (l2 : List Gr), IS w (.slice a1 n1 c1) l1 ∧ GS w (.slice a2 n2 c2) l2)) := by
  have hG' : GR W a2 n2 := ⟨hG.1, fun k hk => by
    obtain ⟨b, o, g, h1, h2, h3, h4, h5⟩ := hG.2 k hk
    exact ⟨b, o, g, h1, Nat.lt_of_lt_of_le h2 hB.size, (hB.cell (p := ⟨b, o + k * 3, none⟩) h2).trans h3, (hB.cell (p := ⟨b, o + k * 3 + 1, none⟩) h2).trans h4, (hB.cell (p := ⟨b, o + k * 3 + 2, none⟩) h2).trans h5⟩⟩
  refine (few33 e a1 a2 n1 c1 n2 c2 W hG').mono ?_
  rintro r w' ⟨b, rfl, hb, hB2⟩
  refine ⟨hB2, ?_⟩
  cases b
  · exact Or.inl rfl
  · obtain ⟨h1, h2, h3⟩ := hb rfl
    obtain ⟨l1, _, i1⟩ := o1 (by omega)
    obtain ⟨l2, _, i2⟩ := o2 (by omega)
    exact Or.inr ⟨rfl, Lib.hid ⟨h1, l1, l2, i1, i2⟩⟩
theorem enc_p (x : Fu) (al gr : Value) (w : World) (hm : MaxL w) (hT : Tab w) (hsz : x.1.name.size ≤ 60) (h1 : IS w al x.2.1) (h2 : GS w gr x.2.2) :
    Calls Tryz.prog 23 #[.agg (x.1.vals al gr)] w fun r w' => r = .returned (.tuple #[.string (encR x), .int .i64 (if okX x = true then 0 else 1)]) ∧ Below w.heap.size w w' := by
  refine (en_encode x.1 al gr x.2.1 x.2.2 w hm hT (by omega) h1 h2).mono ?_
  rintro r w' ⟨t, rfl, ht, hb⟩
  obtain rfl := encR_of x t ht
  exact ⟨rfl, hb⟩
theorem enc_r (x : Fu) (al gr : Value) (w : World) (hsz : x.1.name.size ≤ 60) (h1 : IS w al x.2.1) (h2 : GS w gr x.2.2) :
    Calls Tryz.prog 24 #[.agg (x.1.vals al gr)] w fun r w' => r = .returned (.tuple #[.string (encR x), .int .i64 (if okX x = true then 0 else 1)]) ∧ Below w.heap.size w w' := by
  refine (renc_any x al gr w hsz h1 h2).mono ?_
  rintro r w' ⟨t, rfl, ht, hb⟩
  obtain rfl := encR_of x t ht
  exact ⟨rfl, hb⟩
theorem below_x {w w1 : World} {o : Obj} (hb : Below (w.alloc o).heap.size (w.alloc o) w1) : Below w.heap.size w w1 := ((Below.refl _ _).alloc (Nat.le_refl _) _).trans (hb.mono (by simp))
attribute [local go_sem ↓] ldEnt stEnt
attribute [local go_sem] isHead_mk headOf_mk cellsOfV_mk isAggV_mk row_new row_new2 row_new2' row_drew row_drewN vals_size allOne_nil allOne_cons one_int one_bool one_string one_pointer one_slice one_func
theorem law_records (e : En) (a1 a2 : Option Addr) (n1 c1 n2 c2 : Nat) (w : World) (hm : MaxL w) (hT : Tab w) (o1 : n1 ≤ 1000 → ∃ l : List Int, l.length = n1 ∧ IS w (.slice a1 n1 c1) l) (o2 : n2 ≤ 1000 → ∃ l : List Gr, l.length = n2 ∧ GS w (.slice a2 n2 c2) l) (hG : GR w a2 n2) :
    Calls Tryz.prog 4 #[.agg (e.vals (.slice a1 n1 c1) (.slice a2 n2 c2))] w fun r w' => r = .returned (.bool true) ∧ Below w.heap.size w w' := by
  have HAW := Lib.hid (fun W (b : Below w.heap.size w W) => aw33 W (hm.below b) (hT.below b))
  have HF := Lib.hid (few_three e a1 a2 n1 c1 n2 c2 w hG o1 o2)
  have hcode : ∀ (l1 : List Int) (l2 : List Gr), ∃ k : Int, k = (if okX (e, l1, l2) = true then (0 : Int) else 1) := fun _ _ => ⟨_, rfl⟩
  have HC := Lib.hid hcode
  clear o1 o2 hG hcode
  go_enter Tryz.func4, Tryz.ntmps4
  go_wp2_with (first
    | (go_at_call 12; (with_reducible refine (HAW.out _ (by (repeat (first | exact Below.refl _ _ | assumption | (refine Below.drew ?_) | (refine Below.alloc ?_ (by first | (simp; done) | (simp; omega) | omega) _) | (refine Below.setCell ?_ (by first | (simp; done) | (simp; omega) | omega) _))))).mono ?_); rintro _ w1 ⟨rfl, hb⟩; have R1 := row_below hb (row_new w _ _ _) (by simp [vals_size]); have B1 := below_x hb; clear hb)
    | (go_at_call 13; (refine (HF.out _ B1).mono ?_); rintro _ w2 ⟨hb, hh⟩; have R2 := row_below hb R1 (by simp [vals_size]); have B2 := bt B1 hb; clear hb; rcases hh with rfl | ⟨rfl, hh⟩; rotate_left 1; obtain ⟨hz, l1, l2, i1, i2⟩ := hh.out; obtain ⟨code, hcd⟩ := HC.out l1 l2; have HCD := Lib.hid hcd; clear hcd)
    | (go_at_call 23; (refine (enc_p (e, l1, l2) _ _ _ (hm.below B2) (hT.below B2) hz (i1.below B2) (i2.below B2)).mono ?_); rintro _ w3 ⟨rfl, hb⟩; have R3 := row_below hb R2 (by simp [vals_size]); have B3 := bt B2 hb; clear hb; rw [← HCD.out])
    | (go_at_call 24; (refine (enc_r (e, l1, l2) _ _ _ hz (i1.below B3) (i2.below B3)).mono ?_); rintro _ w4 ⟨rfl, hb⟩; have B4 := bt B3 hb; clear hb; rw [← HCD.out]))
  all_goals
    go_ret
    exact ⟨rfl, by first | exact B4 | exact B2⟩
end Go.Proofs.YteeenpimaepieaaGreatDoor

end
section
/- The statement EntryRecords: the walk, the frame of the row, the card. Conditions: none beyond the statement. -/
namespace Go.Proofs.YteeenpimaepieaaGreatDoor.entryRecords
open Go.ChangeShapes Go.WideShapes Go.ChangeAt Go.RowKit Go.Proofs.YteeenpimaepieaaGreatDoor
open Go.ChangeMaps (open_string)

set_option maxRecDepth 100000 in
theorem contract (H : Type) (enc : TypeId × Value → H) (W : World) (base : Nat) (args : Array Value) (ds gs : List (DataW H)) (before : List MemPlace)
    (hval : ∀ (j : Nat) t v, Tryz.f4.params[j]? = some t → args[j]? = some v → Value.okWide Tryz.prog W .any base t v)
    (hW : DataW.Whole enc Tryz.prog Tryz.f4.params.toList Rows.entryRecordsSpec.vars false W args.toList ds gs before) (hL : laidMetH Tryz.prog Rows.entryRecordsRow.laid W) (hS : W.ShapedOpen Tryz.prog) :
    Calls Tryz.prog 4 args W fun e W' => ∃ v, e = .returned v ∧ Rows.entryRecordsSpec.post enc Tryz.prog Tryz.f4 false true false false W args v W' := by
  have hW' := hW
  have hlt : ∀ x ∈ before, x.block < W.heap.size := fun x hx => by simpa using hW'.lt x hx
  obtain ⟨p, q, hA0, hV, rfl, hfz, hnd⟩ := hW
  have hA : DataW.TrodAll enc Tryz.prog W 0 (fun _ => true) true Tryz.f4.params.toList args.toList ds p := hA0
  have hK := hA
  rw [Tryz.params4] at hA hval
  obtain ⟨v0, vs0, d0, ds0, p0, q0, hargs, rfl, rfl, h0, r0⟩ := trodAll_cons hA
  obtain ⟨rfl, rfl, rfl⟩ := trodAll_nil r0
  obtain rfl : args = #[v0] := by cases args; simp_all
  obtain ⟨rfl, rfl⟩ := trodVars_none hV
  obtain ⟨e0, a0, n0, c0, x0, m0, k0, rfl, o0, u0⟩ := open_en (hval 0 27 v0 rfl rfl) h0
  rw [MakeChecks.laidMetH_plain _ _ _ (by kernel_rfl)] at hL
  refine (law_records e0 a0 x0 n0 c0 m0 k0 W (max_of hS) (tab_of hL) o0 u0 (en_gr h0)).mono fun e W' ⟨he, hb⟩ => ?_
  subst he
  exact ⟨_, rfl, _, _, _, [], _, [], hW', trodAll_cons_mk (shut_bool Tryz.underlying4 _) trodAll_mk0, args_below hb (by rw [Tryz.params4]; kernel_rfl) hK (fun x hx => hlt x (by simpa using hx)), rfl, hb.frame _, fun h => by cases h⟩

def zEnt : Value := .agg #[.int .i64 0, .string ⟨#[]⟩, .int .i64 0, .int .i64 0, .int .i64 0, .int .i64 0, .int .i64 0, .int .i64 0, .int .i64 0, .int .i64 0, .int .i64 0, .int .i64 0, .int .i64 0, .int .i64 0, .int .i64 0, .int .i64 0, .bool false, .int .i64 0, .string ⟨#[]⟩, .string ⟨#[]⟩, .int .i64 0, .int .i64 0, .bool false, .slice none 0 0, .int .i64 0, .int .i64 0, .int .i64 0, .bool false, .string ⟨#[]⟩, .string ⟨#[]⟩, .int .i64 0, .int .i64 0, .slice none 0 0]
def dEnt {H : Type} : DataW H := .agg [.lit (.int .i64 0), .lit (.string []), .agg [.lit (.int .i64 0), .lit (.int .i64 0), .lit (.int .i64 0), .lit (.int .i64 0), .lit (.int .i64 0), .lit (.int .i64 0), .lit (.int .i64 0), .lit (.int .i64 0), .lit (.int .i64 0), .lit (.int .i64 0), .lit (.int .i64 0), .lit (.int .i64 0), .lit (.int .i64 0), .lit (.int .i64 0), .lit (.bool false), .lit (.int .i64 0), .lit (.string []), .lit (.string []), .lit (.int .i64 0), .lit (.int .i64 0), .lit (.bool false)], .nil, .lit (.int .i64 0), .lit (.int .i64 0), .lit (.int .i64 0), .lit (.bool false), .lit (.string []), .lit (.string []), .lit (.int .i64 0), .lit (.int .i64 0), .nil]

theorem laid_met (os : Os) : laidMetH Tryz.prog Rows.entryRecordsRow.laid ((World.laidAll Tryz.prog os Rows.entryRecordsRow.laid).forCall (fun _ _ => 0) ⟨#[], #[(zEnt : Value)], []⟩).memory := by
  rw [MakeChecks.laidMetH_plain _ _ _ (by kernel_rfl)]; exact laidMet_laidAll _ (by kernel_rfl) (by kernel_rfl)
theorem reads (os : Os) {H : Type} (enc : TypeId × Value → H) : ∃ places, DataW.whole enc Tryz.prog ((World.laidAll Tryz.prog os Rows.entryRecordsRow.laid).forCall (fun _ _ => 0) ⟨#[], #[(zEnt : Value)], []⟩).memory Tryz.f4.params.toList Rows.entryRecordsSpec.vars false #[(zEnt : Value)].toList 8 = some ([dEnt], [], places) :=
  ⟨[], by kernel_rfl⟩

set_option maxRecDepth 100000 in
theorem lifted (os : Os) (started : os.Started) (H : Type) (enc : TypeId × Value → H) (F : Stop.Interp) :
    ReturnsInHanded {} Tryz.checked os 4 .any ((OpenSpec.ofChange Rows.entryRecordsSpec).preRow enc Tryz.prog Tryz.f4 Rows.entryRecordsRow.domain false Rows.entryRecordsRow.laid) (((OpenSpec.ofChange Rows.entryRecordsSpec).at F).post enc Tryz.prog Tryz.f4 false true false false) := by
  obtain ⟨places, hx⟩ := reads os enc
  refine returnsInHanded_of_row (C := Tryz.checked) (s := OpenSpec.ofChange Rows.entryRecordsSpec) ownk started (by kernel_rfl) Tryz.func4
    (witness_lay (enc := enc) (C := Tryz.checked) false #[(zEnt : Value)] (World.shaped_of_ZipB (by kernel_rfl) (by kernel_rfl)) (by kernel_rfl)
      (OpenSpec.preRow_of_cond 8 hx (by kernel_rfl) (fun k hk => by cases hk) (by kernel_rfl) (laid_met os))) ?_
  intro W base args ds gs before hval hW _ _ _ hL hS _
  exact contract H enc W base args ds gs before hval hW hL hS

theorem said : Rows.EntryRecordsSaid :=
  OpenClaim.holds_of_cond 4 Tryz.f4 rfl rfl rfl rfl rfl rfl rfl ⟨rfl, rfl, rfl, rfl, rfl⟩ rfl rfl rfl rfl rfl (by kernel_rfl) Tryz.func4 joined_entryRecords
    (of_decide_eq_true (by kernel_rfl)) (by unfold Func.isWrapper; first | (rw [if_pos (by decide +kernel)]; kernel_rfl) | (rw [if_neg (by decide +kernel)]; exact ⟨rfl, rfl⟩))
    (fun os started H enc _ F => by rw [OpenClaim.pre_eq_preRow]; exact lifted os started H enc F)

theorem plain (f : FuncId) (fn : Func) (hf : Tryz.pinned.checked.prog.funcNamed Rows.entryRecordsRow.func = some f) (hfn : Tryz.pinned.checked.prog.funcs[f]? = some fn) :
    false = Tryz.pinned.checked.prog.looks [] ∧ ∀ (j : Nat) t, fn.params[j]? = some t → Tryz.pinned.checked.prog.wantsStandIn t = false := by
  obtain rfl : f = 4 := Option.some.inj ((show Tryz.prog.funcNamed Rows.entryRecordsRow.func = some 4 by kernel_rfl).symm.trans hf) |>.symm
  obtain rfl : fn = Tryz.f4 := (Option.some.inj (Tryz.func4.symm.trans hfn)).symm
  refine ⟨by kernel_rfl, fun j t ht => ?_⟩
  rw [Tryz.params4] at ht
  have hm := Array.mem_of_getElem? ht
  have ha : (#[27] : Array TypeId).all (fun t => !Tryz.prog.wantsStandIn t) = true := by kernel_rfl
  have := (Array.all_eq_true_iff_forall_mem.1 ha) t hm
  exact (show Tryz.prog.wantsStandIn t = false by simpa using this)

/-- THE CARD -/
theorem card : Rows.EntryRecordsCardSaid :=
  Claim7.holds_tied_plain_at .later [] _ _ _ _ said (fun _ h => by cases h) (by kernel_rfl) (fun _ h => by cases h) entryRecords_row_tie rfl ⟨rfl, rfl⟩ (by kernel_rfl) rfl plain (by kernel_rfl)
end Go.Proofs.YteeenpimaepieaaGreatDoor.entryRecords

end
