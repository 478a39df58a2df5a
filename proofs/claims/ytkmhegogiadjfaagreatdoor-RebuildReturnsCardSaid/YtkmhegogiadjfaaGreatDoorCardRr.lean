/- Several texts in one: FrameR7 LaRr CardRr. -/
import Derived.Test.YtkmhegogiadjfaaGreatDoorFrameEn
import Derived.Test.YtkmhegogiadjfaaGreatDoorCv
import Derived.Test.YtkmhegogiadjfaaGreatDoorFew7
import Derived.Test.YtkmhegogiadjfaaGreatDoorBl
import Derived.Test.YtkmhegogiadjfaaGreatDoorJRebuildReturns
section
/- The lengths of an entry's lists among the arguments. -/
namespace Go.Proofs.YtkmhegogiadjfaaGreatDoor
open Go.ChangeShapes Go.WideShapes Go.RowKit
set_option maxRecDepth 100000
theorem sl_len {H : Type} {enc : TypeId × Value → H} {W : World} {fuel : Nat} {t e : TypeId} (ht : Tryz.prog.underlying t = some (.slice e)) {a2 : Option Addr} {n2 c2 : Nat} {x : DataW H × List MemPlace} (h : DataW.trod enc Tryz.prog W 0 (fun _ => true) true fuel t [.slice a2 n2 c2] = some x) : n2 ≤ 9223372036854775807 := by
  rcases Go.Deep.open_slice ht h with ⟨h1, -⟩ | ⟨a, len, cap, m, f, D, Pl, h1, -, hl, hmax, hm, -, hi⟩
  · have := List.head_eq_of_cons_eq h1
    injection this with e1 e2 e3
    omega
  · have := List.head_eq_of_cons_eq h1
    injection this with e1 e2 e3
    subst e1 e2 e3
    simp only [maxLen] at hmax
    omega
theorem en_lens {H : Type} {enc : TypeId × Value → H} {W : World} {e : En} {a1 a2 : Option Addr} {n1 c1 n2 c2 : Nat} {d : DataW H} {p : List MemPlace} (h : DataW.Trod enc Tryz.prog W 0 (fun _ => true) true 27 (.agg (e.vals (.slice a1 n1 c1) (.slice a2 n2 c2))) d p) : n1 ≤ 9223372036854775807 ∧ n2 ≤ 9223372036854775807 := by
  obtain ⟨fuel, hf⟩ := h
  unfold En.vals at hf
  obtain ⟨xs, n, -, -, -, hxs, hfs⟩ := DataW.trod_struct Tryz.underlying27 hf
  have hx1 : xs[12]? = some (xs[12]'(by rw [hxs]; decide)) := List.getElem?_eq_getElem _
  have hx2 : xs[3]? = some (xs[3]'(by rw [hxs]; decide)) := List.getElem?_eq_getElem _
  exact ⟨sl_len Tryz.underlying24 ((hfs 3 _ rfl).trans hx2), sl_len Tryz.underlying25 ((hfs 12 _ rfl).trans hx1)⟩
end Go.Proofs.YtkmhegogiadjfaaGreatDoor

end
section
/- The example of chapter 37; the walk of RebuildReturns: Parse inverts Note, and what it accepts is the recovery record of its results. -/
namespace Go.Proofs.YtkmhegogiadjfaaGreatDoor
open Go.RowKit
set_option maxHeartbeats 16000000
set_option maxRecDepth 8000
set_option linter.unusedSimpArgs false
def lit37 : Array Value := #[.int .i64 0, .string ⟨#[80, 65, 89, 46, 77, 65, 83, 84, 69, 82]⟩, .int .i64 130, .int .i64 0, .int .i64 0, .int .i64 0, .int .i64 0, .int .i64 0, .int .i64 0, .int .i64 0, .int .i64 0, .int .i64 0, .int .i64 0, .int .i64 0, .int .i64 0, .int .i64 0, .bool false, .int .i64 0, .string ⟨#[86, 49]⟩, .string ⟨#[]⟩, .int .i64 0, .int .i64 0, .bool false, .slice none 0 0, .int .i64 0, .int .i64 0, .int .i64 0, .bool false, .string ⟨#[]⟩, .string ⟨#[]⟩, .int .i64 0, .int .i64 0, .slice none 0 0]
theorem lit37_eq : v37 = lit37 := by unfold v37 En.vals; rfl
theorem ok37 : okX x37 = true := by
  unfold okX
  rw [if_pos (show x37.1.kind = 0 from rfl)]
  unfold okD
  rw [show sameE (onlyD x37.1) x37.1 x37.2.1 x37.2.1 [] x37.2.2 = true from (sameE_eq _ _ _ _ _ _).2 ⟨by unfold onlyD x37 e37; rfl, rfl, rfl⟩]
  decide +kernel
theorem note37 : noteOk x37 zFu = true := by
  unfold noteOk fitG
  rw [ok37, noGroup_z, if_neg (by decide +kernel)]
  rfl
theorem ok_zero : okX zFu = false := by
  unfold okX
  rw [if_pos (show zFu.1.kind = 0 from rfl)]
  unfold okD
  rw [show Ds.name (Ds.bl zFu.1.name) = false by decide +kernel]
  rfl
theorem note_zero (g : Fu) : noteOk zFu g = false := by unfold noteOk; rw [ok_zero]; rfl
def s37 : ByteArray := noteS x37 zFu
theorem noteS_bl (x g : Fu) (h : noteOk x g = true) : Ds.bl (noteS x g) = noteL x g := by unfold noteS; rw [if_pos h, Ds.bl_mk]
theorem noteS_size (x g : Fu) (h : noteOk x g = true) : (noteS x g).size ≤ 400 := by rw [← Ds.bl_length, noteS_bl x g h]; exact note_len x g h
theorem note_yes (x g : Fu) (h : noteOk x g = true) (al gr al2 gr2 : Value) (w : World) (hm : MaxL w) (hT : Tab w) (hxs : x.1.name.size ≤ 1000) (hgs : g.1.name.size ≤ 1000) (h1 : IS w al x.2.1) (h2 : GS w gr x.2.2) (h3 : IS w al2 g.2.1) (h4 : GS w gr2 g.2.2) :
    Calls Tryz.prog 51 #[.agg (x.1.vals al gr), .agg (g.1.vals al2 gr2)] w fun r w' => r = .returned (.tuple #[.string (noteS x g), .int .i64 0]) ∧ Below w.heap.size w w' := by
  have := re_note x g al gr al2 gr2 w hm hT hxs hgs h1 h2 h3 h4
  rw [h] at this
  exact this
theorem note_no (x g : Fu) (h : noteOk x g = false) (al gr al2 gr2 : Value) (w : World) (hm : MaxL w) (hT : Tab w) (hxs : x.1.name.size ≤ 1000) (hgs : g.1.name.size ≤ 1000) (h1 : IS w al x.2.1) (h2 : GS w gr x.2.2) (h3 : IS w al2 g.2.1) (h4 : GS w gr2 g.2.2) :
    Calls Tryz.prog 51 #[.agg (x.1.vals al gr), .agg (g.1.vals al2 gr2)] w fun r w' => r = .returned (.tuple #[.string ⟨#[]⟩, .int .i64 1]) ∧ Below w.heap.size w w' := by
  have := re_note x g al gr al2 gr2 w hm hT hxs hgs h1 h2 h3 h4
  rw [h, noteS_no x g h] at this
  exact this
theorem parse_yes (s : ByteArray) (x g : Fu) (h : parseX (Ds.bl s) = some (x, g)) (w : World) (hs : s.size ≤ 1000) (hm : MaxL w) (hT : Tab w) :
    Calls Tryz.prog 53 #[.string s] w fun r w' => ∃ al gr al2 gr2, r = .returned (.tuple #[.agg (x.1.vals al gr), .agg (g.1.vals al2 gr2), .int .i64 0]) ∧ IS w' al x.2.1 ∧ GS w' gr x.2.2 ∧ IS w' al2 g.2.1 ∧ GS w' gr2 g.2.2 ∧ Below w.heap.size w w' := by
  refine (re_parse s w hs hm hT).mono ?_
  rintro r w' ⟨x', g', al, gr, al2, gr2, code, rfl, h1, h2, h3, h4, hb, h5⟩
  rw [h] at h5
  rcases h5 with ⟨h5, rfl⟩ | ⟨h5, -⟩
  · cases Option.some.inj h5
    exact ⟨al, gr, al2, gr2, rfl, h1, h2, h3, h4, hb⟩
  · cases h5
theorem parse_no (s : ByteArray) (h : parseX (Ds.bl s) = none) (w : World) (hs : s.size ≤ 1000) (hm : MaxL w) (hT : Tab w) :
    Calls Tryz.prog 53 #[.string s] w fun r w' => ∃ al gr al2 gr2, r = .returned (.tuple #[.agg (En.zero.vals al gr), .agg (En.zero.vals al2 gr2), .int .i64 11]) ∧ IS w' al [] ∧ GS w' gr [] ∧ IS w' al2 [] ∧ GS w' gr2 [] ∧ Below w.heap.size w w' := by
  refine (re_parse s w hs hm hT).mono ?_
  rintro r w' ⟨x', g', al, gr, al2, gr2, code, rfl, h1, h2, h3, h4, hb, h5⟩
  rw [h] at h5
  rcases h5 with ⟨h5, -⟩ | ⟨-, rfl, rfl, rfl⟩
  · cases h5
  · exact ⟨al, gr, al2, gr2, rfl, h1, h2, h3, h4, hb⟩
theorem same_own (e : En) (l1 : List Int) (l2 : List Gr) (al gr al' gr' : Value) (w : World) (h1 : IS w al l1) (h2 : GS w gr l2) (h3 : IS w al' l1) (h4 : GS w gr' l2) :
    Calls Tryz.prog 15 #[.agg (e.vals al gr), .agg (e.vals al' gr')] w fun r w' => r = .returned (.bool true) ∧ Below w.heap.size w w' := by
  have := en_same e e al gr al' gr' l1 l1 l2 l2 w h1 h3 h2 h4
  rw [(sameE_eq e e l1 l1 l2 l2).2 ⟨rfl, rfl, rfl⟩] at this
  exact this
theorem s37_parse : parseX (Ds.bl s37) = some (x37, zFu) := by unfold s37; rw [noteS_bl _ _ note37]; exact parse_note _ _ note37
/-- two entries stored into two blocks just made -/
theorem two_new (w4 : World) (t : TypeId) (c d zs ys : Array Value) (h1 : c.size = 33) (_ : d.size = 33) (hz : zs.size = 33) (hy : ys.size = 33) : let W := (((w4.alloc (.cells zs t)).alloc (.cells ys t)).setRow w4.heap.size c).setRow (w4.heap.size + 1) d
    Below w4.heap.size w4 W ∧ row W w4.heap.size = c ∧ row W (w4.heap.size + 1) = d := by
  have k1 : Held ((w4.alloc (.cells zs t)).alloc (.cells ys t)) w4.heap.size 33 := held_a _ _ _ _ (held_n _ _ _ hz)
  have k2 : Held ((w4.alloc (.cells zs t)).alloc (.cells ys t)) (w4.heap.size + 1) 33 := by
    have := held_n (w4.alloc (.cells zs t)) ys t hy
    rwa [show (w4.alloc (.cells zs t)).heap.size = w4.heap.size + 1 by simp] at this
  refine ⟨below_setRow (below_setRow (by (repeat (first | exact Below.refl _ _ | assumption | (refine Below.drew ?_) | (refine Below.alloc ?_ (by first | (simp; done) | (simp; omega) | omega) _) | (refine Below.setCell ?_ (by first | (simp; done) | (simp; omega) | omega) _)))) (Nat.le_refl _) _) (by omega) _, ?_, ?_⟩
  · rw [row_set_ne _ _ _ _ (by omega), row_p _ _ _ k1]
  · exact row_p _ _ _ (k2.set _ (fun _ => h1))
attribute [local go_sem ↓] ldEnt stEntRow ldEntM bldEnt bldEnt2
attribute [local go_sem ↓ high] stEnt
attribute [local go_sem] Held_drew isHead_mk headOf_mk offOf_mk isPtr_mk cellsOfV_mk isAggV_mk row_new row_new2 row_new2' row_drew row_drewN vals_size allOne_nil allOne_cons one_int one_bool one_string one_pointer one_slice one_func hz_n hz_a hz_b held_v
theorem aw37 (w : World) (hm : MaxL w) (hT : Tab w) : Calls Tryz.prog 49 #[] w fun r w' => r = .returned (.bool true) ∧ Below w.heap.size w w' := by
  have h1 := fun W (b : Below w.heap.size w W) => note_yes x37 zFu note37 (.slice none 0 0) (.slice none 0 0) (.slice none 0 0) (.slice none 0 0) W (hm.below b) (hT.below b) (Nat.le_of_ble_eq_true rfl) (Nat.le_of_ble_eq_true rfl) (IS.nil W) (GS.nil W) (IS.nil W) (GS.nil W)
  have e1 : x37.1.vals (.slice none 0 0) (.slice none 0 0) = lit37 := lit37_eq
  have e2 : zFu.1.vals (.slice none 0 0) (.slice none 0 0) = zlit 0 ⟨#[]⟩ := (zlit_eq 0 ⟨#[]⟩).symm
  rw [e1, e2] at h1
  have h2 := fun W (b : Below w.heap.size w W) => parse_yes s37 x37 zFu s37_parse W (Nat.le_trans (noteS_size _ _ note37) (by decide)) (hm.below b) (hT.below b)
  have h3 := fun al gr W (i : IS W al []) (g : GS W gr []) => same_own e37 [] [] (.slice none 0 0) (.slice none 0 0) al gr W (IS.nil W) (GS.nil W) i g
  rw [show e37.vals (.slice none 0 0) (.slice none 0 0) = lit37 from lit37_eq] at h3
  have hr := fun t f => row_new w lit37 t f
  have hz33 : lit37.size = 33 := rfl
  unfold lit37 zlit at h1
  change ∀ W, Below w.heap.size w W → Calls Tryz.prog 51 _ W (fun r w' => r = .returned (.tuple #[.string s37, .int .i64 0]) ∧ Below W.heap.size W w') at h1
  have H1 := Lib.hid h1
  have H2 := Lib.hid h2
  have H3 := Lib.hid h3
  clear h1 h2 h3 e1 e2
  generalize s37 = sx at H1 H2
  go_enter Tryz.func49, Tryz.ntmps49
  go_upto_region 4 with (first
    | (go_at_call 51; (with_reducible refine (H1.out _ (by (repeat (first | exact Below.refl _ _ | assumption | (refine Below.drew ?_) | (refine Below.alloc ?_ (by first | (simp; done) | (simp; omega) | omega) _) | (refine Below.setCell ?_ (by first | (simp; done) | (simp; omega) | omega) _))))).mono ?_); rintro _ w1 ⟨rfl, hb⟩; have R1 : row w1 w.heap.size = lit37 := row_below hb (hr _ _) (by rw [hz33]; decide); have B1 := Below.trans (show Below w.heap.size w _ by (repeat (first | exact Below.refl _ _ | assumption | (refine Below.drew ?_) | (refine Below.alloc ?_ (by first | (simp; done) | (simp; omega) | omega) _) | (refine Below.setCell ?_ (by first | (simp; done) | (simp; omega) | omega) _)))) (hb.mono (by simp)); have z1 : w.heap.size < w1.heap.size := (by have := hb.size; simp at this; omega); clear hb)
    | (go_at_call 53; (refine (H2.out _ B1).mono ?_); rintro _ w2 ⟨al, gr, al2, gr2, rfl, hI, hG, hI2, hG2, hb⟩; have R2 : row w2 w.heap.size = lit37 := row_below hb R1 (by rw [hz33]; decide); have B2 := bt B1 hb; have hone := vals_one x37.1 al gr (is_one hI) (gs_one hG); have hone2 := vals_one zFu.1 al2 gr2 (is_one hI2) (gs_one hG2); have z2 : w.heap.size < w2.heap.size := (by have := hb.size; omega); have HI := Lib.hid hI; have HG := Lib.hid hG; clear hb hI hG hI2 hG2))
  generalize hW : World.setRow (World.setRow _ _ _) _ _ = W5
  obtain ⟨B5, X5, -⟩ : Below w2.heap.size w2 W5 ∧ row W5 w2.heap.size = x37.1.vals al gr ∧ row W5 (w2.heap.size + 1) = zFu.1.vals al2 gr2 := by rw [← hW]; exact two_new w2 _ _ _ _ _ (vals_size _ _ _) (vals_size _ _ _) rfl rfl
  clear hW
  have R5 := row_below B5 R2 (by rw [hz33]; decide)
  have B25 := Lib.hid (bt B2 B5)
  have HX := Lib.hid (fun W (b : Below w.heap.size w W) => (H2.out W b).mono (R' := fun r w' => ∃ al gr al2 gr2, r = .returned (.tuple #[.agg (e37.vals al gr), .agg (En.zero.vals al2 gr2), .int .i64 0]) ∧ IS w' al [] ∧ GS w' gr [] ∧ one al2 = true ∧ one gr2 = true ∧ Below W.heap.size W w') fun r w' ⟨a, b, c, d, h1, h2, h3, h4, h5, h6⟩ => ⟨a, b, c, d, h1, h2, h3, is_one h4, gs_one h5, h6⟩)
  have HI5 := Lib.hid (HI.out.below B5)
  have HG5 := Lib.hid (HG.out.below B5)
  have m0 : ∀ o : Obj, mid ((W5.alloc (.cells lit37 27)).alloc o) W5.heap.size 0 = v37 := fun o => by
    unfold mid
    rw [row_new2, lit37_eq]
    rfl
  have HM := Lib.hid m0
  clear m0 hr H1 H2 R1 R2
  unfold lit37 at R5
  unfold lit37 at hz33
  go_wp2_with (first
    | (go_at_call 122; (refine (cw_comp W5.heap.size (W5.heap.size + 1) sx _ (by simp) (HM.out _) (row_new2' _ _ _ _ _) (fun W b => HX.out W (bt (bt B25.out (below2' _ _ _)) b))).mono ?_); rintro _ w6 ⟨g, c, rfl, hcs, hb⟩; have B6 := Lib.hid (below2 hb); have c0 := hcs 0 _ rfl; have c1 := hcs 1 _ rfl; have c2 : w6.cell? ⟨g, 2, none⟩ = some (.string ⟨#[86, 50]⟩) := hcs 2 _ rfl; have c3 := hcs 3 _ rfl; have R6 := row_below B6.out R5 (by rw [hz33]; decide); have X6 := row_below B6.out X5 (by rw [vals_size]; decide); clear hcs hb)
    | (go_at_call 15; (refine (H3.out al gr _ (HI5.out.below B6.out) (HG5.out.below B6.out)).mono ?_); rintro _ w7 ⟨rfl, hb⟩; have c0 := (hb.cell (block_lt_of_cell c0)).trans c0; have c1 := (hb.cell (block_lt_of_cell c1)).trans c1; have c2 := (hb.cell (block_lt_of_cell c2)).trans c2; have c3 := (hb.cell (block_lt_of_cell c3)).trans c3; have B7 := Lib.hid (bt B6.out hb); clear hb))
  go_ret
  exact ⟨rfl, bt B25.out B7.out⟩
theorem ext_l (c d : Array Value) (hc : c.size = 33) : (c ++ d).extract 0 33 = c := by
  rw [← hc]; simp
theorem ext_r (c d : Array Value) (hc : c.size = 33) (hd : d.size = 33) : (c ++ d).extract 33 66 = d := by
  apply Array.ext_getElem?
  intro i
  rw [Array.getElem?_extract]
  split
  · rw [Array.getElem?_append_right (by omega), hc]; congr 1; omega
  · rename_i h
    rw [Array.size_append, hc, hd] at h
    rw [Array.getElem?_eq_none (by omega)]
def two_F (e f : En) (n1 n2 m1 m2 : Nat) (l2 r2 : List Gr) : Nat → Ef := fun k => if k = 0 then ⟨e, n1, n2, l2⟩ else ⟨f, m1, m2, r2⟩
theorem es_two (e f : En) (a1 a2 b1 b2 : Option Addr) (n1 c1 n2 c2 m1 d1 m2 d2 : Nat) (l2 r2 : List Gr) (W : World) (h1 : n1 ≤ 9223372036854775807) (h2 : n2 ≤ 9223372036854775807) (h3 : m1 ≤ 9223372036854775807) (h4 : m2 ≤ 9223372036854775807) (hl : n2 ≤ 1000 → l2.length = n2 ∧ GS W (.slice a2 n2 c2) l2) (hr : m2 ≤ 1000 → r2.length = m2 ∧ GS W (.slice b2 m2 d2) r2) :
    ES (W.alloc (.cells (e.vals (.slice a1 n1 c1) (.slice a2 n2 c2) ++ f.vals (.slice b1 m1 d1) (.slice b2 m2 d2)) 27)) (some ⟨W.heap.size, 0, none⟩) 2 (two_F e f n1 n2 m1 m2 l2 r2) := by
  refine ⟨by decide, fun k hk => ⟨W.heap.size, 0, rfl, by simp, ?_⟩⟩
  have b := (Below.refl W.heap.size W).alloc (Nat.le_refl _) (.cells (e.vals (.slice a1 n1 c1) (.slice a2 n2 c2) ++ f.vals (.slice b1 m1 d1) (.slice b2 m2 d2)) 27)
  rcases (by omega : k = 0 ∨ k = 1) with rfl | rfl
  · refine ⟨a1, c1, a2, c2, ?_, h1, h2, fun h => ⟨(hl h).1, (hl h).2.below b⟩⟩
    unfold mid
    rw [row_new]
    exact ext_l _ _ (vals_size _ _ _)
  · refine ⟨b1, d1, b2, d2, ?_, h3, h4, fun h => ⟨(hr h).1, (hr h).2.below b⟩⟩
    unfold mid
    rw [row_new]
    exact ext_r _ _ (vals_size _ _ _) (vals_size _ _ _)
/-- two entries among the arguments, and how they can be read -/
structure Two2 (w : World) (e f : En) (a1 a2 b1 b2 : Option Addr) (n1 c1 n2 c2 m1 d1 m2 d2 : Nat) : Prop where
  s1 : n1 ≤ 9223372036854775807
  s2 : n2 ≤ 9223372036854775807
  s3 : m1 ≤ 9223372036854775807
  s4 : m2 ≤ 9223372036854775807
  i1 : n1 ≤ 1000 → ∃ l : List Int, l.length = n1 ∧ IS w (.slice a1 n1 c1) l
  g1 : n2 ≤ 1000 → ∃ l : List Gr, l.length = n2 ∧ GS w (.slice a2 n2 c2) l
  i2 : m1 ≤ 1000 → ∃ l : List Int, l.length = m1 ∧ IS w (.slice b1 m1 d1) l
  g2 : m2 ≤ 1000 → ∃ l : List Gr, l.length = m2 ∧ GS w (.slice b2 m2 d2) l
theorem Two2.few {w : World} {e f : En} {a1 a2 b1 b2 : Option Addr} {n1 c1 n2 c2 m1 d1 m2 d2 : Nat} (h : Two2 w e f a1 a2 b1 b2 n1 c1 n2 c2 m1 d1 m2 d2) (W : World) (hB : Below w.heap.size w W) :
    Calls Tryz.prog 50 #[.slice (some ⟨W.heap.size, 0, none⟩) 2 2, .int .i64 2] (W.alloc (.cells (e.vals (.slice a1 n1 c1) (.slice a2 n2 c2) ++ f.vals (.slice b1 m1 d1) (.slice b2 m2 d2)) 27)) fun r w' => ∃ b : Bool, r = .returned (.bool b) ∧ (b = true → (e.name.size ≤ 60 ∧ n2 ≤ 12 ∧ n1 ≤ 8) ∧ (f.name.size ≤ 60 ∧ m2 ≤ 12 ∧ m1 ≤ 8)) ∧ Below W.heap.size W w' := by
  obtain ⟨l2, hl⟩ : ∃ l2 : List Gr, n2 ≤ 1000 → l2.length = n2 ∧ GS W (.slice a2 n2 c2) l2 := by
    by_cases q : n2 ≤ 1000
    · obtain ⟨l, x, y⟩ := h.g1 q; exact ⟨l, fun _ => ⟨x, y.below hB⟩⟩
    · exact ⟨[], fun k => absurd k q⟩
  obtain ⟨r2, hr⟩ : ∃ l2 : List Gr, m2 ≤ 1000 → l2.length = m2 ∧ GS W (.slice b2 m2 d2) l2 := by
    by_cases q : m2 ≤ 1000
    · obtain ⟨l, x, y⟩ := h.g2 q; exact ⟨l, fun _ => ⟨x, y.below hB⟩⟩
    · exact ⟨[], fun k => absurd k q⟩
  refine (few37 (some ⟨W.heap.size, 0, none⟩) 2 2 _ 2 _ (es_two e f a1 a2 b1 b2 n1 c1 n2 c2 m1 d1 m2 d2 l2 r2 W h.s1 h.s2 h.s3 h.s4 hl hr)).mono ?_
  rintro r w' ⟨b, rfl, hb, hB2⟩
  exact ⟨b, rfl, fun q => ⟨(hb q).2 0 (by decide), (hb q).2 1 (by decide)⟩, below1 hB2⟩
theorem rr_no (e f : En) (a1 a2 b1 b2 : Option Addr) (n1 c1 n2 c2 m1 d1 m2 d2 : Nat) (s : ByteArray) (w : World) (hm : MaxL w) (hT : Tab w) (h2 : Two2 w e f a1 a2 b1 b2 n1 c1 n2 c2 m1 d1 m2 d2) (hall : ¬ (((e.name.size ≤ 60 ∧ n2 ≤ 12 ∧ n1 ≤ 8) ∧ (f.name.size ≤ 60 ∧ m2 ≤ 12 ∧ m1 ≤ 8)) ∧ s.size ≤ 500)) :
    Calls Tryz.prog 10 #[.agg (e.vals (.slice a1 n1 c1) (.slice a2 n2 c2)), .agg (f.vals (.slice b1 m1 d1) (.slice b2 m2 d2)), .string s] w fun r w' => r = .returned (.bool true) ∧ Below w.heap.size w w' := by
  have HAW := Lib.hid (fun W (b : Below w.heap.size w W) => aw37 W (hm.below b) (hT.below b))
  have HF := Lib.hid h2.few
  have v1 := vals_one e (.slice a1 n1 c1) (.slice a2 n2 c2) rfl rfl
  have v2 := vals_one f (.slice b1 m1 d1) (.slice b2 m2 d2) rfl rfl
  have R0 := row_new2 w (e.vals (.slice a1 n1 c1) (.slice a2 n2 c2)) 27 (0, 0) (.cells (f.vals (.slice b1 m1 d1) (.slice b2 m2 d2)) 27)
  have Q0 := row_new2' w (f.vals (.slice b1 m1 d1) (.slice b2 m2 d2)) 27 (0, 0) (.cells (e.vals (.slice a1 n1 c1) (.slice a2 n2 c2)) 27)
  obtain ⟨q0, e0⟩ : ∃ b, decide (500 < (s.size : Int)) = b := ⟨_, rfl⟩
  have HALL : Hid (q0 = false → ¬ ((e.name.size ≤ 60 ∧ n2 ≤ 12 ∧ n1 ≤ 8) ∧ (f.name.size ≤ 60 ∧ m2 ≤ 12 ∧ m1 ≤ 8))) := Lib.hid (by
    rintro rfl h
    rw [decide_eq_false_iff_not] at e0
    exact hall ⟨h, by omega⟩)
  clear hall h2
  cases q0
  · have HNA := Lib.hid (HALL.out rfl)
    clear HALL
    go_enter Tryz.func10, Tryz.ntmps10
    go_wp2_with (first
      | (go_at_call 49; (with_reducible refine (HAW.out _ (by (repeat (first | exact Below.refl _ _ | assumption | (refine Below.drew ?_) | (refine Below.alloc ?_ (by first | (simp; done) | (simp; omega) | omega) _) | (refine Below.setCell ?_ (by first | (simp; done) | (simp; omega) | omega) _))))).mono ?_); rintro _ w1 ⟨rfl, hb⟩; have R1 := row_below hb R0 (by rw [vals_size]; decide); have Q1 := row_below hb Q0 (by rw [vals_size]; decide); have B1 := below2 hb; clear hb)
      | (go_at_call 50; (refine (HF.out _ B1).mono ?_); rintro _ w2 ⟨bb, rfl, hf, hb⟩; have B2 := bt B1 hb; have HF2 := Lib.hid hf; clear hb hf; cases bb; rotate_left 1; exact absurd (HF2.out rfl) HNA.out))
    go_ret
    exact ⟨rfl, B2⟩
  · go_enter Tryz.func10, Tryz.ntmps10
    go_wp2_with (first
      | (go_at_call 49; (with_reducible refine (HAW.out _ (by (repeat (first | exact Below.refl _ _ | assumption | (refine Below.drew ?_) | (refine Below.alloc ?_ (by first | (simp; done) | (simp; omega) | omega) _) | (refine Below.setCell ?_ (by first | (simp; done) | (simp; omega) | omega) _))))).mono ?_); rintro _ w1 ⟨rfl, hb⟩; have R1 := row_below hb R0 (by rw [vals_size]; decide); have Q1 := row_below hb Q0 (by rw [vals_size]; decide); have B1 := below2 hb; clear hb)
      | (go_at_call 50; (refine (HF.out _ B1).mono ?_); rintro _ w2 ⟨bb, rfl, hf, hb⟩; have B2 := bt B1 hb; clear hb hf; cases bb))
    all_goals
      go_ret
      exact ⟨rfl, B2⟩
theorem name_small (x : Fu) (h : okX x = true) : x.1.name.size ≤ 1000 := by
  have := (okX_name x h).1
  rw [Ds.bl_length] at this
  omega
/-- what Parse gives of a text, and what Note gives of that -/
theorem par_case (w : World) (hm : MaxL w) (hT : Tab w) (s : ByteArray) (hs : s.size ≤ 1000) : ∃ (p q : Fu) (code c2 : Int) (n2 : ByteArray),
    (∀ W, Below w.heap.size w W → Calls Tryz.prog 53 #[.string s] W fun r w' => ∃ al gr al2 gr2, r = .returned (.tuple #[.agg (p.1.vals al gr), .agg (q.1.vals al2 gr2), .int .i64 code]) ∧ IS w' al p.2.1 ∧ GS w' gr p.2.2 ∧ IS w' al2 q.2.1 ∧ GS w' gr2 q.2.2 ∧ Below W.heap.size W w') ∧
    (∀ al gr al2 gr2 W, Below w.heap.size w W → IS W al p.2.1 → GS W gr p.2.2 → IS W al2 q.2.1 → GS W gr2 q.2.2 → Calls Tryz.prog 51 #[.agg (p.1.vals al gr), .agg (q.1.vals al2 gr2)] W fun r w' => r = .returned (.tuple #[.string n2, .int .i64 c2]) ∧ Below W.heap.size W w') ∧
    ((code = 0 ∧ c2 = 0 ∧ n2 = s) ∨ (code = 11 ∧ p = zFu ∧ q = zFu)) := by
  cases h : parseX (Ds.bl s) with
  | none => exact ⟨zFu, zFu, 11, 1, ⟨#[]⟩, fun W b => parse_no s h W hs (hm.below b) (hT.below b), fun al gr al2 gr2 W b i1 i2 i3 i4 => note_no zFu zFu (note_zero _) al gr al2 gr2 W (hm.below b) (hT.below b) (by decide) (by decide) i1 i2 i3 i4, Or.inr ⟨rfl, rfl, rfl⟩⟩
  | some y =>
    obtain ⟨x, g⟩ := y
    obtain ⟨h1, h2⟩ := parse_sound _ _ _ h
    obtain ⟨k1, -, k3⟩ := noteOk_parts x g h1
    have hg : g.1.name.size ≤ 1000 := by
      cases hq : Ds.gen (Ds.bl x.1.name)
      · rw [fitG_no _ _ k3 hq]; decide
      · exact name_small g (fitG_yes _ _ k3 hq).1
    have e : noteS x g = s := Ds.bl_inj (by rw [noteS_bl x g h1, h2])
    refine ⟨x, g, 0, 0, s, fun W b => parse_yes s x g h W hs (hm.below b) (hT.below b), fun al gr al2 gr2 W b i1 i2 i3 i4 => ?_, Or.inl ⟨rfl, rfl, rfl⟩⟩
    have := note_yes x g h1 al gr al2 gr2 W (hm.below b) (hT.below b) (name_small x k1) hg i1 i2 i3 i4
    rwa [e] at this
theorem same_zero2 (p : Fu) (h : p = zFu) (al gr : Value) (w : World) (h1 : IS w al p.2.1) (h2 : GS w gr p.2.2) :
    Calls Tryz.prog 15 #[.agg (p.1.vals al gr), .agg (zlit 0 ⟨#[]⟩)] w fun r w' => r = .returned (.bool true) ∧ Below w.heap.size w w' := by
  subst h
  rw [zlit_eq]
  exact same_own En.zero [] [] al gr (.slice none 0 0) (.slice none 0 0) w h1 h2 (IS.nil w) (GS.nil w)
theorem rr_yes (x g : Fu) (al gr al2 gr2 : Value) (s : ByteArray) (w : World) (hm : MaxL w) (hT : Tab w) (hxs : x.1.name.size ≤ 60) (hgs : g.1.name.size ≤ 60) (h1 : IS w al x.2.1) (h2 : GS w gr x.2.2) (h3 : IS w al2 g.2.1) (h4 : GS w gr2 g.2.2) (hs : s.size ≤ 500)
    (hF : ∀ W, Below w.heap.size w W → Calls Tryz.prog 50 #[.slice (some ⟨W.heap.size, 0, none⟩) 2 2, .int .i64 2] (W.alloc (.cells (x.1.vals al gr ++ g.1.vals al2 gr2) 27)) fun r w' => ∃ b : Bool, r = .returned (.bool b) ∧ Below W.heap.size W w') :
    Calls Tryz.prog 10 #[.agg (x.1.vals al gr), .agg (g.1.vals al2 gr2), .string s] w fun r w' => r = .returned (.bool true) ∧ Below w.heap.size w w' := by
  have HAW := Lib.hid (fun W (b : Below w.heap.size w W) => aw37 W (hm.below b) (hT.below b))
  have HF := Lib.hid hF
  have v1 := vals_one x.1 al gr (is_one h1) (gs_one h2)
  have v2 := vals_one g.1 al2 gr2 (is_one h3) (gs_one h4)
  have R0 := row_new2 w (x.1.vals al gr) 27 (0, 0) (.cells (g.1.vals al2 gr2) 27)
  have Q0 := row_new2' w (g.1.vals al2 gr2) 27 (0, 0) (.cells (x.1.vals al gr) 27)
  have e0 : decide (500 < (s.size : Int)) = false := by rw [decide_eq_false_iff_not]; omega
  obtain ⟨p, q, code, c2, n2, hp2, hn2, hcase⟩ := par_case w hm hT s (by omega)
  have HP2 := Lib.hid hp2
  have HN2 := Lib.hid hn2
  have hz : (p = zFu ∧ q = zFu) → (∀ a b W, IS W a p.2.1 → GS W b p.2.2 → Calls Tryz.prog 15 #[.agg (p.1.vals a b), .agg (zlit 0 ⟨#[]⟩)] W fun r w' => r = .returned (.bool true) ∧ Below W.heap.size W w') ∧ (∀ a b W, IS W a q.2.1 → GS W b q.2.2 → Calls Tryz.prog 15 #[.agg (q.1.vals a b), .agg (zlit 0 ⟨#[]⟩)] W fun r w' => r = .returned (.bool true) ∧ Below W.heap.size W w') := fun h => ⟨fun a b W i j => same_zero2 p h.1 a b W i j, fun a b W i j => same_zero2 q h.2 a b W i j⟩
  unfold zlit at hz
  have hss : (s.toList == s.toList) = true := by simp
  clear hp2 hn2 hF
  cases hno : noteOk x g
  · have HN := Lib.hid (fun W (b : Below w.heap.size w W) => note_no x g hno al gr al2 gr2 W (hm.below b) (hT.below b) (by omega) (by omega) (h1.below b) (h2.below b) (h3.below b) (h4.below b))
    clear hno h1 h2 h3 h4
    rcases hcase with ⟨rfl, rfl, rfl⟩ | ⟨rfl, hpq⟩
    rotate_left 1
    have HZ1 := Lib.hid (hz hpq).1
    have HZ2 := Lib.hid (hz hpq).2
    clear hpq
    all_goals clear hz
    all_goals go_enter Tryz.func10, Tryz.ntmps10
    all_goals
      go_upto_region 13 with (first
        | (go_at_call 49; (with_reducible refine (HAW.out _ (by (repeat (first | exact Below.refl _ _ | assumption | (refine Below.drew ?_) | (refine Below.alloc ?_ (by first | (simp; done) | (simp; omega) | omega) _) | (refine Below.setCell ?_ (by first | (simp; done) | (simp; omega) | omega) _))))).mono ?_); rintro _ w1 ⟨rfl, hb⟩; have R1 := row_below hb R0 (by rw [vals_size]; decide); have Q1 := row_below hb Q0 (by rw [vals_size]; decide); have B1 := below2 hb; clear hb)
        | (go_at_call 50; (refine (HF.out _ B1).mono ?_); rintro _ w2 ⟨bb, rfl, hb⟩; have B2 := bt B1 hb; have R2 := row_below hb R1 (by rw [vals_size]; decide); have Q2 := row_below hb Q1 (by rw [vals_size]; decide); clear hb; cases bb)
        | (go_at_call 51; (refine (HN.out _ B2).mono ?_); rintro _ w3 ⟨rfl, hb⟩; have B3 := bt B2 hb; clear hb)
        | (go_at_call 53; (refine (HP2.out _ B3).mono ?_); rintro _ w7 ⟨a7, b7, c7, d7, rfl, i7, g7, j7, k7, hb⟩; have B7 := bt B3 hb; have o7 := vals_one p.1 a7 b7 (is_one i7) (gs_one g7); have o8 := vals_one q.1 c7 d7 (is_one j7) (gs_one k7); have I7 := Lib.hid i7; have G7 := Lib.hid g7; have J7 := Lib.hid j7; have K7 := Lib.hid k7; clear hb i7 g7 j7 k7))
    all_goals first | (go_ret; exact ⟨rfl, B2⟩) | skip
    all_goals
      generalize hW : World.setRow (World.setRow _ _ _) _ _ = W8
      obtain ⟨B8, X8, Y8⟩ : Below w7.heap.size w7 W8 ∧ row W8 w7.heap.size = p.1.vals a7 b7 ∧ row W8 (w7.heap.size + 1) = q.1.vals c7 d7 := by rw [← hW]; exact two_new w7 _ _ _ _ _ (vals_size _ _ _) (vals_size _ _ _) rfl rfl
      clear hW
      have BB8 := Lib.hid (bt B7 B8)
      have I8 := Lib.hid (I7.out.below B8)
      have G8 := Lib.hid (G7.out.below B8)
      have J8 := Lib.hid (J7.out.below B8)
      have K8 := Lib.hid (K7.out.below B8)
      go_wp2_with (first
        | (go_at_call 51; (refine (HN2.out _ _ _ _ _ BB8.out I8.out G8.out J8.out K8.out).mono ?_); rintro _ w9 ⟨rfl, hb⟩; have X9 := row_below hb X8 (by rw [vals_size]; decide); have Y9 := row_below hb Y8 (by rw [vals_size]; decide); have B9 := Lib.hid (bt BB8.out hb); have I9 := Lib.hid (I8.out.below hb); have G9 := Lib.hid (G8.out.below hb); have J9 := Lib.hid (J8.out.below hb); have K9 := Lib.hid (K8.out.below hb); clear hb)
        | (go_at_call 15; have b10 := B10; clear b10; (refine (HZ2.out _ _ _ J10.out K10.out).mono ?_); rintro _ w11 ⟨rfl, hb⟩; have B11 := Lib.hid (bt B10.out hb); clear hb)
        | (go_at_call 15; (refine (HZ1.out _ _ _ I9.out G9.out).mono ?_); rintro _ w10 ⟨rfl, hb⟩; have Y10 := row_below hb Y9 (by rw [vals_size]; decide); have B10 := Lib.hid (bt B9.out hb); have J10 := Lib.hid (J9.out.below hb); have K10 := Lib.hid (K9.out.below hb); clear hb))
      go_ret
      exact ⟨rfl, by first | exact B11.out | exact B9.out⟩
  · have hn := note_yes x g hno al gr al2 gr2
    have hpy := fun W (b : Below w.heap.size w W) => parse_yes (noteS x g) x g (by rw [noteS_bl x g hno]; exact parse_note x g hno) W (by have := noteS_size x g hno; omega) (hm.below b) (hT.below b)
    have hz4 := noteS_size x g hno
    generalize noteS x g = nS at hn hpy hz4
    have e4 : decide (400 < (nS.size : Int)) = false := by rw [decide_eq_false_iff_not]; omega
    have HN := Lib.hid (fun W (b : Below w.heap.size w W) => hn W (hm.below b) (hT.below b) (by omega) (by omega) (h1.below b) (h2.below b) (h3.below b) (h4.below b))
    have HPY := Lib.hid hpy
    have HI1 := Lib.hid h1
    have HI2 := Lib.hid h2
    have HI3 := Lib.hid h3
    have HI4 := Lib.hid h4
    clear hno h1 h2 h3 h4 hn hpy hz4
    rcases hcase with ⟨rfl, rfl, rfl⟩ | ⟨rfl, hpq⟩
    rotate_left 1
    have HZ1 := Lib.hid (hz hpq).1
    have HZ2 := Lib.hid (hz hpq).2
    clear hpq
    all_goals clear hz
    all_goals go_enter Tryz.func10, Tryz.ntmps10
    all_goals
      go_upto_region 8 with (first
        | (go_at_call 49; (with_reducible refine (HAW.out _ (by (repeat (first | exact Below.refl _ _ | assumption | (refine Below.drew ?_) | (refine Below.alloc ?_ (by first | (simp; done) | (simp; omega) | omega) _) | (refine Below.setCell ?_ (by first | (simp; done) | (simp; omega) | omega) _))))).mono ?_); rintro _ w1 ⟨rfl, hb⟩; have R1 := row_below hb R0 (by rw [vals_size]; decide); have Q1 := row_below hb Q0 (by rw [vals_size]; decide); have B1 := below2 hb; clear hb)
        | (go_at_call 50; (refine (HF.out _ B1).mono ?_); rintro _ w2 ⟨bb, rfl, hb⟩; have B2 := bt B1 hb; have R2 := row_below hb R1 (by rw [vals_size]; decide); have Q2 := row_below hb Q1 (by rw [vals_size]; decide); clear hb; cases bb)
        | (go_at_call 51; (refine (HN.out _ B2).mono ?_); rintro _ w3 ⟨rfl, hb⟩; have B3 := bt B2 hb; have R3 := row_below hb R2 (by rw [vals_size]; decide); have Q3 := row_below hb Q2 (by rw [vals_size]; decide); clear hb)
        | (go_at_call 53; (refine (HPY.out _ B3).mono ?_); rintro _ w4 ⟨a4, b4, c4, d4, rfl, i4, g4, j4, k4, hb⟩; have B4 := bt B3 hb; have R4 := row_below hb R3 (by rw [vals_size]; decide); have Q4 := row_below hb Q3 (by rw [vals_size]; decide); have o4 := vals_one x.1 a4 b4 (is_one i4) (gs_one g4); have o5 := vals_one g.1 c4 d4 (is_one j4) (gs_one k4); have I4 := Lib.hid i4; have G4 := Lib.hid g4; have J4 := Lib.hid j4; have K4 := Lib.hid k4; clear hb i4 g4 j4 k4))
    all_goals first | (go_ret; exact ⟨rfl, B2⟩) | skip
    all_goals
      generalize hW : World.setRow (World.setRow _ _ _) _ _ = W5
      obtain ⟨B5, X5, Y5⟩ : Below w4.heap.size w4 W5 ∧ row W5 w4.heap.size = x.1.vals a4 b4 ∧ row W5 (w4.heap.size + 1) = g.1.vals c4 d4 := by rw [← hW]; exact two_new w4 _ _ _ _ _ (vals_size _ _ _) (vals_size _ _ _) rfl rfl
      clear hW
      have R5 := row_below B5 R4 (by rw [vals_size]; decide)
      have Q5 := row_below B5 Q4 (by rw [vals_size]; decide)
      have BB5 := Lib.hid (bt B4 B5)
      have I5 := Lib.hid (I4.out.below B5)
      have G5 := Lib.hid (G4.out.below B5)
      have J5 := Lib.hid (J4.out.below B5)
      have K5 := Lib.hid (K4.out.below B5)
      go_upto_region 13 with (first
        | (go_at_call 15; have b6 := B6; clear b6; (refine (same_own g.1 g.2.1 g.2.2 _ _ _ _ _ (J5.out.below B56.out) (K5.out.below B56.out) (HI3.out.below B6.out) (HI4.out.below B6.out)).mono ?_); rintro _ w6' ⟨rfl, hb⟩; have B6' := bt B6.out hb; clear hb)
        | (go_at_call 15; (refine (same_own x.1 x.2.1 x.2.2 _ _ _ _ _ I5.out G5.out (HI1.out.below BB5.out) (HI2.out.below BB5.out)).mono ?_); rintro _ w6 ⟨rfl, hb⟩; have B56 := Lib.hid hb; have Q6 := row_below hb Q5 (by rw [vals_size]; decide); have Y6 := row_below hb Y5 (by rw [vals_size]; decide); have B6 := Lib.hid (bt BB5.out hb); clear hb)
        | (go_at_call 53; (refine (HP2.out _ B6').mono ?_); rintro _ w7 ⟨a7, b7, c7, d7, rfl, i7, g7, j7, k7, hb⟩; have B7 := bt B6' hb; have o7 := vals_one p.1 a7 b7 (is_one i7) (gs_one g7); have o8 := vals_one q.1 c7 d7 (is_one j7) (gs_one k7); have I7 := Lib.hid i7; have G7 := Lib.hid g7; have J7 := Lib.hid j7; have K7 := Lib.hid k7; clear hb i7 g7 j7 k7))
    all_goals
      generalize hW : World.setRow (World.setRow _ _ _) _ _ = W8
      obtain ⟨B8, X8, Y8⟩ : Below w7.heap.size w7 W8 ∧ row W8 w7.heap.size = p.1.vals a7 b7 ∧ row W8 (w7.heap.size + 1) = q.1.vals c7 d7 := by rw [← hW]; exact two_new w7 _ _ _ _ _ (vals_size _ _ _) (vals_size _ _ _) rfl rfl
      clear hW
      have BB8 := Lib.hid (bt B7 B8)
      have I8 := Lib.hid (I7.out.below B8)
      have G8 := Lib.hid (G7.out.below B8)
      have J8 := Lib.hid (J7.out.below B8)
      have K8 := Lib.hid (K7.out.below B8)
      go_wp2_with (first
        | (go_at_call 51; (refine (HN2.out _ _ _ _ _ BB8.out I8.out G8.out J8.out K8.out).mono ?_); rintro _ w9 ⟨rfl, hb⟩; have X9 := row_below hb X8 (by rw [vals_size]; decide); have Y9 := row_below hb Y8 (by rw [vals_size]; decide); have B9 := Lib.hid (bt BB8.out hb); have I9 := Lib.hid (I8.out.below hb); have G9 := Lib.hid (G8.out.below hb); have J9 := Lib.hid (J8.out.below hb); have K9 := Lib.hid (K8.out.below hb); clear hb)
        | (go_at_call 15; have b10 := B10; clear b10; (refine (HZ2.out _ _ _ J10.out K10.out).mono ?_); rintro _ w11 ⟨rfl, hb⟩; have B11 := Lib.hid (bt B10.out hb); clear hb)
        | (go_at_call 15; (refine (HZ1.out _ _ _ I9.out G9.out).mono ?_); rintro _ w10 ⟨rfl, hb⟩; have Y10 := row_below hb Y9 (by rw [vals_size]; decide); have B10 := Lib.hid (bt B9.out hb); have J10 := Lib.hid (J9.out.below hb); have K10 := Lib.hid (K9.out.below hb); clear hb))
      go_ret
      exact ⟨rfl, by first | exact B11.out | exact B9.out⟩
theorem law_returns37 (e f : En) (a1 a2 b1 b2 : Option Addr) (n1 c1 n2 c2 m1 d1 m2 d2 : Nat) (s : ByteArray) (w : World) (hm : MaxL w) (hT : Tab w) (h2 : Two2 w e f a1 a2 b1 b2 n1 c1 n2 c2 m1 d1 m2 d2) :
    Calls Tryz.prog 10 #[.agg (e.vals (.slice a1 n1 c1) (.slice a2 n2 c2)), .agg (f.vals (.slice b1 m1 d1) (.slice b2 m2 d2)), .string s] w fun r w' => r = .returned (.bool true) ∧ Below w.heap.size w w' := by
  by_cases h : ((e.name.size ≤ 60 ∧ n2 ≤ 12 ∧ n1 ≤ 8) ∧ (f.name.size ≤ 60 ∧ m2 ≤ 12 ∧ m1 ≤ 8)) ∧ s.size ≤ 500
  · obtain ⟨⟨⟨q1, q2, q3⟩, q4, q5, q6⟩, q7⟩ := h
    obtain ⟨l1, -, i1⟩ := h2.i1 (by omega)
    obtain ⟨l2, -, g1⟩ := h2.g1 (by omega)
    obtain ⟨r1, -, i2⟩ := h2.i2 (by omega)
    obtain ⟨r2, -, g2⟩ := h2.g2 (by omega)
    exact rr_yes (e, l1, l2) (f, r1, r2) _ _ _ _ s w hm hT q1 q4 i1 g1 i2 g2 q7 fun W b => (h2.few W b).mono fun r w' ⟨bb, k1, _, k3⟩ => ⟨bb, k1, k3⟩
  · exact rr_no e f a1 a2 b1 b2 n1 c1 n2 c2 m1 d1 m2 d2 s w hm hT h2 h
end Go.Proofs.YtkmhegogiadjfaaGreatDoor

end
section
/- The statement RebuildReturns: the walk, the frame of the row, the card. Conditions: none beyond the statement. -/
namespace Go.Proofs.YtkmhegogiadjfaaGreatDoor.rebuildReturns
open Go.ChangeShapes Go.WideShapes Go.ChangeAt Go.RowKit Go.Proofs.YtkmhegogiadjfaaGreatDoor
open Go.ChangeMaps (open_string)

set_option maxRecDepth 100000 in
theorem contract (H : Type) (enc : TypeId × Value → H) (W : World) (base : Nat) (args : Array Value) (ds gs : List (DataW H)) (before : List MemPlace)
    (hval : ∀ (j : Nat) t v, Tryz.f10.params[j]? = some t → args[j]? = some v → Value.okWide Tryz.prog W .any base t v)
    (hW : DataW.Whole enc Tryz.prog Tryz.f10.params.toList Rows.rebuildReturnsSpec.vars false W args.toList ds gs before) (hL : laidMetH Tryz.prog Rows.rebuildReturnsRow.laid W) (hS : W.ShapedOpen Tryz.prog) :
    Calls Tryz.prog 10 args W fun e W' => ∃ v, e = .returned v ∧ Rows.rebuildReturnsSpec.post enc Tryz.prog Tryz.f10 false true false false W args v W' := by
  have hW' := hW
  have hlt : ∀ x ∈ before, x.block < W.heap.size := fun x hx => by simpa using hW'.lt x hx
  obtain ⟨p, q, hA0, hV, rfl, hfz, hnd⟩ := hW
  have hA : DataW.TrodAll enc Tryz.prog W 0 (fun _ => true) true Tryz.f10.params.toList args.toList ds p := hA0
  have hK := hA
  rw [Tryz.params10] at hA hval
  obtain ⟨v0, vs0, d0, ds0, p0, q0, hargs, rfl, rfl, h0, r0⟩ := trodAll_cons hA
  obtain ⟨v1, vs1, d1, ds1, p1, q1, rfl, rfl, rfl, h1, r1⟩ := trodAll_cons r0
  obtain ⟨v2, vs2, d2, ds2, p2, q2, rfl, rfl, rfl, h2, r2⟩ := trodAll_cons r1
  obtain ⟨rfl, rfl, rfl⟩ := trodAll_nil r2
  obtain rfl : args = #[v0, v1, v2] := by cases args; simp_all
  obtain ⟨rfl, rfl⟩ := trodVars_none hV
  obtain ⟨e0, a0, n0, c0, x0, m0, k0, rfl, o0, u0⟩ := open_en (hval 0 27 v0 rfl rfl) h0
  obtain ⟨e1, a1, n1, c1, x1, m1, k1, rfl, o1, u1⟩ := open_en (hval 1 27 v1 rfl rfl) h1
  have hs2 := hval 2 9 v2 rfl rfl
  obtain ⟨s2, rfl⟩ := okWide_string Tryz.underlying9 hs2
  rw [MakeChecks.laidMetH_plain _ _ _ (by kernel_rfl)] at hL
  refine (law_returns37 e0 e1 a0 x0 a1 x1 n0 c0 m0 k0 n1 c1 m1 k1 s2 W (max_of hS) (tab_of hL) ⟨(en_lens h0).1, (en_lens h0).2, (en_lens h1).1, (en_lens h1).2, o0, u0, o1, u1⟩).mono fun e W' ⟨he, hb⟩ => ?_
  subst he
  exact ⟨_, rfl, _, _, _, [], _, [], hW', trodAll_cons_mk (shut_bool Tryz.underlying4 _) trodAll_mk0, args_below hb (by rw [Tryz.params10]; kernel_rfl) hK (fun x hx => hlt x (by simpa using hx)), rfl, hb.frame _, fun h => by cases h⟩

def zEnt : Value := .agg #[.int .i64 0, .string ⟨#[]⟩, .int .i64 0, .int .i64 0, .int .i64 0, .int .i64 0, .int .i64 0, .int .i64 0, .int .i64 0, .int .i64 0, .int .i64 0, .int .i64 0, .int .i64 0, .int .i64 0, .int .i64 0, .int .i64 0, .bool false, .int .i64 0, .string ⟨#[]⟩, .string ⟨#[]⟩, .int .i64 0, .int .i64 0, .bool false, .slice none 0 0, .int .i64 0, .int .i64 0, .int .i64 0, .bool false, .string ⟨#[]⟩, .string ⟨#[]⟩, .int .i64 0, .int .i64 0, .slice none 0 0]
def dEnt {H : Type} : DataW H := .agg [.lit (.int .i64 0), .lit (.string []), .agg [.lit (.int .i64 0), .lit (.int .i64 0), .lit (.int .i64 0), .lit (.int .i64 0), .lit (.int .i64 0), .lit (.int .i64 0), .lit (.int .i64 0), .lit (.int .i64 0), .lit (.int .i64 0), .lit (.int .i64 0), .lit (.int .i64 0), .lit (.int .i64 0), .lit (.int .i64 0), .lit (.int .i64 0), .lit (.bool false), .lit (.int .i64 0), .lit (.string []), .lit (.string []), .lit (.int .i64 0), .lit (.int .i64 0), .lit (.bool false)], .nil, .lit (.int .i64 0), .lit (.int .i64 0), .lit (.int .i64 0), .lit (.bool false), .lit (.string []), .lit (.string []), .lit (.int .i64 0), .lit (.int .i64 0), .nil]

theorem laid_met (os : Os) : laidMetH Tryz.prog Rows.rebuildReturnsRow.laid ((World.laidAll Tryz.prog os Rows.rebuildReturnsRow.laid).forCall (fun _ _ => 0) ⟨#[], #[(zEnt : Value), (zEnt : Value), (.string ⟨#[]⟩ : Value)], []⟩).memory := by
  rw [MakeChecks.laidMetH_plain _ _ _ (by kernel_rfl)]; exact laidMet_laidAll _ (by kernel_rfl) (by kernel_rfl)
theorem reads (os : Os) {H : Type} (enc : TypeId × Value → H) : ∃ places, DataW.whole enc Tryz.prog ((World.laidAll Tryz.prog os Rows.rebuildReturnsRow.laid).forCall (fun _ _ => 0) ⟨#[], #[(zEnt : Value), (zEnt : Value), (.string ⟨#[]⟩ : Value)], []⟩).memory Tryz.f10.params.toList Rows.rebuildReturnsSpec.vars false #[(zEnt : Value), (zEnt : Value), (.string ⟨#[]⟩ : Value)].toList 8 = some ([dEnt, dEnt, .lit (.string [])], [], places) :=
  ⟨[], by kernel_rfl⟩

set_option maxRecDepth 100000 in
theorem lifted (os : Os) (started : os.Started) (H : Type) (enc : TypeId × Value → H) (F : Stop.Interp) :
    ReturnsInHanded {} Tryz.checked os 10 .any ((OpenSpec.ofChange Rows.rebuildReturnsSpec).preRow enc Tryz.prog Tryz.f10 Rows.rebuildReturnsRow.domain false Rows.rebuildReturnsRow.laid) (((OpenSpec.ofChange Rows.rebuildReturnsSpec).at F).post enc Tryz.prog Tryz.f10 false true false false) := by
  obtain ⟨places, hx⟩ := reads os enc
  refine returnsInHanded_of_row (C := Tryz.checked) (s := OpenSpec.ofChange Rows.rebuildReturnsSpec) ownk started (by kernel_rfl) Tryz.func10
    (witness_lay (enc := enc) (C := Tryz.checked) false #[(zEnt : Value), (zEnt : Value), (.string ⟨#[]⟩ : Value)] (World.shaped_of_ZipB (by kernel_rfl) (by kernel_rfl)) (by kernel_rfl)
      (OpenSpec.preRow_of_cond 8 hx (by kernel_rfl) (fun k hk => by cases hk) (by kernel_rfl) (laid_met os))) ?_
  intro W base args ds gs before hval hW _ _ _ hL hS _
  exact contract H enc W base args ds gs before hval hW hL hS

theorem said : Rows.RebuildReturnsSaid :=
  OpenClaim.holds_of_cond 10 Tryz.f10 rfl rfl rfl rfl rfl rfl rfl ⟨rfl, rfl, rfl, rfl, rfl⟩ rfl rfl rfl rfl rfl (by kernel_rfl) Tryz.func10 joined_rebuildReturns
    (of_decide_eq_true (by kernel_rfl)) (by unfold Func.isWrapper; first | (rw [if_pos (by decide +kernel)]; kernel_rfl) | (rw [if_neg (by decide +kernel)]; exact ⟨rfl, rfl⟩))
    (fun os started H enc _ F => by rw [OpenClaim.pre_eq_preRow]; exact lifted os started H enc F)

theorem plain (f : FuncId) (fn : Func) (hf : Tryz.pinned.checked.prog.funcNamed Rows.rebuildReturnsRow.func = some f) (hfn : Tryz.pinned.checked.prog.funcs[f]? = some fn) :
    false = Tryz.pinned.checked.prog.looks [] ∧ ∀ (j : Nat) t, fn.params[j]? = some t → Tryz.pinned.checked.prog.wantsStandIn t = false := by
  obtain rfl : f = 10 := Option.some.inj ((show Tryz.prog.funcNamed Rows.rebuildReturnsRow.func = some 10 by kernel_rfl).symm.trans hf) |>.symm
  obtain rfl : fn = Tryz.f10 := (Option.some.inj (Tryz.func10.symm.trans hfn)).symm
  refine ⟨by kernel_rfl, fun j t ht => ?_⟩
  rw [Tryz.params10] at ht
  have hm := Array.mem_of_getElem? ht
  have ha : (#[27, 27, 9] : Array TypeId).all (fun t => !Tryz.prog.wantsStandIn t) = true := by kernel_rfl
  have := (Array.all_eq_true_iff_forall_mem.1 ha) t hm
  exact (show Tryz.prog.wantsStandIn t = false by simpa using this)

/-- THE CARD -/
theorem card : Rows.RebuildReturnsCardSaid :=
  Claim7.holds_tied_plain_at .later [] _ _ _ _ said (fun _ h => by cases h) (by kernel_rfl) (fun _ h => by cases h) rebuildReturns_row_tie rfl ⟨rfl, rfl⟩ (by kernel_rfl) rfl plain (by kernel_rfl)
end Go.Proofs.YtkmhegogiadjfaaGreatDoor.rebuildReturns

end
