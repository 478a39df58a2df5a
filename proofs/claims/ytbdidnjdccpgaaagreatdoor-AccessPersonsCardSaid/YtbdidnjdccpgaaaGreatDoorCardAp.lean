/- Several texts in one: FrameSz LaAp CardAp. -/
import Derived.Test.YtbdidnjdccpgaaaGreatDoorFrameEs
import Derived.SizedLaws
import Derived.Test.YtbdidnjdccpgaaaGreatDoorAwQ
import Derived.Test.YtbdidnjdccpgaaaGreatDoorFewA
import Derived.Test.YtbdidnjdccpgaaaGreatDoorRm
import Derived.Test.YtbdidnjdccpgaaaGreatDoorJAccessPersons
section
/- Lists of entries among the arguments: the form's own reach. -/
namespace Go.Proofs.YtbdidnjdccpgaaaGreatDoor
open Go.ChangeShapes Go.WideShapes Go.RowKit
set_option maxRecDepth 100000
theorem en_b336 : Tryz.prog.bytesOf 27 = 336 := by kernel_rfl
theorem es_reach {H : Type} {enc : TypeId × Value → H} {W : World} {a : Option Addr} {n c : Nat} {d : DataW H} {p : List MemPlace} {ts : List TypeId} {ds : List (DataW H)} (h : DataW.Trod enc Tryz.prog W 0 (fun _ => true) true 42 (.slice a n c) d p)
    (hw : (DataW.weightsEach Tryz.prog (42 :: ts) (d :: ds)).all (· ≤ reachBytes) = true) : n * 336 ≤ 140737488351232 := by
  obtain ⟨fuel, hf⟩ := h
  rcases Go.Deep.open_slice Tryz.underlying42 hf with ⟨h1, -⟩ | ⟨a', len, cap, m, n', D, Pl, h1, -, -, -, -, hx, -⟩
  · have := List.head_eq_of_cons_eq h1
    injection this with _ e2 _
    omega
  · have := List.head_eq_of_cons_eq h1
    injection this with _ e2 _
    have hd := congrArg Prod.fst hx
    simp only at hd
    subst hd
    have := sized_slice hw (j := 0) (t := 42) (e := 27) rfl rfl Tryz.underlying42
    rw [en_b336] at this
    simp only [List.length_map, List.length_range, reachBytes] at this
    omega
theorem en_n2 {H : Type} {enc : TypeId × Value → H} {W : World} {e : En} {a1 a2 : Option Addr} {n1 c1 n2 c2 : Nat} {d : DataW H} {p : List MemPlace} (h : DataW.Trod enc Tryz.prog W 0 (fun _ => true) true 27 (.agg (e.vals (.slice a1 n1 c1) (.slice a2 n2 c2))) d p) : n2 ≤ 9223372036854775807 := by
  obtain ⟨fuel, hf⟩ := h
  unfold En.vals at hf
  obtain ⟨n, hfs⟩ := st_fld Tryz.underlying27 hf
  obtain ⟨y, hy⟩ := hfs 12 _ rfl
  obtain ⟨a, m, c, e1, hm⟩ := open_lslice (v := .slice a2 n2 c2) Tryz.underlying25 hy
  injection e1 with e1 e2 e3
  omega
end Go.Proofs.YtbdidnjdccpgaaaGreatDoor

end
section
/- The walk of AccessPersons. -/
namespace Go.Proofs.YtbdidnjdccpgaaaGreatDoor
open Go.RowKit
set_option maxHeartbeats 40000000
set_option maxRecDepth 8000
attribute [local go_sem ↓] ldEnt stEnt stEnt2 stEntRow bldEnt
attribute [local go_sem] Held_drew isHead_mk headOf_mk cellsOfV_mk isAggV_mk row_new row_new2 row_new2' row_drew row_drewN vals_size allOne_nil allOne_cons one_int one_bool one_string one_pointer one_slice
attribute [local go_sem] vals_0
/-- one entry ahead of a list, in a row of the call's own, however long -/
theorem es_consC {w w8 : World} {base n c' : Nat} {a' a : Option Addr} {F : Nat → Ef} {x : Ef} {b1 b2 : Option Addr} {c1 c2 : Nat} {rows : List (Array Value)} (h : w8.ownsRow base 27 33 (.slice a' (1 + n) c') (1 + n) ((x.e.vals (.slice b1 x.n1 c1) (.slice b2 x.n2 c2)).toList ++ ec rows))
    (hl : rows.length = n) (hz : ∀ r ∈ rows, r.size = 33) (hx1 : x.n1 ≤ 9223372036854775807) (hx2 : x.n2 ≤ 9223372036854775807) (hx : x.n2 ≤ 1000 → x.gs.length = x.n2 ∧ GS w8 (.slice b2 x.n2 c2) x.gs) (hn : 1 + n ≤ 9223372036854775807) (hES : ES w a n F) (hB : Below w.heap.size w w8)
    (hr : ∀ (k : Nat) (r : Array Value), rows[k]? = some r → ∃ b o, a = some ⟨b, o, none⟩ ∧ mid w b (o + k * 33) = r ∧ k < n) : ES w8 a' (1 + n) (fun j => match j with | 0 => x | j + 1 => F j) := by
  have hz' : ∀ r ∈ (x.e.vals (.slice b1 x.n1 c1) (.slice b2 x.n2 c2)) :: rows, r.size = 33 := fun r hr => by
    rcases List.mem_cons.1 hr with rfl | hr
    · exact vals_size _ _ _
    · exact hz r hr
  have h' : w8.ownsRow base 27 33 (.slice a' (1 + n) c') (1 + n) (ec ((x.e.vals (.slice b1 x.n1 c1) (.slice b2 x.n2 c2)) :: rows)) := h
  refine ⟨hn, fun k hk => ?_⟩
  cases k with
  | zero =>
    obtain ⟨g, cc, e, -, hlt, hm⟩ := own_mid hz' h' 0 _ rfl
    injection e with e1
    exact ⟨g, 0, e1, hlt, b1, c1, b2, c2, by rw [Nat.zero_add]; exact hm, hx1, hx2, hx⟩
  | succ j =>
    have hj : rows[j]? = some (rows[j]'(by omega)) := List.getElem?_eq_getElem _
    obtain ⟨g, cc, e, -, hlt, hm⟩ := own_mid hz' h' (j + 1) (rows[j]'(by omega)) (by rw [List.getElem?_cons_succ]; exact hj)
    injection e with e1
    obtain ⟨b, o, ha, hmw, hjn⟩ := hr j _ hj
    obtain ⟨b', o', ha', hlt', d1, e1', d2, e2', h1, h2, h3, h4⟩ := hES.2 j hjn
    rw [ha] at ha'
    cases ha'
    refine ⟨g, 0, e1, hlt, d1, e1', d2, e2', ?_, h2, h3, fun h => ⟨(h4 h).1, (h4 h).2.below hB⟩⟩
    rw [Nat.zero_add, hm, ← hmw, h1]
/-- the list with one entry ahead -/
def consF (x : Ef) (F : Nat → Ef) : Nat → Ef := fun j => match j with | 0 => x | j + 1 => F j
/-- what is known of the law's two lists -/
structure PL (w : World) (a : Option Addr) (n : Nat) (F : Nat → Ef) (x : Ef) (a1 : Option Addr) (c1 : Nat) (a2 : Option Addr) (c2 : Nat) : Prop where
  es : ES w a n F
  sz : n * 336 ≤ 140737488351232
  n1 : x.n1 ≤ 9223372036854775807
  n2 : x.n2 ≤ 9223372036854775807
  gs : x.n2 ≤ 1000 → x.gs.length = x.n2 ∧ GS w (.slice a2 x.n2 c2) x.gs
theorem pe_no (a : Option Addr) (n c : Nat) (F : Nat → Ef) (x : Ef) (a1 : Option Addr) (c1 : Nat) (a2 : Option Addr) (c2 : Nat) (u : ByteArray) (ga : Option Addr) (gn gc : Nat) (name : ByteArray) (w : World) (hm : MaxL w) (hT : Tab w) (hP : PL w a n F x a1 c1 a2 c2) (hall : ¬ (fewAP (consF x F) (1 + n) gn ∧ Ds.name (Ds.bl name) = true)) :
    Calls Tryz.prog 9 #[.slice a n c, .agg (x.e.vals (.slice a1 x.n1 c1) (.slice a2 x.n2 c2)), .string u, .slice ga gn gc, .string name] w fun r w' => r = .returned (.bool true) ∧ Below w.heap.size w w' := by
  have HAW := Lib.hid (fun W (b : Below w.heap.size w W) => aw34 W (hm.below b) (hT.below b))
  obtain ⟨rows0, hcs0, hl0, hz0, ho0, hr0⟩ := hP.es.all (c := c)
  have HCS0 := Lib.hid hcs0
  have HR0 := Lib.hid hr0
  have HZ0 := Lib.hid hz0
  have HO0 := Lib.hid ho0
  have HPL := Lib.hid hP
  have hn := hP.sz
  have hone := vals_one x.e (.slice a1 x.n1 c1) (.slice a2 x.n2 c2) rfl rfl
  have HALL := Lib.hid hall
  have HV := Lib.hid (fun W (b : Below w.heap.size w W) => ds_valid name W (hm.below b))
  clear hcs0 hr0 hz0 ho0 hP hall
  go_enter Tryz.func9, Tryz.ntmps9
  go_wp2_with (first
    | (go_at_call 29; (with_reducible refine (HAW.out _ (by (repeat (first | exact Below.refl _ _ | assumption | (refine Below.drew ?_) | (refine Below.alloc ?_ (by first | (simp; done) | (simp; omega) | omega) _) | (refine Below.setCell ?_ (by first | (simp; done) | (simp; omega) | omega) _))))).mono ?_); rintro _ w1 ⟨rfl, hb⟩; have B1 := below1 hb; have R1 := row_below hb (row_new w (x.e.vals (.slice a1 x.n1 c1) (.slice a2 x.n2 c2)) 27 (0, 0)) (by rw [vals_size]; decide); have z1 := B1.size; clear hb)
    | (at_builtin; refine wp_appX _ rfl (.tmp 19) (.tmp 20) 42 27 _ _ 33 336 rfl Tryz.underlying42 en_i en_i0 en_i1 en_i2 (vals_size _ _ _) (by decide) w1.heap.size (.slice (some ⟨w1.heap.size, 0, none⟩) 1 1) (.slice a n c) 1 n (x.e.vals (.slice a1 x.n1 c1) (.slice a2 x.n2 c2)).toList (ec rows0) rfl (own_one rfl (vals_size _ _ _)) rfl (HCS0.out.below (B1.alloc z1 _)) (ec_one rows0 HZ0.out HO0.out) (by unfold maxLen; omega) (by omega) (by simp) ?_; intro ha8 hc8 w8 hown8 hg8 _; have B8 : Below w.heap.size w w8 := ((B1.alloc z1 _).grown hg8 (by simp; omega) (fun q hq => by cases hq; exact z1)); have HE8 := Lib.hid (es_consC (x := x) hown8 hl0 HZ0.out HPL.out.n1 HPL.out.n2 (fun h => ⟨(HPL.out.gs h).1, (HPL.out.gs h).2.below B8⟩) (by omega) HPL.out.es B8 HR0.out); clear hown8 hg8)
    | (go_at_call 30; (refine (few34 _ _ _ _ _ _ _ _ HE8.out).mono ?_); rintro _ w9 ⟨bb, rfl, hf, hb⟩; have B9 := bt B8 hb; have HF := Lib.hid hf; clear hb hf; cases bb)
    | (go_at_call 39; (refine (HV.out _ B9).mono ?_); rintro _ w10 ⟨rfl, hb⟩; have B10 := bt B9 hb; clear hb; cases hnm : Ds.name (Ds.bl name); rotate_left 1; exact absurd ⟨HF.out (by first | rfl | trivial), hnm⟩ HALL.out))
  · go_ret
    exact ⟨rfl, B9⟩
  · go_ret
    exact ⟨rfl, B10⟩
theorem first_eq' (l : List UInt8) (u : ByteArray) : (u.toList == l) = decide (l = Ds.bl u) := by
  rw [← first_eq, Bool.eq_iff_iff, beq_iff_eq, beq_iff_eq]; exact eq_comm
theorem pe_yes (a : Option Addr) (n c : Nat) (F : Nat → Ef) (x : Ef) (a1 : Option Addr) (c1 : Nat) (a2 : Option Addr) (c2 : Nat) (u : ByteArray) (ga : Option Addr) (gc : Nat) (gl : List ByteArray) (name : ByteArray) (w : World) (hm : MaxL w) (hT : Tab w) (hP : PL w a n F x a1 c1 a2 c2) (hgl : SS w (.slice ga gl.length gc) gl) (hf : fewAP (consF x F) (1 + n) gl.length) (hnm : Ds.name (Ds.bl name) = true) :
    Calls Tryz.prog 9 #[.slice a n c, .agg (x.e.vals (.slice a1 x.n1 c1) (.slice a2 x.n2 c2)), .string u, .slice ga gl.length gc, .string name] w fun r w' => r = .returned (.bool true) ∧ Below w.heap.size w w' := by
  have HAW := Lib.hid (fun W (b : Below w.heap.size w W) => aw34 W (hm.below b) (hT.below b))
  obtain ⟨rows0, hcs0, hl0, hz0, ho0, hr0⟩ := hP.es.all (c := c)
  have HCS0 := Lib.hid hcs0
  have HR0 := Lib.hid hr0
  have HZ0 := Lib.hid hz0
  have HO0 := Lib.hid ho0
  have HPL := Lib.hid hP
  have hn := hP.sz
  have hn11 : n ≤ 11 := by have := hf.1; omega
  have hone := vals_one x.e (.slice a1 x.n1 c1) (.slice a2 x.n2 c2) rfl rfl
  have hF : ∀ k, k < n → (F k).e.name.size ≤ 60 ∧ (F k).n2 ≤ 1000 := fun k hk => ⟨(hf.2.2 (k + 1) (by omega)).1, by have := (hf.2.2 (k + 1) (by omega)).2.1; show (consF x F (k + 1)).n2 ≤ 1000; omega⟩
  have hF2 : ∀ k, k < 1 + n → (consF x F k).e.name.size ≤ 60 ∧ (consF x F k).n2 ≤ 1000 := fun k hk => ⟨(hf.2.2 k hk).1, by have := (hf.2.2 k hk).2.1; omega⟩
  have hv := fun W (b : Below w.heap.size w W) => ds_valid name W (hm.below b)
  rw [hnm] at hv
  have HV := Lib.hid hv
  have HMt := Lib.hid (fun W (b : Below w.heap.size w W) => ds_match x.e.name name W (hm.below b))
  have HFI := Lib.hid (fun W (b : Below w.heap.size w W) => ds_first 1 name W (hm.below b))
  have hl1 := fun W (b : Below w.heap.size w W) => ac_level a n c F u name (.slice ga gl.length gc) gl W (hm.below b) (hP.es.below b) (by omega) hF (hgl.below b)
  have hl3 := fun (hM : Ds.match_ (Ds.bl x.e.name) (Ds.bl name) = false) W a' c' (hE : ES W a' (1 + n) (consF x F)) (b : Below w.heap.size w W) => (lvl_more x (lst F n) u gl name hM) ▸ (lst_cons F x n) ▸ ac_level a' (1 + n) c' (consF x F) u name (.slice ga gl.length gc) gl W (hm.below b) hE (by omega) hF2 (hgl.below b)
  have hA0 : Ds.first 1 (Ds.bl name) = Ds.bl u → lvl (lst F n) u gl name = 3 := fun h => by rw [lvl_yes _ _ _ _ hnm, if_pos h]
  have hA1 : Ds.first 1 (Ds.bl name) ≠ Ds.bl u → best (Ds.bl name) (lst F n) = none → lvl (lst F n) u gl name = 0 := fun h1 h => by rw [lvl_yes _ _ _ _ hnm, if_neg h1, h]
  have hA2 : Ds.first 1 (Ds.bl name) ≠ Ds.bl u → ∀ y, best (Ds.bl name) (lst F n) = some y → lvl (lst F n) u gl name = plvl y u gl := fun h1 y h => by rw [lvl_yes _ _ _ _ hnm, if_neg h1, h]
  generalize lvl (lst F n) u gl name = A at hl1 hl3 hA0 hA1 hA2
  have HL1 := Lib.hid hl1
  have HL3 := Lib.hid hl3
  have HA0 := Lib.hid hA0
  have HA1 := Lib.hid hA1
  have HA2 := Lib.hid hA2
  have HB := Lib.hid (fun W (b : Below w.heap.size w W) => ac_best a n c F name W (hm.below b) (hP.es.below b) (by omega) hF)
  clear hcs0 hr0 hz0 ho0 hP hl1 hl3 hA0 hA1 hA2 hv hF hF2 hgl hf
  go_enter Tryz.func9, Tryz.ntmps9
  go_upto_region 6 with (first
    | (go_at_call 29; (with_reducible refine (HAW.out _ (by (repeat (first | exact Below.refl _ _ | assumption | (refine Below.drew ?_) | (refine Below.alloc ?_ (by first | (simp; done) | (simp; omega) | omega) _) | (refine Below.setCell ?_ (by first | (simp; done) | (simp; omega) | omega) _))))).mono ?_); rintro _ w1 ⟨rfl, hb⟩; have B1 := below1 hb; have R1 := row_below hb (row_new w (x.e.vals (.slice a1 x.n1 c1) (.slice a2 x.n2 c2)) 27 (0, 0)) (by rw [vals_size]; decide); have z1 := B1.size; have zw1 : w.heap.size < w1.heap.size := (by have := hb.size; simp at this; omega); clear hb)
    | (at_builtin; refine wp_appX _ rfl (.tmp 19) (.tmp 20) 42 27 _ _ 33 336 rfl Tryz.underlying42 en_i en_i0 en_i1 en_i2 (vals_size _ _ _) (by decide) w1.heap.size (.slice (some ⟨w1.heap.size, 0, none⟩) 1 1) (.slice a n c) 1 n (x.e.vals (.slice a1 x.n1 c1) (.slice a2 x.n2 c2)).toList (ec rows0) rfl (own_one rfl (vals_size _ _ _)) rfl (HCS0.out.below (B1.alloc z1 _)) (ec_one rows0 HZ0.out HO0.out) (by unfold maxLen; omega) (by omega) (by simp) ?_; intro ha8 hc8 w8 hown8 hg8 _; have B18 : Below w1.heap.size w1 w8 := ((Below.refl _ _).alloc (Nat.le_refl _) _).grown hg8 (by simp) (fun q hq => by cases hq; exact Nat.le_refl _); have B8 := bt B1 B18; have R8 := row_below B18 R1 (by rw [vals_size]; decide); have HE8 := Lib.hid (es_consC (x := x) hown8 hl0 HZ0.out HPL.out.n1 HPL.out.n2 (fun h => ⟨(HPL.out.gs h).1, (HPL.out.gs h).2.below B8⟩) (by omega) HPL.out.es B8 HR0.out); clear hown8 hg8 B18)
    | (go_at_call 30; (refine (few34 _ _ _ _ _ _ _ _ HE8.out).mono ?_); rintro _ w9 ⟨bb, rfl, -, hb⟩; have B9 := bt B8 hb; have R9 := row_below hb R8 (by rw [vals_size]; decide); clear hb; cases bb)
    | (go_at_call 39; (refine (HV.out _ B9).mono ?_); rintro _ w10 ⟨rfl, hb⟩; have B10 := bt B9 hb; have R10 := row_below hb R9 (by rw [vals_size]; decide); clear hb)
    | (go_at_call 33; (with_reducible refine (HL1.out _ B10).mono ?_); rintro _ w11 ⟨rfl, hb⟩; have B11 := bt B10 hb; have R11 := row_below hb R10 (by rw [vals_size]; decide); have N11 := cell_row R11 1 _ (vals_1 _ _ _); have z11 := B11.size; clear hb))
  · go_ret
    exact ⟨rfl, B9⟩
  go_cut [51] (fun t51 wx => t51 = .bool false ∧ Below w.heap.size w wx)
  case first =>
    have hmt := HMt.out
    cases hM : Ds.match_ (Ds.bl x.e.name) (Ds.bl name)
    · rw [hM] at hmt
      have HM := Lib.hid hmt
      have HL4 := Lib.hid (HL3.out hM)
      clear hmt hM
      go_wp2_with (first
        | (go_at_call 37; (with_reducible refine (HM.out _ B11).mono ?_); rintro _ w12 ⟨rfl, hb⟩; have B12 := bt B11 hb; have R12 := row_below hb R11 (by rw [vals_size]; decide); have z12 := B12.size; clear hb)
        | (at_builtin; refine guard_off2 (by rfl) ?_; refine wp_appX _ rfl (.tmp 42) (.tmp 43) 42 27 _ _ 33 336 rfl Tryz.underlying42 en_i en_i0 en_i1 en_i2 (vals_size _ _ _) (by decide) w12.heap.size (.slice (some ⟨w12.heap.size, 0, none⟩) 1 1) (.slice a n c) 1 n (x.e.vals (.slice a1 x.n1 c1) (.slice a2 x.n2 c2)).toList (ec rows0) rfl (own_one rfl (vals_size _ _ _)) rfl (HCS0.out.below (B12.alloc z12 _)) (ec_one rows0 HZ0.out HO0.out) (by unfold maxLen; omega) (by omega) (by simp) ?_; intro ha13 hc13 w13 hown13 hg13 _; have B13 : Below w.heap.size w w13 := ((B12.alloc z12 _).grown hg13 (by simp; omega) (fun q hq => by cases hq; exact z12)); have HE13 := Lib.hid (es_consC (x := x) hown13 hl0 HZ0.out HPL.out.n1 HPL.out.n2 (fun h => ⟨(HPL.out.gs h).1, (HPL.out.gs h).2.below B13⟩) (by omega) HPL.out.es B13 HR0.out); clear hown13 hg13)
        | (go_at_call 33; (refine (HL4.out _ _ _ HE13.out B13).mono ?_); rintro _ w14 ⟨rfl, hb⟩; have B14 := bt B13 hb; clear hb))
      go_meet
      exact ⟨by simp, B14⟩
    · rw [hM] at hmt
      have HM := Lib.hid hmt
      clear hmt hM
      go_wp2_with (go_at_call 37; (with_reducible refine (HM.out _ B11).mono ?_); rintro _ w12 ⟨rfl, hb⟩; have B12 := bt B11 hb; clear hb)
      go_meet
      exact ⟨rfl, B12⟩
  case rest =>
    clear R1 R8 R9 R10 R11 N11 B1 B8 B9 B10 B11 z1 z11 zw1 HE8 HL1 HL3 HMt HV HCS0 HR0 HZ0 HO0 HAW hone
    obtain ⟨rfl, B⟩ := hcut
    have e1 := first_eq' (Ds.first 1 (Ds.bl name)) u
    by_cases hfu : Ds.first 1 (Ds.bl name) = Ds.bl u
    · rw [decide_eq_true hfu] at e1
      have HA := Lib.hid (HA0.out hfu)
      clear HA0 HA1 HA2 HB hfu
      generalize Ds.first 1 (Ds.bl name) = fl at HFI e1
      go_wp2_with (go_at_call 40; (with_reducible refine (HFI.out _ B).mono ?_); rintro _ w2 ⟨rfl, hb⟩)
      go_ret
      exact ⟨ret_bool (by rw [HA.out]; rfl), bt B hb⟩
    rw [decide_eq_false hfu] at e1
    have HA3 := Lib.hid (HA1.out hfu)
    have HA4 := Lib.hid (HA2.out hfu)
    have HOK : Hid (∀ y, best (Ds.bl name) (lst F n) = some y → okQ y = true) := Lib.hid (fun y hy => (hits_ok (best_hit hy).2).2.1)
    clear HA0 HA1 HA2 hfu
    generalize Ds.first 1 (Ds.bl name) = fl at HFI e1
    have z1 : allOne zE.toList = true := by unfold zE zlit; simp [go_sem, allOne_nil, allOne_cons, one_int, one_bool, one_string, one_slice]
    have z2 : zE.size = 33 := rfl
    go_wp2_with (first
      | (go_at_call 40; (with_reducible refine (HFI.out _ B).mono ?_); rintro _ w2 ⟨rfl, hb⟩; have B2 := bt B hb; clear hb)
      | (go_at_call 31; (refine (HB.out _ B2).mono ?_); rintro _ w3 ⟨hr, hb⟩; have B3 := bt B2 hb; have z3 := B3.size; clear hb; rcases hr with ⟨hso, rfl⟩ | ⟨y, b1, k1, gr, hso, rfl, hgs⟩; rotate_left 1; have HGS := Lib.hid hgs; have hone := vals_one y.e (.slice b1 y.n1 k1) gr rfl (gs_one hgs); have HX := Lib.hid (HOK.out y hso); have HPY := Lib.hid (HA4.out y hso); obtain ⟨ga2, gc2, rfl, hzg, -⟩ := id hgs; clear hgs hso; have R0 := row_new w3 (y.e.vals (.slice b1 y.n1 k1) (.slice ga2 y.gs.length gc2)) 27 (0, 0); have v8 := cell_row R0 28 _ (vals_28 y.e _ _); have v32 := cell_row R0 32 _ (vals_32 y.e _ _); rcases own_cases y u with qe | ⟨qe, qo⟩ | ⟨qe, qo⟩))
    rotate_left 1
    · go_ret
      exact ⟨ret_bool (by rw [HPY.out, pl3 y u gl (own3_t qe qo)]; rfl), by (repeat (first | exact Below.refl _ _ | assumption | (refine Below.drew ?_) | (refine Below.alloc ?_ (by first | (simp; done) | (simp; omega) | omega) _) | (refine Below.setCell ?_ (by first | (simp; done) | (simp; omega) | omega) _)))⟩
    rotate_left 1
    · go_ret
      exact ⟨ret_bool (by rw [HA3.out hso]; rfl), by (repeat (first | exact Below.refl _ _ | assumption | (refine Below.drew ?_) | (refine Below.alloc ?_ (by first | (simp; done) | (simp; omega) | omega) _) | (refine Below.setCell ?_ (by first | (simp; done) | (simp; omega) | omega) _)))⟩
    all_goals
      have HO : Hid (own3 y u = false) := Lib.hid (by first | exact own3_e (by assumption) | exact own3_f (by assumption))
      clear v8 v32 R0
      go_loopw [81] (fun i wr => ∃ k : Nat, k ≤ y.gs.length ∧ i = .int .i64 k ∧ Below w3.heap.size w3 wr) (fun i _ => y.gs.length - (intOf i).toNat)
      case atStart => exact ⟨0, Nat.zero_le _, rfl, by (repeat (first | exact Below.refl _ _ | assumption | (refine Below.drew ?_) | (refine Below.alloc ?_ (by first | (simp; done) | (simp; omega) | omega) _) | (refine Below.setCell ?_ (by first | (simp; done) | (simp; omega) | omega) _)))⟩
      case round =>
        obtain ⟨k, hk, rfl, B4⟩ := hrel
        have z0 := B4.size
        by_cases hlt : k < y.gs.length
        · obtain ⟨b, o, rfl, p⟩ := GS.at (HGS.out.below B4) (by omega)
          obtain ⟨p0, p1, p2⟩ := p k hlt
          have EO : Hid (isU u y.gs[k] = true → plvl y u gl = y.gs[k].2.2) := Lib.hid (fun h => plvl_own y HX.out u gl HO.out k hlt h)
          generalize y.gs[k] = g at p0 p1 p2 EO
          obtain ⟨gw, gg, glv⟩ := g
          simp only at p0 p1 p2
          clear p
          have hq := tl_beq gw u
          by_cases hu : gw = u
          · rw [decide_eq_true hu] at hq
            cases gg
            · have HE : Hid (A = glv) := Lib.hid (HPY.out.trans (EO.out (by unfold isU; rw [decide_eq_true hu]; rfl)))
              clear hu
              go_wp2_with fail
              go_ret
              exact ⟨ret_bool (by rw [HE.out]; simp), bt B3 (by (repeat (first | exact Below.refl _ _ | assumption | (refine Below.drew ?_) | (refine Below.alloc ?_ (by first | (simp; done) | (simp; omega) | omega) _) | (refine Below.setCell ?_ (by first | (simp; done) | (simp; omega) | omega) _))))⟩
            · clear hu
              go_wp2_with fail
              go_roundw
              case rel => exact ⟨k + 1, by omega, by go_num, by (repeat (first | exact Below.refl _ _ | assumption | (refine Below.drew ?_) | (refine Below.alloc ?_ (by first | (simp; done) | (simp; omega) | omega) _) | (refine Below.setCell ?_ (by first | (simp; done) | (simp; omega) | omega) _)))⟩
              case measure => simp [intOf]; omega
          · rw [decide_eq_false hu] at hq
            clear hu
            go_wp2_with fail
            go_roundw
            case rel => exact ⟨k + 1, by omega, by go_num, by (repeat (first | exact Below.refl _ _ | assumption | (refine Below.drew ?_) | (refine Below.alloc ?_ (by first | (simp; done) | (simp; omega) | omega) _) | (refine Below.setCell ?_ (by first | (simp; done) | (simp; omega) | omega) _)))⟩
            case measure => simp [intOf]; omega
        · obtain rfl : k = y.gs.length := by omega
          go_wp2_with fail
          go_ret
          exact ⟨rfl, bt B3 B4⟩
theorem law_persons (a : Option Addr) (n c : Nat) (F : Nat → Ef) (e : En) (a1 : Option Addr) (n1 c1 : Nat) (a2 : Option Addr) (n2 c2 : Nat) (u : ByteArray) (ga : Option Addr) (gn gc : Nat) (name : ByteArray) (w : World) (hm : MaxL w) (hT : Tab w) (hES : ES w a n F) (hsz : n * 336 ≤ 140737488351232) (hn1 : n1 ≤ 9223372036854775807) (hn2 : n2 ≤ 9223372036854775807) (hu : n2 ≤ 1000 → ∃ l : List Gr, l.length = n2 ∧ GS w (.slice a2 n2 c2) l) (hgn : gn ≤ 1000 → ∃ l : List ByteArray, l.length = gn ∧ SS w (.slice ga gn gc) l) :
    Calls Tryz.prog 9 #[.slice a n c, .agg (e.vals (.slice a1 n1 c1) (.slice a2 n2 c2)), .string u, .slice ga gn gc, .string name] w fun r w' => r = .returned (.bool true) ∧ Below w.heap.size w w' := by
  obtain ⟨gs, hg⟩ : ∃ gs : List Gr, n2 ≤ 1000 → gs.length = n2 ∧ GS w (.slice a2 n2 c2) gs := by
    by_cases h : n2 ≤ 1000
    · obtain ⟨l, hl⟩ := hu h; exact ⟨l, fun _ => hl⟩
    · exact ⟨[], fun h' => absurd h' h⟩
  have hP : PL w a n F ⟨e, n1, n2, gs⟩ a1 c1 a2 c2 := ⟨hES, hsz, hn1, hn2, hg⟩
  by_cases h : fewAP (consF ⟨e, n1, n2, gs⟩ F) (1 + n) gn ∧ Ds.name (Ds.bl name) = true
  · obtain ⟨gl, rfl, hgl⟩ := hgn (by have := h.1.2.1; omega)
    exact pe_yes a n c F ⟨e, n1, n2, gs⟩ a1 c1 a2 c2 u ga gc gl name w hm hT hP hgl h.1 h.2
  · exact pe_no a n c F ⟨e, n1, n2, gs⟩ a1 c1 a2 c2 u ga gn gc name w hm hT hP h
end Go.Proofs.YtbdidnjdccpgaaaGreatDoor

end
section
/- The statement AccessPersons: the walk, the frame of the row, the card. Conditions: none beyond the statement. -/
namespace Go.Proofs.YtbdidnjdccpgaaaGreatDoor.accessPersons
open Go.ChangeShapes Go.WideShapes Go.ChangeAt Go.RowKit Go.Proofs.YtbdidnjdccpgaaaGreatDoor
open Go.ChangeMaps (open_string)

set_option maxRecDepth 100000 in
theorem contract (H : Type) (enc : TypeId × Value → H) (W : World) (base : Nat) (args : Array Value) (ds gs : List (DataW H)) (before : List MemPlace)
    (hval : ∀ (j : Nat) t v, Tryz.f9.params[j]? = some t → args[j]? = some v → Value.okWide Tryz.prog W .any base t v)
    (hW : DataW.Whole enc Tryz.prog Tryz.f9.params.toList Rows.accessPersonsSpec.vars false W args.toList ds gs before) (hsz : (DataW.weightsEach Tryz.prog (Tryz.f9.params.toList ++ (OpenSpec.ofChange Rows.accessPersonsSpec).bare.plain.varTypes Tryz.prog) (ds ++ gs)).all (· ≤ reachBytes) = true) (hL : laidMetH Tryz.prog Rows.accessPersonsRow.laid W) (hS : W.ShapedOpen Tryz.prog) :
    Calls Tryz.prog 9 args W fun e W' => ∃ v, e = .returned v ∧ Rows.accessPersonsSpec.post enc Tryz.prog Tryz.f9 false true false false W args v W' := by
  have hW' := hW
  have hlt : ∀ x ∈ before, x.block < W.heap.size := fun x hx => by simpa using hW'.lt x hx
  obtain ⟨p, q, hA0, hV, rfl, hfz, hnd⟩ := hW
  have hA : DataW.TrodAll enc Tryz.prog W 0 (fun _ => true) true Tryz.f9.params.toList args.toList ds p := hA0
  have hK := hA
  rw [Tryz.params9] at hA hval hsz
  obtain ⟨v0, vs0, d0, ds0, p0, q0, hargs, rfl, rfl, h0, r0⟩ := trodAll_cons hA
  obtain ⟨v1, vs1, d1, ds1, p1, q1, rfl, rfl, rfl, h1, r1⟩ := trodAll_cons r0
  obtain ⟨v2, vs2, d2, ds2, p2, q2, rfl, rfl, rfl, h2, r2⟩ := trodAll_cons r1
  obtain ⟨v3, vs3, d3, ds3, p3, q3, rfl, rfl, rfl, h3, r3⟩ := trodAll_cons r2
  obtain ⟨v4, vs4, d4, ds4, p4, q4, rfl, rfl, rfl, h4, r4⟩ := trodAll_cons r3
  obtain ⟨rfl, rfl, rfl⟩ := trodAll_nil r4
  obtain rfl : args = #[v0, v1, v2, v3, v4] := by cases args; simp_all
  obtain ⟨rfl, rfl⟩ := trodVars_none hV
  obtain ⟨a0, n0, c0, F0, rfl, o0⟩ := open_es (hval 0 42 v0 rfl rfl) h0
  obtain ⟨e1, a1, n1, c1, x1, m1, k1, rfl, o1, u1⟩ := open_en (hval 1 27 v1 rfl rfl) h1
  have hs2 := hval 2 9 v2 rfl rfl
  obtain ⟨s2, rfl⟩ := okWide_string Tryz.underlying9 hs2
  obtain ⟨a3, n3, c3, rfl, o3⟩ := open_ss (hval 3 33 v3 rfl rfl) h3
  have hs4 := hval 4 9 v4 rfl rfl
  obtain ⟨s4, rfl⟩ := okWide_string Tryz.underlying9 hs4
  rw [MakeChecks.laidMetH_plain _ _ _ (by kernel_rfl)] at hL
  refine (law_persons a0 n0 c0 F0 e1 a1 n1 c1 x1 m1 k1 s2 a3 n3 c3 s4 W (max_of hS) (tab_of hL) o0 (es_reach h0 hsz) (en_n1 h1) (en_n2 h1) u1 o3).mono fun e W' ⟨he, hb⟩ => ?_
  subst he
  exact ⟨_, rfl, _, _, _, [], _, [], hW', trodAll_cons_mk (shut_bool Tryz.underlying4 _) trodAll_mk0, args_below hb (by rw [Tryz.params9]; kernel_rfl) hK (fun x hx => hlt x (by simpa using hx)), rfl, hb.frame _, fun h => by cases h⟩

def zEnt : Value := .agg #[.int .i64 0, .string ⟨#[]⟩, .int .i64 0, .int .i64 0, .int .i64 0, .int .i64 0, .int .i64 0, .int .i64 0, .int .i64 0, .int .i64 0, .int .i64 0, .int .i64 0, .int .i64 0, .int .i64 0, .int .i64 0, .int .i64 0, .bool false, .int .i64 0, .string ⟨#[]⟩, .string ⟨#[]⟩, .int .i64 0, .int .i64 0, .bool false, .slice none 0 0, .int .i64 0, .int .i64 0, .int .i64 0, .bool false, .string ⟨#[]⟩, .string ⟨#[]⟩, .int .i64 0, .int .i64 0, .slice none 0 0]
def dEnt {H : Type} : DataW H := .agg [.lit (.int .i64 0), .lit (.string []), .agg [.lit (.int .i64 0), .lit (.int .i64 0), .lit (.int .i64 0), .lit (.int .i64 0), .lit (.int .i64 0), .lit (.int .i64 0), .lit (.int .i64 0), .lit (.int .i64 0), .lit (.int .i64 0), .lit (.int .i64 0), .lit (.int .i64 0), .lit (.int .i64 0), .lit (.int .i64 0), .lit (.int .i64 0), .lit (.bool false), .lit (.int .i64 0), .lit (.string []), .lit (.string []), .lit (.int .i64 0), .lit (.int .i64 0), .lit (.bool false)], .nil, .lit (.int .i64 0), .lit (.int .i64 0), .lit (.int .i64 0), .lit (.bool false), .lit (.string []), .lit (.string []), .lit (.int .i64 0), .lit (.int .i64 0), .nil]

theorem laid_met (os : Os) : laidMetH Tryz.prog Rows.accessPersonsRow.laid ((World.laidAll Tryz.prog os Rows.accessPersonsRow.laid).forCall (fun _ _ => 0) ⟨#[], #[(.slice none 0 0 : Value), (zEnt : Value), (.string ⟨#[]⟩ : Value), (.slice none 0 0 : Value), (.string ⟨#[]⟩ : Value)], []⟩).memory := by
  rw [MakeChecks.laidMetH_plain _ _ _ (by kernel_rfl)]; exact laidMet_laidAll _ (by kernel_rfl) (by kernel_rfl)
theorem reads (os : Os) {H : Type} (enc : TypeId × Value → H) : ∃ places, DataW.whole enc Tryz.prog ((World.laidAll Tryz.prog os Rows.accessPersonsRow.laid).forCall (fun _ _ => 0) ⟨#[], #[(.slice none 0 0 : Value), (zEnt : Value), (.string ⟨#[]⟩ : Value), (.slice none 0 0 : Value), (.string ⟨#[]⟩ : Value)], []⟩).memory Tryz.f9.params.toList Rows.accessPersonsSpec.vars false #[(.slice none 0 0 : Value), (zEnt : Value), (.string ⟨#[]⟩ : Value), (.slice none 0 0 : Value), (.string ⟨#[]⟩ : Value)].toList 8 = some ([.nil, dEnt, .lit (.string []), .nil, .lit (.string [])], [], places) :=
  ⟨[], by kernel_rfl⟩

set_option maxRecDepth 100000 in
theorem lifted (os : Os) (started : os.Started) (H : Type) (enc : TypeId × Value → H) (F : Stop.Interp) :
    ReturnsInHanded {} Tryz.checked os 9 .any ((OpenSpec.ofChange Rows.accessPersonsSpec).preRow enc Tryz.prog Tryz.f9 Rows.accessPersonsRow.domain false Rows.accessPersonsRow.laid) (((OpenSpec.ofChange Rows.accessPersonsSpec).at F).post enc Tryz.prog Tryz.f9 false true false false) := by
  obtain ⟨places, hx⟩ := reads os enc
  refine returnsInHanded_of_row (C := Tryz.checked) (s := OpenSpec.ofChange Rows.accessPersonsSpec) ownk started (by kernel_rfl) Tryz.func9
    (witness_lay (enc := enc) (C := Tryz.checked) false #[(.slice none 0 0 : Value), (zEnt : Value), (.string ⟨#[]⟩ : Value), (.slice none 0 0 : Value), (.string ⟨#[]⟩ : Value)] (World.shaped_of_ZipB (by kernel_rfl) (by kernel_rfl)) (by kernel_rfl)
      (OpenSpec.preRow_of_cond 8 hx (by kernel_rfl) (fun k hk => by cases hk) (by kernel_rfl) (laid_met os))) ?_
  intro W base args ds gs before hval hW _ _ hsz hL hS _
  exact contract H enc W base args ds gs before hval hW hsz hL hS

theorem said : Rows.AccessPersonsSaid :=
  OpenClaim.holds_of_cond 9 Tryz.f9 rfl rfl rfl rfl rfl rfl rfl ⟨rfl, rfl, rfl, rfl, rfl⟩ rfl rfl rfl rfl rfl (by kernel_rfl) Tryz.func9 joined_accessPersons
    (of_decide_eq_true (by kernel_rfl)) (by unfold Func.isWrapper; first | (rw [if_pos (by decide +kernel)]; kernel_rfl) | (rw [if_neg (by decide +kernel)]; exact ⟨rfl, rfl⟩))
    (fun os started H enc _ F => by rw [OpenClaim.pre_eq_preRow]; exact lifted os started H enc F)

theorem plain (f : FuncId) (fn : Func) (hf : Tryz.pinned.checked.prog.funcNamed Rows.accessPersonsRow.func = some f) (hfn : Tryz.pinned.checked.prog.funcs[f]? = some fn) :
    false = Tryz.pinned.checked.prog.looks [] ∧ ∀ (j : Nat) t, fn.params[j]? = some t → Tryz.pinned.checked.prog.wantsStandIn t = false := by
  obtain rfl : f = 9 := Option.some.inj ((show Tryz.prog.funcNamed Rows.accessPersonsRow.func = some 9 by kernel_rfl).symm.trans hf) |>.symm
  obtain rfl : fn = Tryz.f9 := (Option.some.inj (Tryz.func9.symm.trans hfn)).symm
  refine ⟨by kernel_rfl, fun j t ht => ?_⟩
  rw [Tryz.params9] at ht
  have hm := Array.mem_of_getElem? ht
  have ha : (#[42, 27, 9, 33, 9] : Array TypeId).all (fun t => !Tryz.prog.wantsStandIn t) = true := by kernel_rfl
  have := (Array.all_eq_true_iff_forall_mem.1 ha) t hm
  exact (show Tryz.prog.wantsStandIn t = false by simpa using this)

/-- THE CARD -/
theorem card : Rows.AccessPersonsCardSaid :=
  Claim7.holds_tied_plain_at .later [] _ _ _ _ said (fun _ h => by cases h) (by kernel_rfl) (fun _ h => by cases h) accessPersons_row_tie rfl ⟨rfl, rfl⟩ (by kernel_rfl) rfl plain (by kernel_rfl)
end Go.Proofs.YtbdidnjdccpgaaaGreatDoor.accessPersons

end
