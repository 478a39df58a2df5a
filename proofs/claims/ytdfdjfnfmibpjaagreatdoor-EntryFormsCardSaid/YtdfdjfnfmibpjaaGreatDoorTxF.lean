/- What lies behind the head of entry.Text; picks; Join with a blank. -/
import Derived.Test.YtdfdjfnfmibpjaaGreatDoorTxD
import Derived.Test.YtdfdjfnfmibpjaaGreatDoorTxR
namespace Go.Proofs.YtdfdjfnfmibpjaaGreatDoor
open Go.RowKit
set_option maxHeartbeats 16000000
set_option maxRecDepth 8000
theorem strs_newT (ps : List ByteArray) (W : World) (t : TypeId) : Strs (W.alloc (.cells (ps.map Value.string).toArray t)) W.heap.size ps := fun k hk => by
  rw [cell_of_row _ W.heap.size k _ t (0, 0) (heap_alloc_new W _)]
  simp [hk]
theorem LL {ts : List ByteArray} {k : Nat} [h : LenLe ts k] (hk : k ≤ 1000 := by decide) : ts.length ≤ 1000 := Nat.le_trans h.h hk
theorem LX.rebase {V W0 w : World} {o g0 : Nat} {ts : List ByteArray} (h : LX V W0 o g0 w ts) : ∃ g1, LX V w o g1 w ts ∧ (g1 = g0 ∨ W0.heap.size ≤ g1) ∧ g1 < w.heap.size := by
  obtain ⟨g1, h1, h2⟩ := h.tx
  obtain ⟨⟨cap, -, h5⟩, -⟩ := _root_.id h1
  exact ⟨g1, LX.start h1 h.b, h2, (own_base h5 g1 rfl).2⟩
/-- the blocks that Text reads: the closure, the entry, its data, the levels -/
structure HX (W0 : World) (o g f bE bD lv : Nat) (e : En) (al gr : Value) : Prop where
  lf : LF W0 o g f
  lE : bE < W0.heap.size ∧ bE ≠ o ∧ bE ≠ g
  lD : bD < W0.heap.size ∧ bD ≠ o ∧ bD ≠ g
  lL : lv < W0.heap.size ∧ lv ≠ o ∧ lv ≠ g
  rE : row W0 bE = e.vals al gr
  rD : row W0 bD = e.dat
  rL : Strs W0 lv levW
theorem HX.e {V W0 w : World} {o g f bE bD lv : Nat} {e : En} {al gr : Value} {ts : List ByteArray} (h : HX W0 o g f bE bD lv e al gr) (hL : LX V W0 o g w ts) (i : Nat) (v : Value) (hv : (e.vals al gr)[i]? = some v) : w.cell? ⟨bE, i, none⟩ = some v := (hL.cell h.lE.1 h.lE.2.1 h.lE.2.2).trans (cell_row h.rE i v hv)
theorem HX.d {V W0 w : World} {o g f bE bD lv : Nat} {e : En} {al gr : Value} {ts : List ByteArray} (h : HX W0 o g f bE bD lv e al gr) (hL : LX V W0 o g w ts) (i : Nat) (v : Value) (hv : e.dat[i]? = some v) : w.cell? ⟨bD, i, none⟩ = some v := (hL.cell h.lD.1 h.lD.2.1 h.lD.2.2).trans (cell_row h.rD i v hv)
theorem HX.l {V W0 w : World} {o g f bE bD lv : Nat} {e : En} {al gr : Value} {ts : List ByteArray} (h : HX W0 o g f bE bD lv e al gr) (hL : LX V W0 o g w ts) : Strs w lv levW := fun k hk => (hL.cell h.lL.1 h.lL.2.1 h.lL.2.2).trans (h.rL k hk)
theorem HX.rebase {V W0 w : World} {o g f bE bD lv : Nat} {e : En} {al gr : Value} {ts : List ByteArray} (h : HX W0 o g f bE bD lv e al gr) (hL : LX V W0 o g w ts) : ∃ g1, HX w o g1 f bE bD lv e al gr ∧ LX V w o g1 w ts ∧ g1 < w.heap.size := by
  obtain ⟨g1, h1, h2, h3⟩ := hL.rebase
  have hz := hL.sz
  have up : ∀ b, b < W0.heap.size ∧ b ≠ o ∧ b ≠ g → b < w.heap.size ∧ b ≠ o ∧ b ≠ g1 := fun b hb => ⟨by omega, hb.2.1, by rcases h2 with rfl | h2 <;> omega⟩
  have rw_ : ∀ b r, b < W0.heap.size ∧ b ≠ o ∧ b ≠ g → row W0 b = r → row w b = r := fun b r hb hr => by
    unfold row at hr ⊢
    rw [hL.k b hb.1 hb.2.1 hb.2.2]
    exact hr
  have hf := up f ⟨h.lf.1, h.lf.2.1, h.lf.2.2.1⟩
  exact ⟨g1, ⟨⟨hf.1, hf.2.1, hf.2.2, hL.fn h.lf⟩, up _ h.lE, up _ h.lD, up _ h.lL, rw_ _ _ h.lE h.rE, rw_ _ _ h.lD h.rD, h.l hL⟩, h1, h3⟩
theorem HX.up {W W' : World} {o g f bE bD lv : Nat} {e : En} {al gr : Value} (h : HX W o g f bE bD lv e al gr) (hb : Below W.heap.size W W') : HX W' o g f bE bD lv e al gr :=
  ⟨⟨Nat.lt_of_lt_of_le h.lf.1 hb.size, h.lf.2.1, h.lf.2.2.1, (hb.cell (p := ⟨f, 0, none⟩) h.lf.1).trans h.lf.2.2.2⟩, ⟨Nat.lt_of_lt_of_le h.lE.1 hb.size, h.lE.2⟩, ⟨Nat.lt_of_lt_of_le h.lD.1 hb.size, h.lD.2⟩, ⟨Nat.lt_of_lt_of_le h.lL.1 hb.size, h.lL.2⟩, row_below hb h.rE (by rw [vals_size]; decide), row_below hb h.rD (by rw [dat_size]; decide), fun k hk => (hb.cell (p := ⟨lv, k, none⟩) h.lL.1).trans (h.rL k hk)⟩
/-- a new block beside all that: from there on -/
theorem HX.rebase2 {V W0 w : World} {o g f bE bD lv : Nat} {e : En} {al gr : Value} {ts : List ByteArray} (h : HX W0 o g f bE bD lv e al gr) (hL : LX V W0 o g w ts) (ob : Obj) : ∃ g1, HX (w.alloc ob) o g1 f bE bD lv e al gr ∧ LX V (w.alloc ob) o g1 (w.alloc ob) ts ∧ w.heap.size ≠ o ∧ w.heap.size ≠ g1 := by
  obtain ⟨g1, h1, h2⟩ := hL.tx
  obtain ⟨⟨cap, -, h5⟩, -, h4, -⟩ := _root_.id h1
  have hg := (own_base h5 g1 rfl).2
  have hz := hL.sz
  have hb : Below w.heap.size w (w.alloc ob) := (Below.refl _ _).alloc (Nat.le_refl _) _
  have up : ∀ b, b < W0.heap.size ∧ b ≠ o ∧ b ≠ g → b < w.heap.size ∧ b ≠ o ∧ b ≠ g1 := fun b hb => ⟨by omega, hb.2.1, by rcases h2 with rfl | h2 <;> omega⟩
  have rw_ : ∀ b r, b < W0.heap.size ∧ b ≠ o ∧ b ≠ g → row W0 b = r → row w b = r := fun b r hb hr => by
    unfold row at hr ⊢
    rw [hL.k b hb.1 hb.2.1 hb.2.2]
    exact hr
  have hf := up f ⟨h.lf.1, h.lf.2.1, h.lf.2.2.1⟩
  have hx : HX w o g1 f bE bD lv e al gr := ⟨⟨hf.1, hf.2.1, hf.2.2, hL.fn h.lf⟩, up _ h.lE, up _ h.lD, up _ h.lL, rw_ _ _ h.lE h.rE, rw_ _ _ h.lD h.rD, h.l hL⟩
  exact ⟨g1, hx.up hb, LX.start (h1.alloc ob) (hL.b.trans (hb.mono hL.le)), by omega, by omega⟩
theorem HX.start {V wc : World} {o g bE bD : Nat} {e : En} {al gr : Value} {ts : List ByteArray} (hT : TX wc V.heap.size o g ts) (hb : Below V.heap.size V wc) (hE : bE < wc.heap.size ∧ bE ≠ o ∧ bE ≠ g) (hD : bD < wc.heap.size ∧ bD ≠ o ∧ bD ≠ g) (rE : row wc bE = e.vals al gr) (rD : row wc bD = e.dat) (t : TypeId) :
    HX ((wc.alloc (.cells #[.func (.func 66) #[] #[.pointer (some ⟨o, 0, none⟩)]] t)).alloc (.cells #[.string ⟨#[110, 111, 110, 101]⟩, .string ⟨#[114, 101, 97, 100]⟩, .string ⟨#[117, 112, 100, 97, 116, 101]⟩, .string ⟨#[97, 108, 116, 101, 114]⟩] 9)) o g wc.heap.size bE bD (wc.heap.size + 1) e al gr ∧
    LX V ((wc.alloc (.cells #[.func (.func 66) #[] #[.pointer (some ⟨o, 0, none⟩)]] t)).alloc (.cells #[.string ⟨#[110, 111, 110, 101]⟩, .string ⟨#[114, 101, 97, 100]⟩, .string ⟨#[117, 112, 100, 97, 116, 101]⟩, .string ⟨#[97, 108, 116, 101, 114]⟩] 9)) o g ((wc.alloc (.cells #[.func (.func 66) #[] #[.pointer (some ⟨o, 0, none⟩)]] t)).alloc (.cells #[.string ⟨#[110, 111, 110, 101]⟩, .string ⟨#[114, 101, 97, 100]⟩, .string ⟨#[117, 112, 100, 97, 116, 101]⟩, .string ⟨#[97, 108, 116, 101, 114]⟩] 9)) ts := by
  have hT2 := (hT.alloc (.cells #[.func (.func 66) #[] #[.pointer (some ⟨o, 0, none⟩)]] t)).alloc (.cells #[.string ⟨#[110, 111, 110, 101]⟩, .string ⟨#[114, 101, 97, 100]⟩, .string ⟨#[117, 112, 100, 97, 116, 101]⟩, .string ⟨#[97, 108, 116, 101, 114]⟩] 9)
  obtain ⟨⟨cap, -, h2⟩, -, h4, h5, -⟩ := hT
  have hg := (own_base h2 g rfl).2
  have hz : V.heap.size ≤ wc.heap.size := by omega
  have hB : Below wc.heap.size wc ((wc.alloc (.cells #[.func (.func 66) #[] #[.pointer (some ⟨o, 0, none⟩)]] t)).alloc (.cells #[.string ⟨#[110, 111, 110, 101]⟩, .string ⟨#[114, 101, 97, 100]⟩, .string ⟨#[117, 112, 100, 97, 116, 101]⟩, .string ⟨#[97, 108, 116, 101, 114]⟩] 9)) := by exact belA
  have hs : (wc.alloc (.cells #[.func (.func 66) #[] #[.pointer (some ⟨o, 0, none⟩)]] t)).heap.size = wc.heap.size + 1 := by simp
  refine ⟨⟨⟨by simp; omega, by omega, by omega, ?_⟩, ⟨by simp; omega, hE.2.1, hE.2.2⟩, ⟨by simp; omega, hD.2.1, hD.2.2⟩, ⟨by simp, by omega, by omega⟩, row_below hB rE (by rw [vals_size]; decide), row_below hB rD (by rw [dat_size]; decide), ?_⟩, LX.start hT2 (hb.trans (hB.mono hz))⟩
  · refine (World.cell?_of_block (a := ⟨wc.heap.size, 0, none⟩) (heap_alloc_old (wc.alloc _) _ (by simp))).trans ?_
    rw [cell_of_row _ wc.heap.size 0 _ t (0, 0) (heap_alloc_new wc _)]
    rfl
  · rw [← hs]
    exact strs_newT levW _ 9
theorem HX.lw {V W0 w : World} {o g f bE bD lv : Nat} {e : En} {al gr : Value} {ts : List ByteArray} (h : HX W0 o g f bE bD lv e al gr) (hL : LX V W0 o g w ts) (n : Int) (h0 : 0 ≤ n) (h3 : n ≤ 3) : w.cell? ⟨lv, n.toNat, none⟩ = some (.string (atW levW n)) := by
  have hlt : n.toNat < levW.length := by show n.toNat < 4; omega
  rw [h.l hL n.toNat hlt]
  unfold atW
  rw [List.getD_eq_getElem?_getD, List.getElem?_eq_getElem hlt]
  rfl
theorem levW_size (n : Int) : (atW levW n).size ≤ 6 := by
  unfold atW
  rw [List.getD_eq_getElem?_getD]
  rcases Nat.lt_or_ge n.toNat levW.length with h | h
  · rw [List.getElem?_eq_getElem h]
    have : ∀ p ∈ levW, p.size ≤ 6 := by decide
    exact this _ (List.getElem_mem h)
  · rw [List.getElem?_eq_none h]; decide
theorem LX.out {V W0 w : World} {o g0 : Nat} {ts : List ByteArray} (h : LX V W0 o g0 w ts) : ∃ g n cap, n = ts.length ∧ w.cell? ⟨o, 0, none⟩ = some (.slice (some ⟨g, 0, none⟩) n cap) ∧ Strs w g ts := by
  obtain ⟨g, ⟨⟨cap, h1, h2⟩, -⟩, -⟩ := h.tx
  exact ⟨g, _, cap, rfl, h1, owns_strs h2⟩
theorem tx_joinsp (l : List ByteArray) (a : Option Addr) (n c base : Nat) (w : World) (h : OW w base (.slice a n c) l) (hl : l.length ≤ 100) (hj : (Lib.join (l.map Ds.bl) [32]).length ≤ 1000) :
    Calls Tryz.prog 72 #[.slice a n c, .string ⟨#[32]⟩] w fun r w' => r = .returned (.string ⟨(Lib.join (l.map Ds.bl) [32]).toArray⟩) ∧ Below w.heap.size w w' := by
  have hb := own_base h
  obtain ⟨a', c', e, hp⟩ : ∃ a' c', Value.slice a n c = .slice a' l.length c' ∧ (0 < l.length → ∃ ad, a' = some ad ∧ ∀ j u, (l.map Value.string)[j]? = some u → w.cell? (ad.add j) = some u) := by
    obtain ⟨a', c', e, -, hp⟩ := own_cells h
    exact ⟨a', c', e, hp⟩
  injection e with e1 e2 e3
  subst e1 e2 e3
  have e2 : l.map (·.data.toList) = l.map Ds.bl := rfl
  match a, h, hb, hp with
  | none, h, hb, hp =>
    have h0 : l.length = 0 := by
      rcases Nat.eq_zero_or_pos l.length with h0 | h0
      · exact h0
      · obtain ⟨ad, e, -⟩ := hp h0
        cases e
    have : l = [] := List.eq_nil_of_length_eq_zero h0
    subst this
    refine (ds_join0 0 c ⟨#[32]⟩ w rfl).mono ?_
    rintro r w' ⟨rfl, rfl⟩
    exact ⟨rfl, Below.refl _ _⟩
  | some ad, h, hb, hp =>
    obtain ⟨g, rfl, hc, -⟩ : ∃ g, ad = ⟨g, 0, none⟩ ∧ l.length ≤ c ∧ True := by
      rcases h.2 with ⟨e, -⟩ | ⟨g, cap, cur, e, -, -, h1, -⟩
      · injection e with e; cases e
      · injection e with e e' e''
        exact ⟨g, Option.some.inj e, by rw [e'']; exact h1, trivial⟩
    have hj := Tryz.strings_Join g 0 c l ⟨#[32]⟩ w (fun j x hx => by
      have hlt : j < l.length := by
        rcases Nat.lt_or_ge j l.length with h | h
        · exact h
        · rw [List.getElem?_eq_none h] at hx; cases hx
      obtain ⟨ad, e, p⟩ := hp (by omega)
      cases e
      have := p j (.string x) (by rw [List.getElem?_map, hx]; rfl)
      have e0 : (⟨g, 0, none⟩ : Addr).add j = ⟨g, 0 + j, none⟩ := by by_cases h : j = 0 <;> simp [Addr.add, h]
      rw [← e0]
      exact this) (hb g rfl).2 (by omega) hc (by rw [e2]; show (Lib.join (l.map Ds.bl) [32]).length ≤ _; omega)
    rw [e2] at hj
    exact hj
def altL (l : List Int) (k : Nat) : List ByteArray := (l.take k).map fun n => ⟨(Lib.itoa n).toArray⟩
theorem altL_bl (l : List Int) (k : Nat) : (altL l k).map Ds.bl = (l.take k).map Lib.itoa := by
  unfold altL
  rw [List.map_map]
  refine List.map_congr_left fun n _ => ?_
  exact Ds.bl_mk _
theorem altL_succ (l : List Int) (k : Nat) (h : k < l.length) : altL l (k + 1) = altL l k ++ [⟨(Lib.itoa l[k]).toArray⟩] := by
  unfold altL
  rw [List.take_succ_eq_append_getElem h, List.map_append]
  rfl
theorem altL_join (l : List Int) : (⟨(Lib.join ((altL l l.length).map Ds.bl) [32]).toArray⟩ : ByteArray) = altB l := by
  rw [altL_bl, List.take_length]
  rfl
theorem altL_len (l : List Int) (k : Nat) (h : k ≤ l.length) : (altL l k).length = k := by
  unfold altL
  rw [List.length_map, List.length_take]
  omega
theorem txX_0 (x : Fu) (k : x.1.kind = 0) : txX x = txData x.1 x.2.1 [hdB x.1] := by unfold txX; rw [if_pos k]
theorem txX_1 (x : Fu) (k : x.1.kind = 1) : txX x = txGroup x.1 := by unfold txX; rw [if_neg (by omega), if_pos k]
theorem txX_2 (x : Fu) (k : x.1.kind = 2) : txX x = txAlias x.1 := by unfold txX; rw [if_neg (by omega), if_neg (by omega), if_pos k]
theorem txX_3 (x : Fu) (k : x.1.kind = 3) : txX x = txCat x.1 := by unfold txX; rw [if_neg (by omega), if_neg (by omega), if_neg (by omega), if_pos k]
theorem txX_4 (x : Fu) (k : x.1.kind = 4) : txX x = txProf x.1 x.2.2 := by unfold txX; rw [if_neg (by omega), if_neg (by omega), if_neg (by omega), if_neg (by omega)]
theorem orgW_size (n : Int) : (atW orgW n).size ≤ 20 := by
  unfold atW
  rw [List.getD_eq_getElem?_getD]
  rcases Nat.lt_or_ge n.toNat orgW.length with h | h
  · rw [List.getElem?_eq_getElem h]
    have : ∀ p ∈ orgW, p.size ≤ 20 := by decide
    exact this _ (List.getElem_mem h)
  · rw [List.getElem?_eq_none h]; decide
theorem fmtW_size (n : Int) : (atW fmtW n).size ≤ 20 := by
  unfold atW
  rw [List.getD_eq_getElem?_getD]
  rcases Nat.lt_or_ge n.toNat fmtW.length with h | h
  · rw [List.getElem?_eq_getElem h]
    have : ∀ p ∈ fmtW, p.size ≤ 20 := by decide
    exact this _ (List.getElem_mem h)
  · rw [List.getElem?_eq_none h]; decide
theorem numW_size2 (k : Nat) : (numW.getD k ⟨#[]⟩).size ≤ 20 := by
  rw [List.getD_eq_getElem?_getD]
  rcases Nat.lt_or_ge k numW.length with h | h
  · rw [List.getElem?_eq_getElem h]
    have : ∀ p ∈ numW, p.size ≤ 20 := by decide
    exact this _ (List.getElem_mem h)
  · rw [List.getElem?_eq_none h]; decide
theorem kf_name (x : Fu) (h : okX x = true) : x.1.name.size ≤ 31 := by
  have := (okX_name x h).1
  rwa [Ds.bl_length] at this
theorem kf_0 (x : Fu) (h : okX x = true) (k : x.1.kind = 0) : DF x.1 x.2.1 := by
  unfold okX at h
  rw [if_pos k] at h
  unfold okD at h
  simp only [Bool.and_eq_true] at h
  exact DF.of h.1.2
theorem kf_1 (x : Fu) (h : okX x = true) (k : x.1.kind = 1) : (0 ≤ x.1.lim ∧ x.1.lim ≤ 1099511627776) ∧ (0 ≤ x.1.last ∧ x.1.last ≤ 1099511627776) ∧ x.1.owner.size ≤ 31 := by
  unfold okX at h
  rw [if_neg (by omega), if_pos k] at h
  unfold okG Vp.grp at h
  simp only [Bool.and_eq_true] at h
  obtain ⟨⟨-, ⟨h1, h2⟩, h3⟩, -⟩ := h
  have r1 := rng1 _ _ _ h1
  have r2 := rng1 _ _ _ h2
  have r3 := own_len _ h3
  rw [Ds.bl_length] at r3
  exact ⟨⟨by omega, by omega⟩, ⟨by omega, by omega⟩, r3⟩
theorem kf_2 (x : Fu) (h : okX x = true) (k : x.1.kind = 2) : x.1.target.size ≤ 31 := by
  unfold okX at h
  rw [if_neg (by omega), if_neg (by omega), if_pos k] at h
  unfold okA Vp.ali at h
  simp only [Bool.and_eq_true] at h
  exact (name_size _ h.1.2.1).1
theorem kf_3 (x : Fu) (h : okX x = true) (k : x.1.kind = 3) : 0 ≤ x.1.cat ∧ x.1.cat ≤ 1099511627776 := by
  unfold okX at h
  rw [if_neg (by omega), if_neg (by omega), if_neg (by omega), if_pos k] at h
  unfold okC Vp.cat at h
  simp only [Bool.and_eq_true] at h
  have := rng1 _ _ _ h.1.2
  omega
theorem kf_4 (x : Fu) (h : okX x = true) (k : x.1.kind = 4) : (0 ≤ x.1.lev ∧ x.1.lev ≤ 3) ∧ x.1.owner.size ≤ 31 ∧ x.2.2.length ≤ 8 ∧ ∀ g ∈ x.2.2, g.1.size ≤ 31 ∧ 0 ≤ g.2.2 ∧ g.2.2 ≤ 3 := by
  unfold okX at h
  rw [if_neg (by omega), if_neg (by omega), if_neg (by omega), if_neg (by omega), if_pos k] at h
  unfold okP at h
  simp only [Bool.and_eq_true] at h
  obtain ⟨h1, h2, h3, h4⟩ := prof_ok _ _ h.1.2
  exact ⟨⟨h1.l.1, h2⟩, by omega, h1.g8, fun g hg => ⟨by have := (h4 g hg).1; omega, (h4 g hg).2.2, (h4 g hg).2.1⟩⟩
end Go.Proofs.YtdfdjfnfmibpjaaGreatDoor
