/- Several texts in one: GeA GeB GeC. -/
import Derived.Test.YtbkbgkicpfbjfaaGreatDoorVaG
import Derived.Test.YtbkbgkicpfbjfaaGreatDoorGe
import Derived.Deep.AppendLies
import Derived.Deep.RegionLaw
import Derived.Laws.EntriesVeiled
section
/- Contracts of package generation: fits; fold's closure. -/
namespace Go.Proofs.YtbkbgkicpfbjfaaGreatDoor
open Go.RowKit
set_option maxHeartbeats 800000
set_option maxRecDepth 4000
theorem ge_int : Tryz.prog.info? 3 = some ((Tryz.prog.info? 3).getD default) := by kernel_rfl
theorem ge_int0 : ((Tryz.prog.info? 3).getD default).zero = some (.int .i64 0) := by kernel_rfl
theorem ge_int1 : ((Tryz.prog.info? 3).getD default).size = 1 := by kernel_rfl
theorem ge_int2 : ((Tryz.prog.info? 3).getD default).bytes = 8 := by kernel_rfl
def iv (l : List Int) : List Value := l.map (Value.int .i64)
theorem iv_one (l : List Int) : ∀ u ∈ iv l, u.oneCell' = true := by
  intro u hu
  obtain ⟨x, _, rfl⟩ := List.mem_map.1 hu
  rfl
theorem below1 {w w1 : World} {o : Obj} (hb : Below (w.alloc o).heap.size (w.alloc o) w1) : Below w.heap.size w w1 := ((Below.refl _ _).alloc (Nat.le_refl _) _).trans (hb.mono (by simp))
theorem ge_drop (kb nb b o k cap B ng : Nat) (gv : Value) (now gone : List Int) (w : World) (hk : 0 < k) (hkn : k < now.length) (hc : now.length ≤ cap) (hz : now.length ≤ 1000) (hzg : ng ≤ 100000)
    (hkc : w.cell? ⟨kb, 0, none⟩ = some gv) (hnc : w.cell? ⟨nb, 0, none⟩ = some (.slice (some ⟨b, o, none⟩) now.length cap)) (hkf : w.frozen? ⟨kb, 0, none⟩ = false) (hnf : w.frozen? ⟨nb, 0, none⟩ = false)
    (hnow : ∀ j (h : j < now.length), w.cell? ⟨b, o + j, none⟩ = some (.int .i64 now[j])) (hown : w.ownsRow B 3 1 gv ng (iv gone)) (hB : B ≤ w.heap.size)
    (hne : kb ≠ nb) (hkl : kb < w.heap.size) (hnl : nb < w.heap.size) (hkb : gv.ownBlock ≠ some kb) (hnb : gv.ownBlock ≠ some nb) :
    Calls Tryz.prog 92 #[.int .i64 k, .pointer (some ⟨kb, 0, none⟩), .pointer (some ⟨nb, 0, none⟩)] w fun e w' => e = .returned (.tuple #[]) ∧ ∃ g c w1, w1.ownsRow B 3 1 (.slice (some ⟨g, 0, none⟩) (ng + k) c) (ng + k) (iv (gone ++ now.take k)) ∧ w.grownBy w1 gv.ownBlock ∧ (gv.ownBlock = some g ∨ g = w.heap.size) ∧
      w' = (w1.setCell ⟨kb, 0, none⟩ (.slice (some ⟨g, 0, none⟩) (ng + k) c)).setCell ⟨nb, 0, none⟩ (.slice (some ⟨b, o + k, none⟩) (now.length - k) (cap - k)) := by
  have hl : (iv (now.take k)).length = k * 1 := by unfold iv; rw [List.length_map, List.length_take]; omega
  have hnews : ∀ W : World, (∀ a, W.cell? a = w.cell? a) → ∀ j u, (iv (now.take k))[j]? = some u → W.cell? ((⟨b, o, none⟩ : Addr).add j) = some u := fun W hW j u hu => by
    have hj : j < k := by
      rcases Nat.lt_or_ge j k with h | h
      · exact h
      · rw [List.getElem?_eq_none (by omega)] at hu; cases hu
    unfold iv at hu
    rw [List.getElem?_map, List.getElem?_take_of_lt hj, List.getElem?_eq_getElem (by omega)] at hu
    rw [Addr.add_mid, hW, hnow j (by omega)]
    exact hu
  have HW := Lib.hid hnews
  have HO := Lib.hid hown
  have HL := Lib.hid hl
  have i1 : (0 : Int) ≤ (k : Int) := by omega
  have i2 : (k : Int) ≤ (cap : Int) := by omega
  have i3 : (k : Int) ≤ (now.length : Int) := by omega
  have i4 : k ≤ cap := by omega
  clear hnow hnews hown hl
  go_enter Tryz.func92, Tryz.ntmps92
  go_wp2_with fail
  go_region_law ((refine step_append_lies _ (by rfl) (.tmp 4) (.tmp 7) 24 (by rfl) B 3 _ (.int .i64 0) 1 8 Tryz.underlying24 ge_int ge_int0 ge_int1 ge_int2 rfl (by decide) gv ng (iv gone) (by simp [Act.eval, Act.put]) HO.out ⟨b, o, none⟩ k cap (iv (now.take k)) (by simp [Act.eval, Act.put]) HL.out (HW.out _ (fun _ => rfl)) (iv_one _) hk (by unfold maxLen; omega) (by omega) hB w.heap.size rfl ?_; intro g c w1 hown1 hgrow hat hlt; have k1 := hgrow.cell hkc (fun e => hkb e.symm); have k2 := hgrow.cell hnc (fun e => hnb e.symm); have k3 := (hgrow.frozen_far ⟨kb, 0, none⟩ hkl (fun e => hkb e.symm)).trans hkf; have k4 := (hgrow.frozen_far ⟨nb, 0, none⟩ hnl (fun e => hnb e.symm)).trans hnf))
  all_goals
    have HO1 := Lib.hid hown1
    have HGr := Lib.hid hgrow
    clear hown1 hgrow
    have hne2 : (kb == nb) = false := by simpa using hne
    go_wp2_with fail
    go_end0
    refine ⟨rfl, g, c, w1, ?_, ⟨HGr.out.os, HGr.out.tape, HGr.out.output, HGr.out.size, HGr.out.block⟩, hat, rfl⟩
    have := HO1.out
    unfold iv at this ⊢
    rw [List.map_append]
    exact this
theorem ge_fits (v : Value) (l : List Int) (last : Int) (w : World) (h : IS w v l) :
    Calls Tryz.prog 49 #[v, .int .i64 last] w fun e w' => e = .returned (.bool (Ge.fits 0 l last)) ∧ w = w' := by
  obtain ⟨a, c, rfl, hz, hc⟩ := h
  have HC := Lib.hid hc
  clear hc
  go_enter Tryz.func49, Tryz.ntmps49
  go_wp2_with fail
  go_loop [5, 7, 10] (fun b _ i => ∃ (k : Nat) (m : Int), k ≤ l.length ∧ i = .int .i64 k ∧ b = .int .i64 m ∧ Ge.fits 0 l last = Ge.fits m (l.drop k) last) (fun _ _ i => l.length - (intOf i).toNat)
  case atStart => exact ⟨0, 0, Nat.zero_le _, rfl, rfl, rfl⟩
  case round =>
    obtain ⟨k, m, hk, rfl, rfl, he⟩ := hrel
    have HE := Lib.hid he
    clear he
    by_cases hlt : k < l.length
    · obtain ⟨b, o, rfl, -, hcell⟩ := HC.out (by omega)
      have c1 := hcell k hlt
      have hr := HE.out
      rw [List.drop_eq_getElem_cons hlt, Ge.fits] at hr
      clear hcell
      by_cases hle : l[k] ≤ m
      · rw [if_pos hle] at hr
        have HR := Lib.hid hr
        clear hr
        go_wp2_with fail
        go_ret
        exact ⟨ret_bool HR.out.symm, rfl⟩
      · rw [if_neg hle] at hr
        have HR := Lib.hid hr
        clear hr
        go_wp2_with fail
        go_round
        case rel => exact ⟨k + 1, l[k], by omega, by go_num, rfl, HR.out⟩
        case measure => simp [intOf]; omega
    · have hr := HE.out
      rw [List.drop_eq_nil_of_le (by omega), Ge.fits] at hr
      have HR := Lib.hid hr
      clear hr
      go_wp2_with fail
      go_ret
      exact ⟨ret_bool HR.out.symm, rfl⟩
/-- do generations fit a group? -/
def okE (e : En) (l2 : List Int) (g2 : List Gr) (ex : List Int) : Bool := decide (e.kind = 1) && okG e l2 g2 && Ge.fits 0 ex e.last
attribute [local go_sem ↓] ldEnt
attribute [local go_sem] isHead_mk headOf_mk row_new row_new2 row_new2' row_drew row_drewN vals_0 vals_26 vals_size
theorem ge_valid (e : En) (al gr exv : Value) (l2 ex : List Int) (g2 : List Gr) (w : World) (hm : MaxL w) (h1 : IS w al l2) (h2 : GS w gr g2) (h3 : IS w exv ex) :
    Calls Tryz.prog 22 #[.agg (e.vals al gr), exv] w fun r w' => r = .returned (.bool (okE e l2 g2 ex)) ∧ Below w.heap.size w w' := by
  unfold okE
  by_cases hk : e.kind = 1
  · rw [decide_eq_true hk, Bool.true_and]
    have ha : Below w.heap.size w (w.alloc (.cells (e.vals al gr) 27)) := by (repeat (first | exact Below.refl _ _ | assumption | (refine Below.drew ?_) | (refine Below.alloc ?_ (by first | (simp; done) | (simp; omega) | omega) _) | (refine Below.setCell ?_ (by first | (simp; done) | (simp; omega) | omega) _)))
    have hv := va_kind1 e al gr l2 g2 _ hk (hm.below ha) (h1.below ha) (h2.below ha)
    have hf := fun W (b : Below w.heap.size w W) => ge_fits exv ex e.last W (h3.below b)
    have hk2 : (e.kind == 1) = true := by simpa using hk
    clear hk
    generalize okG e l2 g2 = x at hv ⊢
    generalize Ge.fits 0 ex e.last = y at hf ⊢
    cases x
    · go_enter Tryz.func22, Tryz.ntmps22
      go_wp2_with ((with_reducible refine hv.mono ?_); rintro _ w1 ⟨rfl, hb⟩)
      go_ret
      exact ⟨rfl, below1 hb⟩
    · go_enter Tryz.func22, Tryz.ntmps22
      go_wp2_with (first | ((with_reducible refine hv.mono ?_); rintro _ w1 ⟨rfl, hb⟩; have B := below1 hb; obtain ⟨hc1, hf1⟩ := bcell hb) | ((with_reducible refine (hf _ B).mono ?_); rintro _ w2 ⟨rfl, rfl⟩))
      go_ret
      exact ⟨rfl, B⟩
  · rw [decide_eq_false hk, Bool.false_and, Bool.false_and]
    have hk2 : (e.kind == 1) = false := by simpa using hk
    clear hk
    go_enter Tryz.func22, Tryz.ntmps22
    go_wp2_with fail
    go_ret
    exact ⟨rfl, by (repeat (first | exact Below.refl _ _ | assumption | (refine Below.drew ?_) | (refine Below.alloc ?_ (by first | (simp; done) | (simp; omega) | omega) _) | (refine Below.setCell ?_ (by first | (simp; done) | (simp; omega) | omega) _)))⟩
end Go.Proofs.YtbkbgkicpfbjfaaGreatDoor

end
section
/- fold's memory: what is kept from round to round. -/
namespace Go.Proofs.YtbkbgkicpfbjfaaGreatDoor
open Go.RowKit
set_option maxHeartbeats 800000
set_option maxRecDepth 4000
/-- a slice of numbers that reads so, and where it lies -/
def NW (w : World) (v : Value) (l : List Int) : Prop :=
  ∃ a c, v = .slice a l.length c ∧ l.length ≤ c ∧ ((a = none ∧ l = [] ∧ c = 0) ∨ ∃ b o, a = some ⟨b, o, none⟩ ∧ b < w.heap.size ∧ ∀ j (h : j < l.length), w.cell? ⟨b, o + j, none⟩ = some (.int .i64 l[j]))
theorem NW.keep {w w' : World} {v : Value} {l : List Int} (h : NW w v l) (hs : w.heap.size ≤ w'.heap.size) (k : ∀ x, v.ownBlock = some x → x < w.heap.size → w'.heap[x]? = w.heap[x]?) : NW w' v l := by
  obtain ⟨a, c, rfl, h1, h2⟩ := h
  refine ⟨a, c, rfl, h1, ?_⟩
  rcases h2 with h2 | ⟨b, o, rfl, hb, hc⟩
  · exact .inl h2
  · exact .inr ⟨b, o, rfl, Nat.lt_of_lt_of_le hb hs, fun j hj => (World.cell?_of_block (a := ⟨b, o + j, none⟩) (k b rfl hb)).trans (hc j hj)⟩
theorem NW.is {w : World} {v : Value} {l : List Int} (h : NW w v l) (hz : l.length ≤ 1000000) : IS w v l := by
  obtain ⟨a, c, rfl, h1, h2⟩ := h
  refine ⟨a, c, rfl, hz, fun h0 => ?_⟩
  rcases h2 with ⟨_, rfl, _⟩ | ⟨b, o, rfl, hb, hc⟩
  · simp at h0
  · exact ⟨b, o, rfl, hb, hc⟩
theorem NW.owns {w : World} {v : Value} {B e : Nat} {l : List Int} {n : Nat} (h : w.ownsRow B e 1 v n (iv l)) : NW w v l ∧ n = l.length ∧ ∀ x, v.ownBlock = some x → B ≤ x ∧ x < w.heap.size := by
  obtain ⟨hl, h⟩ := h
  have hn : n = l.length := by unfold iv at hl; rw [List.length_map] at hl; omega
  subst hn
  rcases h with ⟨rfl, h0⟩ | ⟨g, cap, cur, rfl, hB, hg, hc, _, _, ht⟩
  · refine ⟨⟨none, 0, by rw [h0], by omega, .inl ⟨rfl, List.eq_nil_of_length_eq_zero h0, rfl⟩⟩, rfl, fun x hx => by cases hx⟩
  · have hlt : g < w.heap.size := by
      rcases Nat.lt_or_ge g w.heap.size with h | h
      · exact h
      · rw [Array.getElem?_eq_none h] at hg; cases hg
    refine ⟨⟨_, cap, rfl, hc, .inr ⟨g, 0, rfl, hlt, fun j hj => ?_⟩⟩, rfl, fun x hx => by cases hx; exact ⟨hB, hlt⟩⟩
    rw [Nat.zero_add, cell_of_row w g j cur e (0, 0) hg]
    have : (cur.toList.take (l.length * 1))[j]? = (iv l)[j]? := by rw [ht]
    rw [List.getElem?_take_of_lt (by omega), Array.getElem?_toList] at this
    rw [this]; unfold iv
    rw [List.getElem?_map, List.getElem?_eq_getElem hj]; rfl
structure FI (w wr : World) (B nb kb : Nat) (cs : Array Value) (now gone : List Int) (nv gv : Value) : Prop where
  hE : EB wr w.heap.size cs
  hR : Held wr (w.heap.size + 1) 33
  hB : w.heap.size + 2 ≤ B
  hBs : B ≤ wr.heap.size
  hn : wr.cell? ⟨nb, 0, none⟩ = some nv
  hnf : wr.frozen? ⟨nb, 0, none⟩ = false
  hk : wr.cell? ⟨kb, 0, none⟩ = some gv
  hkf : wr.frozen? ⟨kb, 0, none⟩ = false
  hNB : B ≤ nb
  hKB : B ≤ kb
  hne : kb ≠ nb
  hnow : NW wr nv now
  hgone : wr.ownsRow B 3 1 gv gone.length (iv gone)
  s1 : ∀ x, nv.ownBlock = some x → B ≤ x ∧ x ≠ nb ∧ x ≠ kb ∧ gv.ownBlock ≠ some x
  s2 : gv.ownBlock ≠ some nb ∧ gv.ownBlock ≠ some kb
  hw : Below w.heap.size w wr
theorem setCell_other {w : World} {a : Addr} {v : Value} {k : Nat} (h : k ≠ a.block) : (w.setCell a v).heap[k]? = w.heap[k]? := heap_setCell_other w a k v h
theorem owns_keep {w w' : World} {B e n : Nat} {v : Value} {xs : List Value} (h : w.ownsRow B e 1 v n xs) (k : ∀ x, v.ownBlock = some x → w'.heap[x]? = w.heap[x]?) : w'.ownsRow B e 1 v n xs := by
  refine ⟨h.1, ?_⟩
  rcases h.2 with h | ⟨g, cap, cur, rfl, h2, h3, h4⟩
  · exact .inl h
  · exact .inr ⟨g, cap, cur, rfl, h2, (k g rfl).trans h3, h4⟩
/-- a field of the group is set -/
theorem FI.set {w wr : World} {B nb kb : Nat} {cs : Array Value} {now gone : List Int} {nv gv : Value} (h : FI w wr B nb kb cs now gone nv gv) (o : Nat) (ho : o < cs.size) (v : Value) :
    FI w (wr.setCell ⟨w.heap.size, o, none⟩ v) B nb kb (cs.setIfInBounds o v) now gone nv gv := by
  have hB := h.hB
  have kk : ∀ x, x ≠ w.heap.size → (wr.setCell ⟨w.heap.size, o, none⟩ v).heap[x]? = wr.heap[x]? := fun x hx => setCell_other hx
  have n1 := h.hNB
  have n2 := h.hKB
  have hg : ∀ x, gv.ownBlock = some x → B ≤ x := fun x hx => ((NW.owns h.hgone).2.2 x hx).1
  refine ⟨h.hE.set o ho v, h.hR.of_block (kk _ (by omega)), hB, by simpa using h.hBs, ?_, by simpa using h.hnf, ?_, by simpa using h.hkf, n1, n2, h.hne, h.hnow.keep (by simp) (fun x hx _ => kk x (by have := (h.s1 x hx).1; omega)), owns_keep h.hgone (fun x hx => kk x (by have := hg x hx; omega)), h.s1, h.s2, h.hw.setCell (Nat.le_refl _) _⟩
  · exact (World.cell?_of_block (a := ⟨nb, 0, none⟩) (kk nb (by omega))).trans h.hn
  · exact (World.cell?_of_block (a := ⟨kb, 0, none⟩) (kk kb (by omega))).trans h.hk
theorem FI.alloc {w wr : World} {B nb kb : Nat} {cs : Array Value} {now gone : List Int} {nv gv : Value} (h : FI w wr B nb kb cs now gone nv gv) {w' : World} (G : wr.grownBy w' none) :
    FI w w' B nb kb cs now gone nv gv := by
  have kk : ∀ x, x < wr.heap.size → w'.heap[x]? = wr.heap[x]? := fun x hx => G.block x hx (by simp)
  have l1 := World.block_lt_of_cell? wr _ h.hn
  have l2 := World.block_lt_of_cell? wr _ h.hk
  simp only at l1 l2
  have hB := h.hB
  have hBs := h.hBs
  have hg : ∀ x, gv.ownBlock = some x → x < wr.heap.size := fun x hx => ((NW.owns h.hgone).2.2 x hx).2
  exact ⟨h.hE.of_block (kk _ (by omega)) G.size, h.hR.of_block (kk _ (by omega)), hB, Nat.le_trans hBs G.size, (World.cell?_of_block (a := ⟨nb, 0, none⟩) (kk nb l1)).trans h.hn, (World.frozen?_of_block (a := ⟨nb, 0, none⟩) (kk nb l1)).trans h.hnf, (World.cell?_of_block (a := ⟨kb, 0, none⟩) (kk kb l2)).trans h.hk, (World.frozen?_of_block (a := ⟨kb, 0, none⟩) (kk kb l2)).trans h.hkf, h.hNB, h.hKB, h.hne, h.hnow.keep G.size (fun x _ hx => kk x hx), owns_keep h.hgone (fun x hx => kk x (hg x hx)), h.s1, h.s2, h.hw.trans ⟨G.os, G.tape, G.output, G.size, fun x hx => kk x (by omega)⟩⟩
/-- the new slice is put into the cell of now -/
theorem FI.put {w wr : World} {B nb kb : Nat} {cs : Array Value} {now gone now' : List Int} {nv gv nv' : Value} (h : FI w wr B nb kb cs now gone nv gv) (hN : NW wr nv' now') (hs : ∀ x, nv'.ownBlock = some x → B ≤ x ∧ x ≠ nb ∧ x ≠ kb ∧ gv.ownBlock ≠ some x) :
    FI w (wr.setCell ⟨nb, 0, none⟩ nv') B nb kb cs now' gone nv' gv := by
  have kk : ∀ x, x ≠ nb → (wr.setCell ⟨nb, 0, none⟩ nv').heap[x]? = wr.heap[x]? := fun x hx => setCell_other hx
  have hB := h.hB
  have hNB := h.hNB
  exact ⟨h.hE.of_block (kk _ (by omega)) (by simp), h.hR.of_block (kk _ (by omega)), hB, by simpa using h.hBs, World.cell?_setCell_same' _ _ _ (by rw [h.hn]; rfl), by simpa using h.hnf, (World.cell?_of_block (a := ⟨kb, 0, none⟩) (kk kb h.hne)).trans h.hk, by simpa using h.hkf, hNB, h.hKB, h.hne, hN.keep (by simp) (fun x hx _ => kk x (hs x hx).2.1), owns_keep h.hgone (fun x hx => kk x (fun e => h.s2.1 (e ▸ hx))), hs, h.s2, h.hw.setCell (by show w.heap.size ≤ nb; omega) _⟩
/-- fold's closure, over what is kept -/
theorem FI.drop {w wr : World} {B nb kb : Nat} {cs : Array Value} {now gone : List Int} {nv gv : Value} (h : FI w wr B nb kb cs now gone nv gv) (k : Nat) (kI : Int) (hkI : kI = k) (hk : 0 < k) (hkn : k < now.length) (hz : now.length ≤ 1000) (hzg : gone.length ≤ 100000) :
    Calls Tryz.prog 92 #[.int .i64 kI, .pointer (some ⟨kb, 0, none⟩), .pointer (some ⟨nb, 0, none⟩)] wr fun e w' => e = .returned (.tuple #[]) ∧ ∃ nv' gv', FI w w' B nb kb cs (now.drop k) (gone ++ now.take k) nv' gv' := by
  subst hkI
  have h0 := h
  obtain ⟨a, c, rfl, h1, h2⟩ := h.hnow
  rcases h2 with ⟨_, rfl, _⟩ | ⟨b, o, rfl, hb, hc⟩
  · simp at hkn
  have hB := h.hB
  have hBs := h.hBs
  have l1 := World.block_lt_of_cell? wr _ h.hn
  have l2 := World.block_lt_of_cell? wr _ h.hk
  simp only at l1 l2
  obtain ⟨b1, b2, b3, b4⟩ := h.s1 b rfl
  refine (ge_drop kb nb b o k c B gone.length gv now gone wr hk hkn h1 hz hzg h.hk h.hn h.hkf h.hnf hc h.hgone hBs h.hne l2 l1 h.s2.2 h.s2.1).mono ?_
  rintro e w' ⟨rfl, g, cg, w1, hO, hG, hat, rfl⟩
  have kk : ∀ x, x < wr.heap.size → gv.ownBlock ≠ some x → x ≠ kb → x ≠ nb → ((w1.setCell ⟨kb, 0, none⟩ (.slice (some ⟨g, 0, none⟩) (gone.length + k) cg)).setCell ⟨nb, 0, none⟩ (.slice (some ⟨b, o + k, none⟩) (now.length - k) (c - k))).heap[x]? = wr.heap[x]? := fun x hx h1 h2 h3 => by
    rw [setCell_other h3, setCell_other h2]; exact hG.block x hx (fun e => h1 e.symm)
  have hg : ∀ x, gv.ownBlock = some x → B ≤ x ∧ x < wr.heap.size := fun x hx => (NW.owns h.hgone).2.2 x hx
  have hgne : ∀ x, x < wr.heap.size → gv.ownBlock ≠ some x → g ≠ x := fun x hx h1 e => by
    rcases hat with h2 | h2
    · exact h1 (e ▸ h2)
    · omega
  have hg0 : gv.ownBlock ≠ some w.heap.size := fun e => by have := (hg _ e).1; omega
  have hg1 : gv.ownBlock ≠ some (w.heap.size + 1) := fun e => by have := (hg _ e).1; omega
  have n1 := h.hNB
  have n2 := h.hKB
  have hgb : B ≤ g := by
    rcases hat with h2 | h2
    · exact (hg g h2).1
    · omega
  have m1 : w1.cell? ⟨kb, 0, none⟩ = some gv := hG.cell h.hk (fun e => h.s2.2 e.symm)
  have m2 : w1.cell? ⟨nb, 0, none⟩ = some (.slice (some ⟨b, o, none⟩) now.length c) := hG.cell h.hn (fun e => h.s2.1 e.symm)
  have hlen : (now.drop k).length = now.length - k := List.length_drop
  have hlen2 : (gone ++ now.take k).length = gone.length + k := by rw [List.length_append, List.length_take]; omega
  have hgs : wr.heap.size ≤ w1.heap.size := hG.size
  refine ⟨rfl, .slice (some ⟨b, o + k, none⟩) (now.length - k) (c - k), .slice (some ⟨g, 0, none⟩) (gone.length + k) cg, ?_⟩
  refine ⟨h.hE.of_block (kk _ (by omega) hg0 (by omega) (by omega)) (by simp; omega), h.hR.of_block (kk _ (by omega) hg1 (by omega) (by omega)), hB, by simp; omega, ?_, ?_, ?_, ?_, n1, n2, h.hne, ?_, ?_, ?_, ?_, ?_⟩
  · exact World.cell?_setCell_same' _ _ _ (by rw [World.cell?_of_block (a := ⟨nb, 0, none⟩) (setCell_other (fun e => h.hne e.symm)), m2]; rfl)
  · have := (World.frozen?_of_block (a := ⟨nb, 0, none⟩) (hG.block nb l1 (fun e => h.s2.1 e.symm))).trans h.hnf
    simpa using this
  · rw [World.cell?_of_block (a := ⟨kb, 0, none⟩) (setCell_other h.hne)]
    exact World.cell?_setCell_same' _ _ _ (by rw [m1]; rfl)
  · have := (World.frozen?_of_block (a := ⟨kb, 0, none⟩) (hG.block kb l2 (fun e => h.s2.2 e.symm))).trans h.hkf
    simpa using this
  · refine ⟨_, _, by rw [hlen], by rw [hlen]; omega, .inr ⟨b, o + k, rfl, by simp; omega, fun j hj => ?_⟩⟩
    rw [List.length_drop] at hj
    rw [World.cell?_of_block (a := ⟨b, o + k + j, none⟩) (kk b hb b4 b3 b2), Nat.add_assoc, hc (k + j) (by omega)]
    simp
  · rw [hlen2]
    exact owns_keep hO (fun x hx => by
      obtain rfl : g = x := by simpa [Value.ownBlock] using hx
      rw [setCell_other (hgne nb l1 h.s2.1), setCell_other (hgne kb l2 h.s2.2)])
  · intro x hx
    obtain rfl : b = x := by simpa [Value.ownBlock] using hx
    exact ⟨b1, b2, b3, fun e => hgne b hb b4 (by simpa [Value.ownBlock] using e)⟩
  · exact ⟨fun e => hgne nb l1 h.s2.1 (by simpa [Value.ownBlock] using e), fun e => hgne kb l2 h.s2.2 (by simpa [Value.ownBlock] using e)⟩
  · exact h.hw.trans ⟨hG.os, hG.tape, hG.output, by simpa using hgs, fun x hx => kk x (by omega) (fun e => by have := (hg _ e).1; omega) (by omega) (by omega)⟩
/-- the news of an append, and what it leaves -/
theorem FI.app {w wr w' : World} {B nb kb : Nat} {cs : Array Value} {now gone : List Int} {nv gv nv' : Value} {x : Int} (h : FI w wr B nb kb cs now gone nv gv) (hown : w'.ownsRow wr.heap.size 3 1 nv' (now.length + 1) (iv now ++ iv [x])) (G : wr.grownBy w' none) :
    FI w (w'.setCell ⟨nb, 0, none⟩ nv') B nb kb cs (now ++ [x]) gone nv' gv := by
  have e : iv now ++ iv [x] = iv (now ++ [x]) := by unfold iv; rw [List.map_append]
  rw [e] at hown
  obtain ⟨h1, h2, h3⟩ := NW.owns hown
  have l1 := World.block_lt_of_cell? wr _ h.hn
  have l2 := World.block_lt_of_cell? wr _ h.hk
  simp only at l1 l2
  have hg : ∀ x, gv.ownBlock = some x → x < wr.heap.size := fun x hx => ((NW.owns h.hgone).2.2 x hx).2
  exact (h.alloc G).put h1 (fun y hy => by
    have := h3 y hy
    have := h.hBs
    exact ⟨by omega, by omega, by omega, fun e => by have := hg y e; omega⟩)
end Go.Proofs.YtbkbgkicpfbjfaaGreatDoor

end
section
/- Contracts of package generation: fold. -/
namespace Go.Proofs.YtbkbgkicpfbjfaaGreatDoor
open Go.RowKit
set_option maxHeartbeats 1600000
set_option maxRecDepth 8000
theorem ge_clone (v : Value) (l : List Int) (w : World) (h : IS w v l) :
    Calls Tryz.prog 50 #[v] w fun e w' => ∃ v', e = .returned v' ∧ w'.ownsRow w.heap.size 3 1 v' l.length (iv l) ∧ Below w.heap.size w w' := by
  obtain ⟨a, c, rfl, hz, hc⟩ := h
  by_cases h0 : 0 < l.length
  · obtain ⟨b, o, rfl, -, hc⟩ := hc h0
    refine (Tryz.slices_Clone_int b o l.length c l w (Nat.le_refl _) (by omega) (fun j hj => ?_)).mono ?_
    · rw [hc j hj]; simp [List.getD_eq_getElem?_getD, List.getElem?_eq_getElem hj]
    · rintro e w' ⟨v', rfl, h1, -, h2⟩
      rw [List.take_length] at h1
      exact ⟨v', rfl, h1, h2⟩
  · obtain rfl : l = [] := List.eq_nil_of_length_eq_zero (by omega)
    cases a with
    | none =>
      refine (Tryz.slices_Clone_int_nil 0 c w).mono ?_
      rintro e w' ⟨rfl, rfl⟩
      exact ⟨_, rfl, ⟨rfl, .inl ⟨rfl, rfl⟩⟩, Below.refl _ _⟩
    | some a =>
      refine (Tryz.slices_Clone_int_zero a c w).mono ?_
      rintro e w' ⟨v', rfl, h1, -, h2⟩
      exact ⟨v', rfl, h1, h2⟩
theorem res_row_tmp3 {P : Program} {fn : Func} {p u v x : Tmp} {ty : TypeId} {d : TypeDesc} {n : Nat} (h : fn.results = #[.cell p ty, .tmp u, .tmp v, .tmp x]) (hu : P.underlying ty = some d) (hd : (match d with | .struct _ | .array _ _ => true | _ => false) = true) (hi : (P.info? ty).map (·.size) = some (n + 1))
    (tmps : Array Value) (w : World) (g : Nat) (hp : tmps.getD p undef = .pointer (some ⟨g, 0, none⟩)) (hz : (row w g).size = n + 1) :
    (results fn tmps).run P w = .ok (.tuple #[.agg (row w g), tmps.getD u undef, tmps.getD v undef, tmps.getD x undef]) w := by
  have hl := run_loadVar_block w g n ty d hu hd hi hz
  have hp' : tmps[p]?.getD undef = .pointer (some ⟨g, 0, none⟩) := by simpa using hp
  simp only [results, h]
  simp [Result.andThen, hp', asAddr, hl]
theorem res_row_tmp2 {P : Program} {fn : Func} {p u v : Tmp} {ty : TypeId} {d : TypeDesc} {n : Nat} (h : fn.results = #[.cell p ty, .tmp u, .tmp v]) (hu : P.underlying ty = some d) (hd : (match d with | .struct _ | .array _ _ => true | _ => false) = true) (hi : (P.info? ty).map (·.size) = some (n + 1))
    (tmps : Array Value) (w : World) (g : Nat) (hp : tmps.getD p undef = .pointer (some ⟨g, 0, none⟩)) (hz : (row w g).size = n + 1) :
    (results fn tmps).run P w = .ok (.tuple #[.agg (row w g), tmps.getD u undef, tmps.getD v undef]) w := by
  have hl := run_loadVar_block w g n ty d hu hd hi hz
  have hp' : tmps[p]?.getD undef = .pointer (some ⟨g, 0, none⟩) := by simpa using hp
  simp only [results, h]
  simp [Result.andThen, hp', asAddr, hl]
/-- a slice of numbers in memory from base on -/
def IB (base : Nat) (w : World) (v : Value) (l : List Int) : Prop := IS w v l ∧ ∀ x, v.ownBlock = some x → base ≤ x
theorem IB.nil (base : Nat) (w : World) : IB base w (.slice none 0 0) [] := ⟨IS.nil w, fun _ h => by cases h⟩
theorem IB.keep {base : Nat} {w w' : World} {v : Value} {l : List Int} (h : IB base w v l) (hs : w.heap.size ≤ w'.heap.size) (k : ∀ x, base ≤ x → x < w.heap.size → w'.heap[x]? = w.heap[x]?) : IB base w' v l := by
  obtain ⟨⟨a, c, rfl, h1, h2⟩, h3⟩ := h
  refine ⟨⟨a, c, rfl, h1, fun h0 => ?_⟩, h3⟩
  obtain ⟨b, o, rfl, hb, hc⟩ := h2 h0
  exact ⟨b, o, rfl, Nat.lt_of_lt_of_le hb hs, fun j hj => (World.cell?_of_block (a := ⟨b, o + j, none⟩) (k b (h3 b rfl) hb)).trans (hc j hj)⟩
theorem IB.mono {base base' : Nat} {w : World} {v : Value} {l : List Int} (h : IB base w v l) (hb : base' ≤ base) : IB base' w v l := ⟨h.1, fun x hx => Nat.le_trans hb (h.2 x hx)⟩
/-- what fold hands back: err, group, what there is, what has gone -/
def FoldR (F : Int × Int × List Int × List Int) (cs : Int → Array Value) (w : World) (r : Ending) (w' : World) : Prop :=
  ∃ v1 v2, r = .returned (.tuple #[.agg (if F.1 = 0 then cs F.2.1 else zcells 0 ⟨#[]⟩), v1, v2, .int .i64 F.1]) ∧ IB w.heap.size w' v1 F.2.2.1 ∧ IB w.heap.size w' v2 F.2.2.2 ∧ Below w.heap.size w w'
theorem FoldR.bad {w w' : World} {cs : Int → Array Value} {x : Int} {z : Array Value} (hx : x ≠ 0) (hz : z = zcells 0 ⟨#[]⟩) (B : Below w.heap.size w w') : FoldR (x, 0, [], []) cs w (.returned (.tuple #[.agg z, .slice none 0 0, .slice none 0 0, .int .i64 x])) w' :=
  ⟨_, _, by rw [if_neg hx, hz], IB.nil _ _, IB.nil _ _, B⟩
attribute [local go_sem ↓] ldEnt stEnt stEntRow
attribute [local go_sem] Held_drew isHead_mk headOf_mk cellsOfV_mk isAggV_mk row_new row_new2 row_new2' row_drew row_drewN vals_0 vals_25 vals_26 vals_27 vals_size allOne_nil allOne_cons one_int one_bool one_string one_pointer one_slice
theorem fd1 (w w1 : World) (cs z : Array Value) (t1 t2 : TypeId) (hz : z.size = 33) (hb : Below ((w.alloc (.cells cs t1)).alloc (.cells z t2)).heap.size ((w.alloc (.cells cs t1)).alloc (.cells z t2)) w1) :
    EB w1 w.heap.size cs ∧ Held w1 (w.heap.size + 1) 33 ∧ w.heap.size + 2 ≤ w1.heap.size ∧ Below w.heap.size w w1 := by
  have s1 : (w.alloc (.cells cs t1)).heap.size = w.heap.size + 1 := by simp
  have s2 : ((w.alloc (.cells cs t1)).alloc (.cells z t2)).heap.size = w.heap.size + 1 + 1 := by simp
  rw [s2] at hb
  have hs := hb.size
  rw [s2] at hs
  have e1 := (EB.new w cs t1).of_block (heap_alloc_old (w.alloc (.cells cs t1)) (.cells z t2) (by simp)) (by simp)
  have e2 := EB.new (w.alloc (.cells cs t1)) z t2
  rw [s1] at e2
  exact ⟨e1.of_block (hb.block _ (by omega)) (by rw [s2]; omega), held_of (e2.of_block (hb.block _ (by omega)) (by rw [s2]; omega)) hz (by decide), hs, ((Below.refl w.heap.size w).alloc (Nat.le_refl _) _).alloc (by omega) _ |>.trans (hb.mono (by omega))⟩
theorem ge_fold_bad (e : En) (al gr exv lv : Value) (l2 ex : List Int) (g2 : List Gr) (cs : Int → Array Value) (w : World) (hm : MaxL w) (h1 : IS w al l2) (h2 : GS w gr g2) (h3 : IS w exv ex) (hok : okE e l2 g2 ex = false) :
    Calls Tryz.prog 46 #[.agg (e.vals al gr), exv, lv] w (FoldR (1, 0, [], []) cs w) := by
  have hv := fun W (b : Below w.heap.size w W) => ge_valid e al gr exv l2 ex g2 W (hm.below b) (h1.below b) (h2.below b) (h3.below b)
  rw [hok] at hv
  have HV := Lib.hid hv
  clear hv hok
  go_enter Tryz.func46, Tryz.ntmps46
  go_wp2_with ((go_at_call 22; (with_reducible refine (HV.out _ (by (repeat (first | exact Below.refl _ _ | assumption | (refine Below.drew ?_) | (refine Below.alloc ?_ (by first | (simp; done) | (simp; omega) | omega) _) | (refine Below.setCell ?_ (by first | (simp; done) | (simp; omega) | omega) _))))).mono ?_)); rintro _ w1 ⟨rfl, hb⟩; obtain ⟨E1, H1, z1, B1⟩ := fd1 _ _ _ _ _ _ rfl hb; clear hb)
  have hrow := row_setRow H1 (zlit 0 ⟨#[]⟩)
  refine bodyPost_ret (res_row_tmp3 (n := 32) rfl Tryz.underlying27 rfl (by kernel_rfl) _ _ (w.heap.size + 1) rfl (congrArg Array.size hrow)) rfl ?_
  exact FoldR.bad (cs := cs) (x := 1) (by decide) (hrow.trans (zlit_eq _ _)) (below_setRow B1 (show w.heap.size ≤ w.heap.size + 1 by omega) _)
end Go.Proofs.YtbkbgkicpfbjfaaGreatDoor

end
