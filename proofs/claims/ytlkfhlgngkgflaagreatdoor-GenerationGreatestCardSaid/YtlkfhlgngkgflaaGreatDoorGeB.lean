/- fold's memory: what is kept from round to round. -/
import Derived.Test.YtlkfhlgngkgflaaGreatDoorGeA
namespace Go.Proofs.YtlkfhlgngkgflaaGreatDoor
open Go.RowKit
set_option maxHeartbeats 800000
set_option maxRecDepth 4000
/-- a slice of numbers that reads so, and where it lies -/
def NW (w : World) (v : Value) (l : List Int) : Prop :=
  ∃ a c, v = .slice a l.length c ∧ l.length ≤ c ∧ ((a = none ∧ l = [] ∧ c = 0) ∨ ∃ b o, a = some ⟨b, o, none⟩ ∧ b < w.heap.size ∧ ∀ j (h : j < l.length), w.cell? ⟨b, o + j, none⟩ = some (.int .i64 l[j]))
theorem NW.keep {w w' : World} {v : Value} {l : List Int} (h : NW w v l) (hs : w.heap.size ≤ w'.heap.size) (k : ∀ x, v.ownBlock = some x → x < w.heap.size → w'.heap[x]? = w.heap[x]?) : NW w' v l := by
  obtain ⟨a, c, rfl, h1, h2⟩ := h
  refine ⟨a, c, rfl, h1, ?_⟩
  rcases h2 with h2 | ⟨b, o, rfl, hb, hc⟩
  · exact .inl h2
  · exact .inr ⟨b, o, rfl, Nat.lt_of_lt_of_le hb hs, fun j hj => (World.cell?_of_block (a := ⟨b, o + j, none⟩) (k b rfl hb)).trans (hc j hj)⟩
theorem NW.is {w : World} {v : Value} {l : List Int} (h : NW w v l) (hz : l.length ≤ 1000000) : IS w v l := by
  obtain ⟨a, c, rfl, h1, h2⟩ := h
  refine ⟨a, c, rfl, hz, fun h0 => ?_⟩
  rcases h2 with ⟨_, rfl, _⟩ | ⟨b, o, rfl, hb, hc⟩
  · simp at h0
  · exact ⟨b, o, rfl, hb, hc⟩
theorem NW.owns {w : World} {v : Value} {B e : Nat} {l : List Int} {n : Nat} (h : w.ownsRow B e 1 v n (iv l)) : NW w v l ∧ n = l.length ∧ ∀ x, v.ownBlock = some x → B ≤ x ∧ x < w.heap.size := by
  obtain ⟨hl, h⟩ := h
  have hn : n = l.length := by unfold iv at hl; rw [List.length_map] at hl; omega
  subst hn
  rcases h with ⟨rfl, h0⟩ | ⟨g, cap, cur, rfl, hB, hg, hc, _, _, ht⟩
  · refine ⟨⟨none, 0, by rw [h0], by omega, .inl ⟨rfl, List.eq_nil_of_length_eq_zero h0, rfl⟩⟩, rfl, fun x hx => by cases hx⟩
  · have hlt : g < w.heap.size := by
      rcases Nat.lt_or_ge g w.heap.size with h | h
      · exact h
      · rw [Array.getElem?_eq_none h] at hg; cases hg
    refine ⟨⟨_, cap, rfl, hc, .inr ⟨g, 0, rfl, hlt, fun j hj => ?_⟩⟩, rfl, fun x hx => by cases hx; exact ⟨hB, hlt⟩⟩
    rw [Nat.zero_add, cell_of_row w g j cur e (0, 0) hg]
    have : (cur.toList.take (l.length * 1))[j]? = (iv l)[j]? := by rw [ht]
    rw [List.getElem?_take_of_lt (by omega), Array.getElem?_toList] at this
    rw [this]; unfold iv
    rw [List.getElem?_map, List.getElem?_eq_getElem hj]; rfl
structure FI (w wr : World) (B nb kb : Nat) (cs : Array Value) (now gone : List Int) (nv gv : Value) : Prop where
  hE : EB wr w.heap.size cs
  hR : Held wr (w.heap.size + 1) 33
  hB : w.heap.size + 2 ≤ B
  hBs : B ≤ wr.heap.size
  hn : wr.cell? ⟨nb, 0, none⟩ = some nv
  hnf : wr.frozen? ⟨nb, 0, none⟩ = false
  hk : wr.cell? ⟨kb, 0, none⟩ = some gv
  hkf : wr.frozen? ⟨kb, 0, none⟩ = false
  hNB : B ≤ nb
  hKB : B ≤ kb
  hne : kb ≠ nb
  hnow : NW wr nv now
  hgone : wr.ownsRow B 3 1 gv gone.length (iv gone)
  s1 : ∀ x, nv.ownBlock = some x → B ≤ x ∧ x ≠ nb ∧ x ≠ kb ∧ gv.ownBlock ≠ some x
  s2 : gv.ownBlock ≠ some nb ∧ gv.ownBlock ≠ some kb
  hw : Below w.heap.size w wr
theorem setCell_other {w : World} {a : Addr} {v : Value} {k : Nat} (h : k ≠ a.block) : (w.setCell a v).heap[k]? = w.heap[k]? := heap_setCell_other w a k v h
theorem owns_keep {w w' : World} {B e n : Nat} {v : Value} {xs : List Value} (h : w.ownsRow B e 1 v n xs) (k : ∀ x, v.ownBlock = some x → w'.heap[x]? = w.heap[x]?) : w'.ownsRow B e 1 v n xs := by
  refine ⟨h.1, ?_⟩
  rcases h.2 with h | ⟨g, cap, cur, rfl, h2, h3, h4⟩
  · exact .inl h
  · exact .inr ⟨g, cap, cur, rfl, h2, (k g rfl).trans h3, h4⟩
/-- a field of the group is set -/
theorem FI.set {w wr : World} {B nb kb : Nat} {cs : Array Value} {now gone : List Int} {nv gv : Value} (h : FI w wr B nb kb cs now gone nv gv) (o : Nat) (ho : o < cs.size) (v : Value) :
    FI w (wr.setCell ⟨w.heap.size, o, none⟩ v) B nb kb (cs.setIfInBounds o v) now gone nv gv := by
  have hB := h.hB
  have kk : ∀ x, x ≠ w.heap.size → (wr.setCell ⟨w.heap.size, o, none⟩ v).heap[x]? = wr.heap[x]? := fun x hx => setCell_other hx
  have n1 := h.hNB
  have n2 := h.hKB
  have hg : ∀ x, gv.ownBlock = some x → B ≤ x := fun x hx => ((NW.owns h.hgone).2.2 x hx).1
  refine ⟨h.hE.set o ho v, h.hR.of_block (kk _ (by omega)), hB, by simpa using h.hBs, ?_, by simpa using h.hnf, ?_, by simpa using h.hkf, n1, n2, h.hne, h.hnow.keep (by simp) (fun x hx _ => kk x (by have := (h.s1 x hx).1; omega)), owns_keep h.hgone (fun x hx => kk x (by have := hg x hx; omega)), h.s1, h.s2, h.hw.setCell (Nat.le_refl _) _⟩
  · exact (World.cell?_of_block (a := ⟨nb, 0, none⟩) (kk nb (by omega))).trans h.hn
  · exact (World.cell?_of_block (a := ⟨kb, 0, none⟩) (kk kb (by omega))).trans h.hk
theorem FI.alloc {w wr : World} {B nb kb : Nat} {cs : Array Value} {now gone : List Int} {nv gv : Value} (h : FI w wr B nb kb cs now gone nv gv) {w' : World} (G : wr.grownBy w' none) :
    FI w w' B nb kb cs now gone nv gv := by
  have kk : ∀ x, x < wr.heap.size → w'.heap[x]? = wr.heap[x]? := fun x hx => G.block x hx (by simp)
  have l1 := World.block_lt_of_cell? wr _ h.hn
  have l2 := World.block_lt_of_cell? wr _ h.hk
  simp only at l1 l2
  have hB := h.hB
  have hBs := h.hBs
  have hg : ∀ x, gv.ownBlock = some x → x < wr.heap.size := fun x hx => ((NW.owns h.hgone).2.2 x hx).2
  exact ⟨h.hE.of_block (kk _ (by omega)) G.size, h.hR.of_block (kk _ (by omega)), hB, Nat.le_trans hBs G.size, (World.cell?_of_block (a := ⟨nb, 0, none⟩) (kk nb l1)).trans h.hn, (World.frozen?_of_block (a := ⟨nb, 0, none⟩) (kk nb l1)).trans h.hnf, (World.cell?_of_block (a := ⟨kb, 0, none⟩) (kk kb l2)).trans h.hk, (World.frozen?_of_block (a := ⟨kb, 0, none⟩) (kk kb l2)).trans h.hkf, h.hNB, h.hKB, h.hne, h.hnow.keep G.size (fun x _ hx => kk x hx), owns_keep h.hgone (fun x hx => kk x (hg x hx)), h.s1, h.s2, h.hw.trans ⟨G.os, G.tape, G.output, G.size, fun x hx => kk x (by omega)⟩⟩
/-- the new slice is put into the cell of now -/
theorem FI.put {w wr : World} {B nb kb : Nat} {cs : Array Value} {now gone now' : List Int} {nv gv nv' : Value} (h : FI w wr B nb kb cs now gone nv gv) (hN : NW wr nv' now') (hs : ∀ x, nv'.ownBlock = some x → B ≤ x ∧ x ≠ nb ∧ x ≠ kb ∧ gv.ownBlock ≠ some x) :
    FI w (wr.setCell ⟨nb, 0, none⟩ nv') B nb kb cs now' gone nv' gv := by
  have kk : ∀ x, x ≠ nb → (wr.setCell ⟨nb, 0, none⟩ nv').heap[x]? = wr.heap[x]? := fun x hx => setCell_other hx
  have hB := h.hB
  have hNB := h.hNB
  exact ⟨h.hE.of_block (kk _ (by omega)) (by simp), h.hR.of_block (kk _ (by omega)), hB, by simpa using h.hBs, World.cell?_setCell_same' _ _ _ (by rw [h.hn]; rfl), by simpa using h.hnf, (World.cell?_of_block (a := ⟨kb, 0, none⟩) (kk kb h.hne)).trans h.hk, by simpa using h.hkf, hNB, h.hKB, h.hne, hN.keep (by simp) (fun x hx _ => kk x (hs x hx).2.1), owns_keep h.hgone (fun x hx => kk x (fun e => h.s2.1 (e ▸ hx))), hs, h.s2, h.hw.setCell (by show w.heap.size ≤ nb; omega) _⟩
/-- fold's closure, over what is kept -/
theorem FI.drop {w wr : World} {B nb kb : Nat} {cs : Array Value} {now gone : List Int} {nv gv : Value} (h : FI w wr B nb kb cs now gone nv gv) (k : Nat) (kI : Int) (hkI : kI = k) (hk : 0 < k) (hkn : k < now.length) (hz : now.length ≤ 1000) (hzg : gone.length ≤ 100000) :
    Calls Tryz.prog 33 #[.int .i64 kI, .pointer (some ⟨kb, 0, none⟩), .pointer (some ⟨nb, 0, none⟩)] wr fun e w' => e = .returned (.tuple #[]) ∧ ∃ nv' gv', FI w w' B nb kb cs (now.drop k) (gone ++ now.take k) nv' gv' := by
  subst hkI
  have h0 := h
  obtain ⟨a, c, rfl, h1, h2⟩ := h.hnow
  rcases h2 with ⟨_, rfl, _⟩ | ⟨b, o, rfl, hb, hc⟩
  · simp at hkn
  have hB := h.hB
  have hBs := h.hBs
  have l1 := World.block_lt_of_cell? wr _ h.hn
  have l2 := World.block_lt_of_cell? wr _ h.hk
  simp only at l1 l2
  obtain ⟨b1, b2, b3, b4⟩ := h.s1 b rfl
  refine (ge_drop kb nb b o k c B gone.length gv now gone wr hk hkn h1 hz hzg h.hk h.hn h.hkf h.hnf hc h.hgone hBs h.hne l2 l1 h.s2.2 h.s2.1).mono ?_
  rintro e w' ⟨rfl, g, cg, w1, hO, hG, hat, rfl⟩
  have kk : ∀ x, x < wr.heap.size → gv.ownBlock ≠ some x → x ≠ kb → x ≠ nb → ((w1.setCell ⟨kb, 0, none⟩ (.slice (some ⟨g, 0, none⟩) (gone.length + k) cg)).setCell ⟨nb, 0, none⟩ (.slice (some ⟨b, o + k, none⟩) (now.length - k) (c - k))).heap[x]? = wr.heap[x]? := fun x hx h1 h2 h3 => by
    rw [setCell_other h3, setCell_other h2]; exact hG.block x hx (fun e => h1 e.symm)
  have hg : ∀ x, gv.ownBlock = some x → B ≤ x ∧ x < wr.heap.size := fun x hx => (NW.owns h.hgone).2.2 x hx
  have hgne : ∀ x, x < wr.heap.size → gv.ownBlock ≠ some x → g ≠ x := fun x hx h1 e => by
    rcases hat with h2 | h2
    · exact h1 (e ▸ h2)
    · omega
  have hg0 : gv.ownBlock ≠ some w.heap.size := fun e => by have := (hg _ e).1; omega
  have hg1 : gv.ownBlock ≠ some (w.heap.size + 1) := fun e => by have := (hg _ e).1; omega
  have n1 := h.hNB
  have n2 := h.hKB
  have hgb : B ≤ g := by
    rcases hat with h2 | h2
    · exact (hg g h2).1
    · omega
  have m1 : w1.cell? ⟨kb, 0, none⟩ = some gv := hG.cell h.hk (fun e => h.s2.2 e.symm)
  have m2 : w1.cell? ⟨nb, 0, none⟩ = some (.slice (some ⟨b, o, none⟩) now.length c) := hG.cell h.hn (fun e => h.s2.1 e.symm)
  have hlen : (now.drop k).length = now.length - k := List.length_drop
  have hlen2 : (gone ++ now.take k).length = gone.length + k := by rw [List.length_append, List.length_take]; omega
  have hgs : wr.heap.size ≤ w1.heap.size := hG.size
  refine ⟨rfl, .slice (some ⟨b, o + k, none⟩) (now.length - k) (c - k), .slice (some ⟨g, 0, none⟩) (gone.length + k) cg, ?_⟩
  refine ⟨h.hE.of_block (kk _ (by omega) hg0 (by omega) (by omega)) (by simp; omega), h.hR.of_block (kk _ (by omega) hg1 (by omega) (by omega)), hB, by simp; omega, ?_, ?_, ?_, ?_, n1, n2, h.hne, ?_, ?_, ?_, ?_, ?_⟩
  · exact World.cell?_setCell_same' _ _ _ (by rw [World.cell?_of_block (a := ⟨nb, 0, none⟩) (setCell_other (fun e => h.hne e.symm)), m2]; rfl)
  · have := (World.frozen?_of_block (a := ⟨nb, 0, none⟩) (hG.block nb l1 (fun e => h.s2.1 e.symm))).trans h.hnf
    simpa using this
  · rw [World.cell?_of_block (a := ⟨kb, 0, none⟩) (setCell_other h.hne)]
    exact World.cell?_setCell_same' _ _ _ (by rw [m1]; rfl)
  · have := (World.frozen?_of_block (a := ⟨kb, 0, none⟩) (hG.block kb l2 (fun e => h.s2.2 e.symm))).trans h.hkf
    simpa using this
  · refine ⟨_, _, by rw [hlen], by rw [hlen]; omega, .inr ⟨b, o + k, rfl, by simp; omega, fun j hj => ?_⟩⟩
    rw [List.length_drop] at hj
    rw [World.cell?_of_block (a := ⟨b, o + k + j, none⟩) (kk b hb b4 b3 b2), Nat.add_assoc, hc (k + j) (by omega)]
    simp
  · rw [hlen2]
    exact owns_keep hO (fun x hx => by
      obtain rfl : g = x := by simpa [Value.ownBlock] using hx
      rw [setCell_other (hgne nb l1 h.s2.1), setCell_other (hgne kb l2 h.s2.2)])
  · intro x hx
    obtain rfl : b = x := by simpa [Value.ownBlock] using hx
    exact ⟨b1, b2, b3, fun e => hgne b hb b4 (by simpa [Value.ownBlock] using e)⟩
  · exact ⟨fun e => hgne nb l1 h.s2.1 (by simpa [Value.ownBlock] using e), fun e => hgne kb l2 h.s2.2 (by simpa [Value.ownBlock] using e)⟩
  · exact h.hw.trans ⟨hG.os, hG.tape, hG.output, by simpa using hgs, fun x hx => kk x (by omega) (fun e => by have := (hg _ e).1; omega) (by omega) (by omega)⟩
/-- the news of an append, and what it leaves -/
theorem FI.app {w wr w' : World} {B nb kb : Nat} {cs : Array Value} {now gone : List Int} {nv gv nv' : Value} {x : Int} (h : FI w wr B nb kb cs now gone nv gv) (hown : w'.ownsRow wr.heap.size 3 1 nv' (now.length + 1) (iv now ++ iv [x])) (G : wr.grownBy w' none) :
    FI w (w'.setCell ⟨nb, 0, none⟩ nv') B nb kb cs (now ++ [x]) gone nv' gv := by
  have e : iv now ++ iv [x] = iv (now ++ [x]) := by unfold iv; rw [List.map_append]
  rw [e] at hown
  obtain ⟨h1, h2, h3⟩ := NW.owns hown
  have l1 := World.block_lt_of_cell? wr _ h.hn
  have l2 := World.block_lt_of_cell? wr _ h.hk
  simp only at l1 l2
  have hg : ∀ x, gv.ownBlock = some x → x < wr.heap.size := fun x hx => ((NW.owns h.hgone).2.2 x hx).2
  exact (h.alloc G).put h1 (fun y hy => by
    have := h3 y hy
    have := h.hBs
    exact ⟨by omega, by omega, by omega, fun e => by have := hg y e; omega⟩)
end Go.Proofs.YtlkfhlgngkgflaaGreatDoor
