/- Contracts of package entry: the codec over the fields of one struct. -/
import Derived.Test.YtlkfhlgngkgflaaGreatDoorCoB
import Derived.Test.YtlkfhlgngkgflaaGreatDoorKit4
namespace Go.Proofs.YtlkfhlgngkgflaaGreatDoor
open Go.RowKit
set_option maxHeartbeats 800000
set_option maxRecDepth 4000
/-- but for two blocks all is as it was -/
structure G2 (w w' : World) (a b : Nat) : Prop where
  os : w'.os = w.os
  tape : w'.tape = w.tape
  output : w'.output = w.output
  size : w.heap.size ≤ w'.heap.size
  block : ∀ k, k < w.heap.size → k ≠ a → k ≠ b → w'.heap[k]? = w.heap[k]?
theorem G2.refl (w : World) (a b : Nat) : G2 w w a b := ⟨rfl, rfl, rfl, Nat.le_refl _, fun _ _ _ _ => rfl⟩
theorem G2.trans {w w' w'' : World} {a b : Nat} (h : G2 w w' a b) (k : G2 w' w'' a b) : G2 w w'' a b :=
  ⟨k.os.trans h.os, k.tape.trans h.tape, k.output.trans h.output, Nat.le_trans h.size k.size, fun i hi ha hb => (k.block i (Nat.lt_of_lt_of_le hi h.size) ha hb).trans (h.block i hi ha hb)⟩
theorem G2.of_grown {w w' : World} {a : Nat} (h : w.grownBy w' (some a)) (b : Nat) : G2 w w' a b :=
  ⟨h.os, h.tape, h.output, h.size, fun i hi ha _ => h.block i hi (by intro e; exact ha (Option.some.inj e))⟩
theorem G2.set {w w' : World} {a b : Nat} (h : G2 w w' a b) (o : Nat) (v : Value) : G2 w (w'.setCell ⟨b, o, none⟩ v) a b :=
  h.trans (by
    have g := grown_setCell w' ⟨b, o, none⟩ v
    exact ⟨g.os, g.tape, g.output, g.size, fun i hi _ hb => g.block i hi (by intro e; exact hb (Option.some.inj e))⟩)
theorem G2.below {w w' : World} {a b B : Nat} (h : G2 w w' a b) (ha : B ≤ a) (hb : B ≤ b) (hw : B ≤ w.heap.size) : Below B w w' :=
  ⟨h.os, h.tape, h.output, h.size, fun i hi => h.block i (by omega) (by omega) (by omega)⟩
theorem G2.cell {w w' : World} {a b : Nat} (h : G2 w w' a b) {p : Addr} (hp : p.block < w.heap.size) (ha : p.block ≠ a) (hb : p.block ≠ b) : w'.cell? p = w.cell? p := World.cell?_of_block (h.block _ hp ha hb)
theorem grown_below {w w' : World} {a B : Nat} (h : w.grownBy w' (some a)) (ha : B ≤ a) (hw : B ≤ w.heap.size) : Below B w w' :=
  ⟨h.os, h.tape, h.output, h.size, fun i hi => h.block i (by omega) (by intro e; have := Option.some.inj e; omega)⟩
/-- a struct of these cells, to be written -/
def EB (w : World) (g : Nat) (cs : Array Value) : Prop := row w g = cs ∧ (∀ o, w.frozen? ⟨g, o, none⟩ = false) ∧ g < w.heap.size
theorem EB.cell {w : World} {g : Nat} {cs : Array Value} (h : EB w g cs) (o : Nat) (v : Value) (hv : cs[o]? = some v) : w.cell? ⟨g, o, none⟩ = some v := cell_row h.1 o v hv
theorem EB.of_block {w w' : World} {g : Nat} {cs : Array Value} (h : EB w g cs) (k : w'.heap[g]? = w.heap[g]?) (hs : w.heap.size ≤ w'.heap.size) : EB w' g cs :=
  ⟨by have := h.1; unfold row at *; rw [k]; exact this, fun o => (World.frozen?_of_block (a := ⟨g, o, none⟩) k).trans (h.2.1 o), Nat.lt_of_lt_of_le h.2.2 hs⟩
theorem row_setCell (w : World) (g o : Nat) (v : Value) (cs : Array Value) (h : row w g = cs) (ho : o < cs.size) : row (w.setCell ⟨g, o, none⟩ v) g = cs.setIfInBounds o v := by
  unfold row at h
  rcases hb : w.heap[g]? with _ | ob
  · rw [hb] at h; subst h; simp at ho
  · rw [hb] at h
    cases ob with
    | cells c t fr =>
      simp only at h
      subst h
      rw [setCell_eq_setRow w g o c t fr v hb]
      exact row_of (setRow_heap w g c _ t fr hb)
    | _ => simp only at h; subst h; simp at ho
theorem EB.set {w : World} {g : Nat} {cs : Array Value} (h : EB w g cs) (o : Nat) (ho : o < cs.size) (v : Value) : EB (w.setCell ⟨g, o, none⟩ v) g (cs.setIfInBounds o v) :=
  ⟨row_setCell w g o v cs h.1 ho, fun o' => by have := h.2.1 o'; simpa using this, by simpa using h.2.2⟩
/-- writing the struct in block g -/
def WS (w : World) (c g : Nat) (l : List UInt8) (cs : Array Value) : Prop := CL w c l ∧ EB w g cs ∧ c ≠ g ∧ c < w.heap.size
/-- reading the struct in block g -/
def RS (w : World) (c rb g : Nat) (s : List UInt8 × Nat) (cs : Array Value) : Prop := CI w c rb ∧ RL w rb s ∧ EB w g cs ∧ c ≠ rb ∧ c ≠ g ∧ rb ≠ g ∧ c < w.heap.size ∧ rb < w.heap.size
theorem WS.grown {w w' : World} {c g : Nat} {l l' : List UInt8} {cs : Array Value} (h : WS w c g l cs) (G : w.grownBy w' (some c)) (hl : CL w' c l') : WS w' c g l' cs :=
  ⟨hl, h.2.1.of_block (G.block g h.2.1.2.2 (by intro e; exact h.2.2.1 (Option.some.inj e).symm)) G.size, h.2.2.1, Nat.lt_of_lt_of_le h.2.2.2 G.size⟩
theorem WS.below {w w' : World} {c g : Nat} {l : List UInt8} {cs : Array Value} (h : WS w c g l cs) (G : Below w.heap.size w w') : WS w' c g l cs :=
  ⟨h.1.below G h.2.2.2, h.2.1.of_block (G.block g h.2.1.2.2) G.size, h.2.2.1, Nat.lt_of_lt_of_le h.2.2.2 G.size⟩
theorem RS.below {w w' : World} {c rb g : Nat} {s : List UInt8 × Nat} {cs : Array Value} (h : RS w c rb g s cs) (G : Below w.heap.size w w') : RS w' c rb g s cs := by
  obtain ⟨h1, h2, h3, h4, h5, h6, h7, h8⟩ := h
  exact ⟨(G.cell (p := ⟨c, 1, none⟩) h7).trans h1, h2.below G h8, h3.of_block (G.block g h3.2.2) G.size, h4, h5, h6, Nat.lt_of_lt_of_le h7 G.size, Nat.lt_of_lt_of_le h8 G.size⟩
theorem RS.after {w w1 : World} {c rb g : Nat} {s s' : List UInt8 × Nat} {cs : Array Value} (h : RS w c rb g s cs) (hR : RL w1 rb s') (G : w.grownBy w1 (some rb)) (o : Nat) (ho : o < cs.size) (v : Value) :
    RS (w1.setCell ⟨g, o, none⟩ v) c rb g s' (cs.setIfInBounds o v) ∧ G2 w (w1.setCell ⟨g, o, none⟩ v) rb g := by
  obtain ⟨h1, h2, h3, h4, h5, h6, h7, h8⟩ := h
  have hEB := (h3.of_block (G.block g h3.2.2 (by intro e; exact h6 (Option.some.inj e).symm)) G.size).set o ho v
  refine ⟨⟨?_, hR.set _ (fun e => h6 e.symm) _, hEB, h4, h5, h6, by have := G.size; simp; omega, by have := G.size; simp; omega⟩, (G2.of_grown G g).set o v⟩
  unfold CI
  rw [World.cell?_setCell_other _ _ _ _ (by intro h; cases h; exact h5 rfl)]
  exact (World.cell?_of_block (a := ⟨c, 1, none⟩) (G.block c h7 (by intro e; exact h4 (Option.some.inj e)))).trans h1
theorem get_lt {cs : Array Value} {o : Nat} {v : Value} (h : cs[o]? = some v) : o < cs.size := by
  rcases Nat.lt_or_ge o cs.size with h1 | h1
  · exact h1
  · rw [Array.getElem?_eq_none h1] at h; cases h
theorem ws_number (c g o n : Nat) (l : List UInt8) (cs : Array Value) (w : World) (h : WS w c g l cs) (hs : l.length ≤ 10000) (hn : n < 9223372036854775808) (hv : cs[o]? = some (.int .i64 n)) :
    Calls Tryz.prog 66 #[.pointer (some ⟨c, 0, none⟩), .pointer (some ⟨g, o, none⟩)] w fun e w' => e = .returned (.tuple #[]) ∧ WS w' c g (l ++ Wi.enc n) cs ∧ w.grownBy w' (some c) :=
  (co_number c ⟨g, o, none⟩ n l w hs hn h.1 (h.2.1.cell o _ hv) h.2.2.2).mono fun _ _ ⟨he, hl, G⟩ => ⟨he, h.grown G hl, G⟩
theorem ws_truth (c g o : Nat) (y : Bool) (l : List UInt8) (cs : Array Value) (w : World) (h : WS w c g l cs) (hs : l.length ≤ 10000) (hv : cs[o]? = some (.bool y)) :
    Calls Tryz.prog 54 #[.pointer (some ⟨c, 0, none⟩), .pointer (some ⟨g, o, none⟩)] w fun e w' => e = .returned (.tuple #[]) ∧ WS w' c g (l ++ [tb y]) cs ∧ w.grownBy w' (some c) :=
  (co_truth c ⟨g, o, none⟩ y l w hs h.1 (h.2.1.cell o _ hv) h.2.2.2).mono fun _ _ ⟨he, hl, G⟩ => ⟨he, h.grown G hl, G⟩
theorem ws_text (c g o : Nat) (x : ByteArray) (l : List UInt8) (cs : Array Value) (w : World) (h : WS w c g l cs) (hs : l.length ≤ 10000) (hx : x.size ≤ 10000) (hv : cs[o]? = some (.string x)) :
    Calls Tryz.prog 55 #[.pointer (some ⟨c, 0, none⟩), .pointer (some ⟨g, o, none⟩)] w fun e w' => e = .returned (.tuple #[]) ∧ WS w' c g (l ++ (Wi.enc x.size ++ Ds.bl x)) cs ∧ w.grownBy w' (some c) :=
  (co_text c ⟨g, o, none⟩ x l w hs hx h.1 (h.2.1.cell o _ hv) h.2.2.2).mono fun _ _ ⟨he, hl, G⟩ => ⟨he, h.grown G hl, G⟩
theorem rs_number (c rb g o : Nat) (v : Value) (s : List UInt8 × Nat) (cs : Array Value) (w : World) (h : RS w c rb g s cs) (hs : s.1.length ≤ 10000) (hv : cs[o]? = some v) :
    Calls Tryz.prog 66 #[.pointer (some ⟨c, 0, none⟩), .pointer (some ⟨g, o, none⟩)] w fun e w' => e = .returned (.tuple #[]) ∧ RS w' c rb g (Rd.num s).2 (cs.setIfInBounds o (.int .i64 (clip (Rd.num s).1))) ∧ G2 w w' rb g :=
  (ci_number c rb ⟨g, o, none⟩ v s w hs h.1 h.2.1 h.2.2.2.2.2.2.2 (h.2.2.1.cell o _ hv) (h.2.2.1.2.1 o) h.2.2.1.2.2 (fun e => h.2.2.2.2.2.1 e.symm)).mono fun _ _ ⟨he, w1, hR, G, hw⟩ => by
    subst hw; exact ⟨he, h.after hR G o (get_lt hv) _⟩
theorem rs_truth (c rb g o : Nat) (v : Value) (s : List UInt8 × Nat) (cs : Array Value) (w : World) (h : RS w c rb g s cs) (hs : s.1.length ≤ 10000) (hv : cs[o]? = some v) :
    Calls Tryz.prog 54 #[.pointer (some ⟨c, 0, none⟩), .pointer (some ⟨g, o, none⟩)] w fun e w' => e = .returned (.tuple #[]) ∧ RS w' c rb g (Rd.boo s).2 (cs.setIfInBounds o (.bool (Rd.boo s).1)) ∧ G2 w w' rb g :=
  (ci_truth c rb ⟨g, o, none⟩ v s w hs h.1 h.2.1 h.2.2.2.2.2.2.2 (h.2.2.1.cell o _ hv) (h.2.2.1.2.1 o) h.2.2.1.2.2 (fun e => h.2.2.2.2.2.1 e.symm)).mono fun _ _ ⟨he, w1, hR, G, hw⟩ => by
    subst hw; exact ⟨he, h.after hR G o (get_lt hv) _⟩
theorem rs_text (c rb g o : Nat) (v : Value) (s : List UInt8 × Nat) (cs : Array Value) (w : World) (h : RS w c rb g s cs) (hs : s.1.length ≤ 10000) (hv : cs[o]? = some v) :
    Calls Tryz.prog 55 #[.pointer (some ⟨c, 0, none⟩), .pointer (some ⟨g, o, none⟩)] w fun e w' => e = .returned (.tuple #[]) ∧ RS w' c rb g (Rd.txt 200 s).2 (cs.setIfInBounds o (.string ⟨(Rd.txt 200 s).1.toArray⟩)) ∧ G2 w w' rb g :=
  (ci_text c rb ⟨g, o, none⟩ v s w hs h.1 h.2.1 h.2.2.2.2.2.2.2 (h.2.2.1.cell o _ hv) (h.2.2.1.2.1 o) h.2.2.1.2.2 (fun e => h.2.2.2.2.2.1 e.symm)).mono fun _ _ ⟨he, w1, t, ht, hR, G, hw⟩ => by
    subst hw; rw [← ht, Ds.mk_bl]; exact ⟨he, h.after hR G o (get_lt hv) _⟩
end Go.Proofs.YtlkfhlgngkgflaaGreatDoor
