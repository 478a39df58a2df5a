/- Contracts of package entry: the fields of a data set, read. Printed by wip/mkfoe.py. -/
import Derived.Test.YtfmjeppajpiekaaGreatDoorFoD
import Derived.Laws.OwnMore
import Derived.OwnWalk
namespace Go.Proofs.YtfmjeppajpiekaaGreatDoor
open Go.RowKit
set_option maxHeartbeats 1600000
set_option maxRecDepth 8000
def setD (e : En) (f : Nat → Int) : En := { e with d0 := f 0, d1 := f 1, d2 := f 2, d3 := f 3, d4 := f 4, d5 := f 5, d6 := f 6, d7 := f 7, d8 := f 8, d9 := f 9, d10 := f 10, d11 := f 11, d12 := f 12, d13 := f 13 }
/-- the reader after so many numbers -/
def sq (s : List UInt8 × Nat) : Nat → List UInt8 × Nat
  | 0 => s
  | k + 1 => (Rd.num (sq s k)).2
theorem sq_len (s : List UInt8 × Nat) : ∀ k, (sq s k).1.length ≤ s.1.length
  | 0 => Nat.le_refl _
  | k + 1 => Nat.le_trans (Rd.num_len _) (sq_len s k)
/-- these numbers -/
def nq (s : List UInt8 × Nat) (k : Nat) : Int := (clip (Rd.num (sq s k)).1 : Nat)
theorem rdNums14 (s : List UInt8 × Nat) (e : En) (al gr : Value) : rdNums os14 s (e.vals al gr) = ((setD e (nq s)).vals al gr, sq s 14) := by
  simp only [os14, rdNums, set_2, set_3, set_4, set_5, set_6, set_7, set_8, set_9, set_10, set_11, set_12, set_13, set_14, set_15]
  rfl
/-- a list of numbers -/
def rdN (s : List UInt8 × Nat) : Nat → List Int × (List UInt8 × Nat)
  | 0 => ([], s)
  | k + 1 => ((rdN s k).1 ++ [((clip (Rd.num (rdN s k).2).1 : Nat) : Int)], (Rd.num (rdN s k).2).2)
theorem rdN_len (s : List UInt8 × Nat) : ∀ k, (rdN s k).1.length = k
  | 0 => rfl
  | k + 1 => by rw [rdN, List.length_append, rdN_len s k]; rfl
theorem rdN_sq (s : List UInt8 × Nat) : ∀ k, (rdN s k).2 = sq s k
  | 0 => rfl
  | k + 1 => by rw [rdN, sq, rdN_sq s k]
theorem rdN_get (s : List UInt8 × Nat) : ∀ n j, j < n → (rdN s n).1[j]? = some (nq s j)
  | n + 1, j, h => by
    rw [rdN]
    by_cases e : j < n
    · rw [List.getElem?_append_left (by rw [rdN_len]; exact e)]; exact rdN_get s n j e
    · obtain rfl : j = n := by omega
      rw [List.getElem?_append_right (by rw [rdN_len]; exact Nat.le_refl _), rdN_len, Nat.sub_self, rdN_sq]; rfl
/-- a block of numbers -/
def NB (w : World) (g n : Nat) (F : Nat → Int) : Prop := (∀ k, k < n → w.cell? ⟨g, k, none⟩ = some (.int .i64 (F k))) ∧ (∀ o, w.frozen? ⟨g, o, none⟩ = false) ∧ g < w.heap.size
theorem NB.grown {w w' : World} {g n : Nat} {F : Nat → Int} {row : Option Nat} (h : NB w g n F) (hg : w.grownBy w' row) (hr : some g ≠ row) : NB w' g n F := by
  have hb := hg.block g h.2.2 hr
  refine ⟨fun k hk => ?_, fun o => ?_, Nat.lt_of_lt_of_le h.2.2 hg.size⟩
  · rw [World.cell?_of_block (a := ⟨g, k, none⟩) hb]; exact h.1 k hk
  · rw [World.frozen?_of_block (a := ⟨g, o, none⟩) hb]; exact h.2.1 o
theorem NB.set {w : World} {g n : Nat} {F : Nat → Int} (h : NB w g n F) (c : Nat) (hc : c < n) (v : Int) : NB (w.setCell ⟨g, c, none⟩ (.int .i64 v)) g n (fun k => if k = c then v else F k) := by
  refine ⟨fun k hk => ?_, fun o => by have := h.2.1 o; simpa using this, by simpa using h.2.2⟩
  have h1 := h.1 k hk
  have h0 := h.1 c hc
  by_cases e : k = c
  · subst e; simp [go_sem, h0]
  · show _ = some (Value.int .i64 (if k = c then v else F k))
    rw [if_neg e, ← h1]
    have e' : c ≠ k := fun h => e h.symm
    have e'' : (c == k) = false := by simpa using e'
    simp [go_sem]
theorem NB.other {w : World} {g n : Nat} {F : Nat → Int} (h : NB w g n F) (g2 c : Nat) (hne : g ≠ g2) (v : Value) : NB (w.setCell ⟨g2, c, none⟩ v) g n F := by
  refine ⟨fun k hk => ?_, fun o => by have := h.2.1 o; simpa using this, by simpa using h.2.2⟩
  rw [← h.1 k hk]
  have e' : (g2 == g) = false := by simpa using fun h => hne h.symm
  simp [go_sem]
theorem NB.made {w : World} {B e g n : Nat} (h : w.ownsRow B e 1 (.slice (some ⟨g, 0, none⟩) n n) n (madeCells (Value.int .i64 0).cells (n * 1)).toList) (hn : 0 < n) : NB w g n (fun _ => 0) := by
  have hc : ∀ k, k < n → w.cell? ⟨g, k, none⟩ = some (.int .i64 0) := fun k hk => by
    rw [h.cellAt k (by omega)]
    show (madeCells #[Value.int .i64 0] (n * 1)).toList[k]? = _
    rw [toList_madeCells_one, List.getElem?_replicate, if_pos (by omega)]
  exact ⟨hc, fun o => h.frozenAt o, block_lt_of_cell (hc 0 hn)⟩
theorem NB.is {w : World} {g n : Nat} {F : Nat → Int} {l : List Int} (h : NB w g n F) (hl : l.length = n) (hn : n ≤ 1000000) (hF : ∀ j (hj : j < l.length), F j = l[j]) : IS w (.slice (some ⟨g, 0, none⟩) n n) l :=
  ⟨_, n, by rw [hl], by omega, fun _ => ⟨g, 0, rfl, h.2.2, fun k hk => by rw [Nat.zero_add, h.1 k (by omega), hF k hk]⟩⟩
theorem G2.far {w wr w1 : World} {rb g : Nat} {p : Addr} (h : G2 w wr rb g) (G : wr.grownBy w1 (some rb)) (hp : w.heap.size ≤ p.block) (v : Value) : G2 w (w1.setCell p v) rb g :=
  by
  have k := h.trans (G2.of_grown G g)
  have q := grown_setCell w1 p v
  exact ⟨q.os.trans k.os, q.tape.trans k.tape, q.output.trans k.output, Nat.le_trans k.size q.size, fun i hi ha hb => (heap_setCell_other w1 p i v (by omega)).trans (k.block i hi ha hb)⟩
theorem NB.g2 {w w' : World} {gb n a b : Nat} {F : Nat → Int} (h : NB w gb n F) (hg : G2 w w' a b) (ha : gb ≠ a) (hb : gb ≠ b) : NB w' gb n F := by
  have hb := hg.block gb h.2.2 ha hb
  refine ⟨fun k hk => ?_, fun o => ?_, Nat.lt_of_lt_of_le h.2.2 hg.size⟩
  · rw [World.cell?_of_block (a := ⟨gb, k, none⟩) hb]; exact h.1 k hk
  · rw [World.frozen?_of_block (a := ⟨gb, o, none⟩) hb]; exact h.2.1 o
theorem rdN_ix (s : List UInt8 × Nat) (k n : Nat) (L : List Int) (hL : L = (rdN s n).1) (hk : k = n) : ∀ j (hj : j < L.length), (fun j => if j < k then nq s j else 0) j = L[j] := fun j hj => by
  subst hL hk
  have h1 : j < k := by rw [rdN_len] at hj; exact hj
  have := rdN_get s k j h1
  rw [List.getElem?_eq_getElem hj] at this
  show (if j < k then nq s j else 0) = _
  rw [if_pos h1]
  exact (Option.some.inj this).symm
theorem d_made {w w8 w9 : World} {c rb g m : Nat} {S : List UInt8 × Nat} {E : En} {gr : Value} (h : RS w8 c rb g S (E.vals (.slice none 0 0) gr)) (hG : G2 w w8 rb g) (hown : w9.ownsRow w8.heap.size 3 1 (.slice (some ⟨w8.heap.size, 0, none⟩) m m) m (madeCells (Value.int .i64 0).cells (m * 1)).toList) (hgrow : w8.grownBy w9 none) (hm : 0 < m) :
    w9.frozen? ⟨g, 23, none⟩ = false ∧ w9.cell? ⟨g, 23, none⟩ = some (.slice none 0 0) ∧ RS (w9.setCell ⟨g, 23, none⟩ (.slice (some ⟨w8.heap.size, 0, none⟩) m m)) c rb g S (E.vals (.slice (some ⟨w8.heap.size, 0, none⟩) m m) gr) ∧ w.heap.size ≤ w8.heap.size ∧ NB (w9.setCell ⟨g, 23, none⟩ (.slice (some ⟨w8.heap.size, 0, none⟩) m m)) w8.heap.size m (fun _ => 0) ∧ G2 w (w9.setCell ⟨g, 23, none⟩ (.slice (some ⟨w8.heap.size, 0, none⟩) m m)) rb g := by
  have hg8 := h.2.2.1.2.2
  have G : w8.grownBy w9 (some rb) := ⟨hgrow.os, hgrow.tape, hgrow.output, hgrow.size, fun k hk _ => hgrow.block k hk (by simp)⟩
  have hb := hgrow.block g hg8 (by simp)
  have ha := h.after (h.2.1.grown hgrow h.2.2.2.2.2.2.2) G 23 (by rw [vals_size]; decide) (.slice (some ⟨w8.heap.size, 0, none⟩) m m)
  rw [set_23] at ha
  exact ⟨(World.frozen?_of_block (a := ⟨g, 23, none⟩) hb).trans (h.2.2.1.2.1 23), (World.cell?_of_block (a := ⟨g, 23, none⟩) hb).trans (h.2.2.1.cell 23 _ (vals_23 E _ gr)), ha.1, hG.size, (NB.made hown hm).other g 23 (by omega) _, hG.trans ha.2⟩
/-- one number more -/
theorem d_step {w wr w1 : World} {c rb g gb m k : Nat} {S7 : List UInt8 × Nat} {cs : Array Value} (h : RS wr c rb g (rdN S7 k).2 cs) (hc : c < w.heap.size) (hr : rb < w.heap.size) (hg : g < w.heap.size) (hB : w.heap.size ≤ gb) (hN : NB wr gb m (fun j => if j < k then nq S7 j else 0)) (hG : G2 w wr rb g) (hR : RL w1 rb (Rd.num (rdN S7 k).2).2) (G : wr.grownBy w1 (some rb)) (hk : k < m) :
    RS (w1.setCell ⟨gb, k, none⟩ (.int .i64 (clip (Rd.num (rdN S7 k).2).1))) c rb g (rdN S7 (k + 1)).2 cs ∧ NB (w1.setCell ⟨gb, k, none⟩ (.int .i64 (clip (Rd.num (rdN S7 k).2).1))) gb m (fun j => if j < k + 1 then nq S7 j else 0) ∧ G2 w (w1.setCell ⟨gb, k, none⟩ (.int .i64 (clip (Rd.num (rdN S7 k).2).1))) rb g := by
  refine ⟨h.far hR G ⟨gb, k, none⟩ (by show gb ≠ c; omega) (by show gb ≠ rb; omega) (by show gb ≠ g; omega) _, ?_, hG.far G hB _⟩
  have q := (hN.grown G (by intro e; have := Option.some.inj e; omega)).set k hk (clip (Rd.num (rdN S7 k).2).1 : Nat)
  have e : (fun j => if j = k then ((clip (Rd.num (rdN S7 k).2).1 : Nat) : Int) else (fun j => if j < k then nq S7 j else 0) j) = fun j => if j < k + 1 then nq S7 j else 0 := by
    funext j
    by_cases h1 : j = k
    · subst h1; rw [if_pos rfl, if_pos (by omega), rdN_sq]; rfl
    · rw [if_neg h1]
      by_cases h2 : j < k
      · rw [if_pos (by omega)]; exact if_pos h2
      · rw [if_neg (by omega)]; exact if_neg h2
  rw [e] at q
  exact q
theorem intInfo : (Tryz.prog.info? 3).map (fun i => (i.zero, i.size, i.bytes)) = some (some (.int .i64 0), 1, 8) := by kernel_rfl
def En.sUq (e : En) (x : Bool) : En := { e with uq := x }
def En.sCls (e : En) (x : Int) : En := { e with cls := x }
def En.sVol (e : En) (x : ByteArray) : En := { e with vol := x }
def En.sOwn (e : En) (x : ByteArray) : En := { e with own := x }
def En.sCE (e : En) (x y : Int) : En := { e with cr := x, ex := y }
def En.sAr (e : En) (x : Bool) : En := { e with ar := x }
def En.sUsed (e : En) (x : Int) : En := { e with used := x }
/-- a data set as it is read -/
def rdData (e : En) (s : List UInt8 × Nat) : En × List Int × (List UInt8 × Nat) :=
  let a := sq s 14
  let u := Rd.boo a
  let k := Rd.num u.2
  let v := Rd.txt 200 k.2
  let o := Rd.txt 200 v.2
  let q := sq o.2 2
  let ar := Rd.boo q
  let n := Rd.num ar.2
  let l := rdN n.2 (cntv 4 (clip n.1))
  let us := Rd.num l.2
  ((((((((setD e (nq s)).sUq u.1).sCls (clip k.1)).sVol ⟨v.1.toArray⟩).sOwn ⟨o.1.toArray⟩).sCE (nq o.2 0) (nq o.2 1)).sAr ar.1).sUsed (clip us.1), l.1, us.2)

end Go.Proofs.YtfmjeppajpiekaaGreatDoor
