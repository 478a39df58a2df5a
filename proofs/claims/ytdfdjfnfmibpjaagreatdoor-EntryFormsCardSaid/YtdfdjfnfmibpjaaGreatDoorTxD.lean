/- Contracts of package entry: the closures of Text, relative to the world behind its head. -/
import Derived.Test.YtdfdjfnfmibpjaaGreatDoorTxC
import Derived.Test.YtdfdjfnfmibpjaaGreatDoorTxP
import Derived.Test.YtdfdjfnfmibpjaaGreatDoorCalE
import Derived.Test.YtdfdjfnfmibpjaaGreatDoorDsW
import Derived.Test.YtdfdjfnfmibpjaaGreatDoorAcA
import Derived.Deep.RegionWith
import Derived.Deep.RegionHeld3
namespace Go.Proofs.YtdfdjfnfmibpjaaGreatDoor
open Go.RowKit
set_option maxHeartbeats 32000000
set_option maxRecDepth 8000
theorem TX.below {w w' : World} {base o g : Nat} {ts : List ByteArray} (h : TX w base o g ts) (hb : Below w.heap.size w w') : TX w' base o g ts := by
  obtain ⟨⟨cap, h1, h2⟩, h3, h4, h5, h6, h7⟩ := h
  exact ⟨⟨cap, (hb.cell (p := ⟨o, 0, none⟩) h4).trans h1, own_keep h2 (fun x hx => hb.block x (own_base h2 x hx).2)⟩, (hb.frozen (p := ⟨o, 0, none⟩) h4).trans h3, Nat.lt_of_lt_of_le h4 hb.size, h5, h6, h7⟩
/-- the lines so far, seen from the world W0 behind the head of Text -/
structure LX (V W0 : World) (o g0 : Nat) (w : World) (ts : List ByteArray) : Prop where
  tx : ∃ g, TX w V.heap.size o g ts ∧ (g = g0 ∨ W0.heap.size ≤ g)
  sz : W0.heap.size ≤ w.heap.size
  b : Below V.heap.size V w
  k : ∀ k, k < W0.heap.size → k ≠ o → k ≠ g0 → w.heap[k]? = W0.heap[k]?
theorem LX.start {V W0 : World} {o g0 : Nat} {ts : List ByteArray} (h : TX W0 V.heap.size o g0 ts) (hb : Below V.heap.size V W0) : LX V W0 o g0 W0 ts := ⟨⟨g0, h, Or.inl rfl⟩, Nat.le_refl _, hb, fun _ _ _ _ => rfl⟩
theorem LX.le {V W0 w : World} {o g0 : Nat} {ts : List ByteArray} (h : LX V W0 o g0 w ts) : V.heap.size ≤ w.heap.size := by
  obtain ⟨g, ⟨-, -, h4, h5, -⟩, -⟩ := h.tx
  omega
theorem LX.keep {V W0 w w' : World} {o g0 : Nat} {ts : List ByteArray} (h : LX V W0 o g0 w ts) (hb : Below w.heap.size w w') : LX V W0 o g0 w' ts := by
  obtain ⟨g, h1, h2⟩ := h.tx
  exact ⟨⟨g, h1.below hb, h2⟩, Nat.le_trans h.sz hb.size, h.b.trans (hb.mono h.le), fun k k1 k2 k3 => (hb.block k (Nat.lt_of_lt_of_le k1 h.sz)).trans (h.k k k1 k2 k3)⟩
theorem LX.cell {V W0 w : World} {o g0 : Nat} {ts : List ByteArray} (h : LX V W0 o g0 w ts) {b i : Nat} {s} (h1 : b < W0.heap.size) (h2 : b ≠ o) (h3 : b ≠ g0) : w.cell? ⟨b, i, s⟩ = W0.cell? ⟨b, i, s⟩ := World.cell?_of_block (a := ⟨b, i, s⟩) (h.k b h1 h2 h3)
/-- the closure that adds a line lies in the cell of block f -/
def LF (W0 : World) (o g0 f : Nat) : Prop := f < W0.heap.size ∧ f ≠ o ∧ f ≠ g0 ∧ W0.cell? ⟨f, 0, none⟩ = some (.func (.func 66) #[] #[.pointer (some ⟨o, 0, none⟩)])
theorem LX.fn {V W0 w : World} {o g0 f : Nat} {ts : List ByteArray} (h : LX V W0 o g0 w ts) (hf : LF W0 o g0 f) : w.cell? ⟨f, 0, none⟩ = some (.func (.func 66) #[] #[.pointer (some ⟨o, 0, none⟩)]) := (h.cell hf.1 hf.2.1 hf.2.2.1).trans hf.2.2.2
theorem tx_lineL {V W0 w : World} {o g0 : Nat} {ts : List ByteArray} (h : LX V W0 o g0 w ts) (word val : ByteArray) (hn : ts.length ≤ 1000) (hw : word.size ≤ 1000) (hv : val.size ≤ 1000) :
    Calls Tryz.prog 66 #[.string word, .string val, .pointer (some ⟨o, 0, none⟩)] w fun r w' => r = .returned (.tuple #[]) ∧ LX V W0 o g0 w' (ts ++ ln word val) := by
  obtain ⟨g, h1, h2⟩ := h.tx
  refine (tx_line V.heap.size o g ts word val w h1 h.le hn hw hv).mono ?_
  rintro r w' ⟨rfl, g', h3, h4, h5, h6⟩
  have hz := h.sz
  refine ⟨rfl, ⟨g', ?_, by rcases h4 with rfl | h4 <;> omega⟩, Nat.le_trans h.sz h5.size, h.b.trans h5, fun k k1 k2 k3 => (h6 k (by omega) k2 (by rcases h2 with rfl | h2 <;> omega)).trans (h.k k k1 k2 k3)⟩
  unfold ln lnB
  split at h3
  · rename_i e
    rw [if_pos e, List.append_nil]
    exact h3
  · rename_i e
    rw [if_neg e]
    exact h3
theorem itoa_len (n : Int) (h0 : 1 ≤ n) (h1 : n ≤ 1099511627776) : ∃ J, J ≤ 12 ∧ Lib.itoa n = Cal.ld n.toNat (J + 1) ∧ 10 ^ J ≤ n.toNat ∧ n.toNat < 10 ^ (J + 1) := by
  obtain ⟨J, j1, j2⟩ := dec_size n.toNat (by omega)
  have := itoa_ld J n.toNat j1 j2
  rw [Int.toNat_of_nonneg (by omega)] at this
  exact ⟨J, dec_le j1 (by omega), this, j1, j2⟩
theorem nmB_size (n : Int) (h0 : 0 ≤ n) (h1 : n ≤ 1099511627776) : (nmB n).size ≤ 13 := by
  unfold nmB
  split
  · decide
  · obtain ⟨J, j1, j2, -⟩ := itoa_len n (by omega) h1
    rw [j2]
    show (Cal.ld n.toNat (J + 1)).toArray.size ≤ 13
    rw [List.size_toArray, Cal.ld_length]; omega
theorem fmt_len (n : Int) : (Cal.fmt n).length ≤ 10 := by
  cases h : Cal.isDay n
  · rw [Cal.fmt_no n h]; decide
  · rw [Cal.fmt_yes n h]; simp [Cal.ld_length]
theorem dtB_size (n : Int) : (dtB n).size ≤ 10 := by
  unfold dtB
  split
  · decide
  · show (Cal.fmt n).toArray.size ≤ 10
    rw [List.size_toArray]; exact fmt_len n
theorem tx_num {V W0 w : World} {o g0 f : Nat} {ts : List ByteArray} (h : LX V W0 o g0 w ts) (hf : LF W0 o g0 f) (word : ByteArray) (n : Int) (hT : Tab V) (hn : ts.length ≤ 1000) (hw : word.size ≤ 1000) (h0 : 0 ≤ n) (h1 : n ≤ 1099511627776) :
    Calls Tryz.prog 67 #[.string word, .int .i64 n, .pointer (some ⟨f, 0, none⟩)] w fun r w' => r = .returned (.tuple #[]) ∧ LX V W0 o g0 w' (ts ++ ln word (nmB n)) := by
  have hfn := h.fn hf
  have hlt := Nat.lt_of_lt_of_le hf.1 h.sz
  have hTw : Tab w := hT.below h.b
  have HI := Lib.hid (fun W (b : Below w.heap.size w W) => itoa n W (by omega) (by omega) (hTw.below b))
  have hsz : (nmB n).size ≤ 1000 := Nat.le_trans (nmB_size n h0 h1) (by decide)
  have HL := Lib.hid (fun W (b : Below w.heap.size w W) => tx_lineL (h.keep b) word (nmB n) hn hw hsz)
  unfold nmB at HL ⊢
  by_cases e : n = 0
  · have t : (n != 0) = false := by rw [e]; rfl
    rw [if_pos e]
    have H := Lib.hid h
    clear HL HI hsz h e
    go_enter Tryz.func67, Tryz.ntmps67
    go_wp2_with fail
    go_end0
    exact ⟨rfl, by unfold ln; rw [if_pos (show (⟨#[]⟩ : ByteArray).size = 0 from rfl), List.append_nil]; exact H.out⟩
  · have t : (n != 0) = true := by rw [bne_iff_ne]; exact e
    rw [if_neg e] at HL ⊢
    clear hsz h e
    go_enter Tryz.func67, Tryz.ntmps67
    go_wp2_with fail
    go_region_with (first
      | (go_at_call 68; (with_reducible refine (HI.out _ (by first | exact Below.refl _ _ | exact belA)).mono ?_); rintro _ w1 ⟨rfl, hb⟩; have B1 := Lib.hid (show Below w.heap.size w w1 from (Below.refl w.heap.size w).drew.trans hb); have P1 := (hb.cell (p := ⟨f, 0, none⟩) hlt).trans hfn; clear hb)
      | (go_at_call 66; (with_reducible refine (HL.out _ B1.out).mono ?_); rintro _ w2 ⟨rfl, hL⟩))
    all_goals
      go_wp2_with fail
      go_end0
      exact ⟨rfl, hL⟩
theorem tx_date {V W0 w : World} {o g0 f : Nat} {ts : List ByteArray} (h : LX V W0 o g0 w ts) (hf : LF W0 o g0 f) (word : ByteArray) (n : Int) (hT : Tab V) (hn : ts.length ≤ 1000) (hw : word.size ≤ 1000) :
    Calls Tryz.prog 69 #[.string word, .int .i64 n, .pointer (some ⟨f, 0, none⟩)] w fun r w' => r = .returned (.tuple #[]) ∧ LX V W0 o g0 w' (ts ++ ln word (dtB n)) := by
  have hfn := h.fn hf
  have hlt := Nat.lt_of_lt_of_le hf.1 h.sz
  have hTw : Tab w := hT.below h.b
  have HI := Lib.hid (fun W (b : Below w.heap.size w W) => format_any n W (hTw.below b))
  have hsz : (dtB n).size ≤ 1000 := Nat.le_trans (dtB_size n) (by decide)
  have HL := Lib.hid (fun W (b : Below w.heap.size w W) => tx_lineL (h.keep b) word (dtB n) hn hw hsz)
  unfold dtB at HL ⊢
  by_cases e : n = 0
  · have t : (n != 0) = false := by rw [e]; rfl
    rw [if_pos e]
    have H := Lib.hid h
    clear HL HI hsz h e
    go_enter Tryz.func69, Tryz.ntmps69
    go_wp2_with fail
    go_end0
    exact ⟨rfl, by unfold ln; rw [if_pos (show (⟨#[]⟩ : ByteArray).size = 0 from rfl), List.append_nil]; exact H.out⟩
  · have t : (n != 0) = true := by rw [bne_iff_ne]; exact e
    rw [if_neg e] at HL ⊢
    clear hsz h e
    go_enter Tryz.func69, Tryz.ntmps69
    go_wp2_with fail
    go_region_with (first
      | (go_at_call 70; (with_reducible refine (HI.out _ (by first | exact Below.refl _ _ | exact belA)).mono ?_); rintro _ w1 ⟨rfl, hb⟩; have B1 := Lib.hid (show Below w.heap.size w w1 from (Below.refl w.heap.size w).drew.trans hb); have P1 := (hb.cell (p := ⟨f, 0, none⟩) hlt).trans hfn; clear hb)
      | (go_at_call 66; (with_reducible refine (HL.out _ B1.out).mono ?_); rintro _ w2 ⟨rfl, hL⟩))
    all_goals
      go_wp2_with fail
      go_end0
      exact ⟨rfl, hL⟩
theorem tx_yes {V W0 w : World} {o g0 f : Nat} {ts : List ByteArray} (h : LX V W0 o g0 w ts) (hf : LF W0 o g0 f) (word : ByteArray) (x : Bool) (hn : ts.length ≤ 1000) (hw : word.size ≤ 1000) :
    Calls Tryz.prog 71 #[.string word, .bool x, .pointer (some ⟨f, 0, none⟩)] w fun r w' => r = .returned (.tuple #[]) ∧ LX V W0 o g0 w' (ts ++ ln word (ysB x)) := by
  have hfn := h.fn hf
  have HL := Lib.hid (tx_lineL h word ⟨#[121, 101, 115]⟩ hn hw (by decide))
  cases x
  · have H := Lib.hid h
    clear HL h
    go_enter Tryz.func71, Tryz.ntmps71
    go_wp2_with fail
    go_end0
    exact ⟨rfl, by rw [show ln word (ysB false) = [] from rfl, List.append_nil]; exact H.out⟩
  · clear h
    go_enter Tryz.func71, Tryz.ntmps71
    go_wp2_with (go_at_call 66; (with_reducible refine (HL.out).mono ?_); rintro _ w2 ⟨rfl, hL⟩)
    go_end0
    exact ⟨rfl, hL⟩
end Go.Proofs.YtdfdjfnfmibpjaaGreatDoor
