/- Contracts of package entry: the codec, one field: reading. -/
import Derived.Test.YtlkfhlgngkgflaaGreatDoorCoA
namespace Go.Proofs.YtlkfhlgngkgflaaGreatDoor
open Go.RowKit
set_option maxHeartbeats 800000
set_option maxRecDepth 4000
/-- a codec that reads -/
def CI (w : World) (c rb : Nat) : Prop := w.cell? ⟨c, 1, none⟩ = some (.pointer (some ⟨rb, 0, none⟩))
def clip (n : Nat) : Nat := if 1099511627776 < n then 1099511627777 else n
theorem clip_le (n : Nat) : clip n ≤ 1099511627777 := by unfold clip; split <;> omega
theorem RL.set {w : World} {rb : Nat} {s : List UInt8 × Nat} (h : RL w rb s) (p : Addr) (hne : p.block ≠ rb) (v : Value) : RL (w.setCell p v) rb s := by
  obtain ⟨b, h0, c0, c1, hf⟩ := h
  refine ⟨b, h0, ?_, ?_, fun o => ?_⟩
  · rw [World.cell?_setCell_other _ _ _ _ (by intro h; exact hne (by rw [h]))]; exact c0
  · rw [World.cell?_setCell_other _ _ _ _ (by intro h; exact hne (by rw [h]))]; exact c1
  · have := hf o; simpa using this
theorem ci_number (c rb : Nat) (p : Addr) (v : Value) (s : List UInt8 × Nat) (w : World) (hs : s.1.length ≤ 10000) (hC : CI w c rb) (hR : RL w rb s) (hrb : rb < w.heap.size) (hp : w.cell? p = some v) (hf : w.frozen? p = false) (hpb : p.block < w.heap.size) (hne : p.block ≠ rb) :
    Calls Tryz.prog 66 #[.pointer (some ⟨c, 0, none⟩), .pointer (some p)] w fun e w' => e = .returned (.tuple #[]) ∧ ∃ w1, RL w1 rb (Rd.num s).2 ∧ w.grownBy w1 (some rb) ∧ w' = w1.setCell p (.int .i64 (clip (Rd.num s).1)) := by
  have hc := rd_number rb s w hs hrb hR
  have hlt := Rd.num_lt s
  unfold CI at hC
  have hG2 : ∀ w1, w.grownBy w1 (some rb) → w1.cell? p = some v ∧ w1.frozen? p = false := fun w1 hG => by
    have k := hG.block p.block hpb (by intro h; exact hne (Option.some.inj h))
    exact ⟨(World.cell?_of_block k).trans hp, (World.frozen?_of_block k).trans hf⟩
  have HG2 := Lib.hid hG2
  clear hG2
  generalize Rd.num s = r at hc hlt ⊢
  obtain ⟨x, s'⟩ := r
  simp only at hc hlt ⊢
  by_cases h : 1099511627776 < x
  · have e1 : decide ((1099511627776 : Int) < (x : Int)) = true := by simp; omega
    rw [show clip x = 1099511627777 by unfold clip; rw [if_pos h]]
    clear hlt
    go_enter Tryz.func66, Tryz.ntmps66
    go_wp2_with ((with_reducible refine hc.mono ?_); rintro e w1 ⟨rfl, hR', hG⟩; obtain ⟨q0, q1⟩ := HG2.out w1 hG; have HG := Lib.hid hG; clear hG)
    go_end0
    exact ⟨rfl, _, hR', HG.out, rfl⟩
  · have e1 : decide ((1099511627776 : Int) < (x : Int)) = false := by simp; omega
    have hi : IntKind.i64.wrap (x : Int) = (x : Int) := IntWalk.i64_in _ ⟨by omega, by omega⟩
    rw [show clip x = x by unfold clip; rw [if_neg h]]
    clear hlt
    go_enter Tryz.func66, Tryz.ntmps66
    go_wp2_with ((with_reducible refine hc.mono ?_); rintro e w1 ⟨rfl, hR', hG⟩; obtain ⟨q0, q1⟩ := HG2.out w1 hG; have HG := Lib.hid hG; clear hG)
    go_end0
    exact ⟨rfl, _, hR', HG.out, rfl⟩
theorem ci_truth (c rb : Nat) (p : Addr) (v : Value) (s : List UInt8 × Nat) (w : World) (hs : s.1.length ≤ 10000) (hC : CI w c rb) (hR : RL w rb s) (hrb : rb < w.heap.size) (hp : w.cell? p = some v) (hf : w.frozen? p = false) (hpb : p.block < w.heap.size) (hne : p.block ≠ rb) :
    Calls Tryz.prog 54 #[.pointer (some ⟨c, 0, none⟩), .pointer (some p)] w fun e w' => e = .returned (.tuple #[]) ∧ ∃ w1, RL w1 rb (Rd.boo s).2 ∧ w.grownBy w1 (some rb) ∧ w' = w1.setCell p (.bool (Rd.boo s).1) := by
  have hc := rd_bool rb s w hs hrb hR
  unfold CI at hC
  have hG2 : ∀ w1, w.grownBy w1 (some rb) → w1.cell? p = some v ∧ w1.frozen? p = false := fun w1 hG => by
    have k := hG.block p.block hpb (by intro h; exact hne (Option.some.inj h))
    exact ⟨(World.cell?_of_block k).trans hp, (World.frozen?_of_block k).trans hf⟩
  have HG2 := Lib.hid hG2
  clear hG2
  generalize Rd.boo s = r at hc ⊢
  obtain ⟨x, s'⟩ := r
  simp only at hc ⊢
  go_enter Tryz.func54, Tryz.ntmps54
  go_wp2_with ((with_reducible refine hc.mono ?_); rintro e w1 ⟨rfl, hR', hG⟩; obtain ⟨q0, q1⟩ := HG2.out w1 hG; have HG := Lib.hid hG; clear hG)
  go_end0
  exact ⟨rfl, _, hR', HG.out, rfl⟩
theorem ci_text (c rb : Nat) (p : Addr) (v : Value) (s : List UInt8 × Nat) (w : World) (hs : s.1.length ≤ 10000) (hC : CI w c rb) (hR : RL w rb s) (hrb : rb < w.heap.size) (hp : w.cell? p = some v) (hf : w.frozen? p = false) (hpb : p.block < w.heap.size) (hne : p.block ≠ rb) :
    Calls Tryz.prog 55 #[.pointer (some ⟨c, 0, none⟩), .pointer (some p)] w fun e w' => e = .returned (.tuple #[]) ∧ ∃ w1 t, Ds.bl t = (Rd.txt 200 s).1 ∧ RL w1 rb (Rd.txt 200 s).2 ∧ w.grownBy w1 (some rb) ∧ w' = w1.setCell p (.string t) := by
  have hc : Calls Tryz.prog 94 #[.pointer (some ⟨rb, 0, none⟩), .int .i64 200] w fun e w' => ∃ t, e = .returned (.string t) ∧ Ds.bl t = (Rd.txt 200 s).1 ∧ RL w' rb (Rd.txt 200 s).2 ∧ w.grownBy w' (some rb) := rd_text rb 200 s w hs hrb hR (by decide)
  unfold CI at hC
  have hG2 : ∀ w1, w.grownBy w1 (some rb) → w1.cell? p = some v ∧ w1.frozen? p = false := fun w1 hG => by
    have k := hG.block p.block hpb (by intro h; exact hne (Option.some.inj h))
    exact ⟨(World.cell?_of_block k).trans hp, (World.frozen?_of_block k).trans hf⟩
  have HG2 := Lib.hid hG2
  clear hG2
  generalize Rd.txt 200 s = r at hc ⊢
  obtain ⟨x, s'⟩ := r
  simp only at hc ⊢
  go_enter Tryz.func55, Tryz.ntmps55
  go_wp2_with ((with_reducible refine hc.mono ?_); rintro e w1 ⟨t, rfl, ht, hR', hG⟩; obtain ⟨q0, q1⟩ := HG2.out w1 hG; have HG := Lib.hid hG; have HT := Lib.hid ht; clear hG ht)
  go_end0
  exact ⟨rfl, _, t, HT.out, hR', HG.out, rfl⟩
end Go.Proofs.YtlkfhlgngkgflaaGreatDoor
