/- Contracts of package entry: the codec, one field: writing and reading. -/
import Derived.Test.YtlkfhlgngkgflaaGreatDoorRdC
import Derived.Deep.RegionLaw
namespace Go.Proofs.YtlkfhlgngkgflaaGreatDoor
open Go.RowKit
set_option maxHeartbeats 800000
set_option maxRecDepth 4000
/-- a codec that writes -/
def CW (w : World) (c : Nat) (s : ByteArray) : Prop :=
  w.cell? ⟨c, 0, none⟩ = some (.string s) ∧ w.cell? ⟨c, 1, none⟩ = some (.pointer none) ∧ ∀ o, w.frozen? ⟨c, o, none⟩ = false
def CL (w : World) (c : Nat) (l : List UInt8) : Prop := ∃ s : ByteArray, Ds.bl s = l ∧ CW w c s
theorem CL.below {w w' : World} {c B : Nat} {l : List UInt8} (h : CL w c l) (g : Below B w w') (hb : c < B) : CL w' c l := by
  obtain ⟨b, h1, h2⟩ := h
  exact ⟨b, h1, (g.cell (p := ⟨c, 0, none⟩) hb).trans h2.1, (g.cell (p := ⟨c, 1, none⟩) hb).trans h2.2.1, fun o => (g.frozen (p := ⟨c, o, none⟩) hb).trans (h2.2.2 o)⟩
theorem cw_store {w w2 : World} {c : Nat} {s : ByteArray} (hc : c < w.heap.size) (h : CW w c s) (B : Below w.heap.size w.drew w2) (t : ByteArray) (l : List UInt8) (hl : Ds.bl t = l) : CL (w2.setCell ⟨c, 0, none⟩ (.string t)) c l ∧ w.grownBy (w2.setCell ⟨c, 0, none⟩ (.string t)) (some c) := by
  obtain ⟨c0, c1, hf⟩ := h
  have k0 := (B.cell (p := ⟨c, 0, none⟩) hc).trans c0
  have k1 := (B.cell (p := ⟨c, 1, none⟩) hc).trans c1
  refine ⟨⟨t, hl, World.cell?_setCell_same' _ _ _ (by rw [k0]; rfl), ?_, fun o => ?_⟩, ?_⟩
  · rw [World.cell?_setCell_other _ _ _ _ (by intro h; cases h)]; exact k1
  · have := (B.frozen (p := ⟨c, o, none⟩) hc).trans (hf o); simpa using this
  · exact World.grownBy.trans ⟨by rw [B.os]; rfl, by rw [B.tape]; rfl, by rw [B.output]; rfl, B.size, fun k hk _ => B.block k hk⟩ (grown_setCell w2 ⟨c, 0, none⟩ _)
theorem co_number (c : Nat) (p : Addr) (n : Nat) (l : List UInt8) (w : World) (hs : l.length ≤ 10000) (hn : n < 9223372036854775808) (hC : CL w c l) (hp : w.cell? p = some (.int .i64 n)) (hc : c < w.heap.size) :
    Calls Tryz.prog 66 #[.pointer (some ⟨c, 0, none⟩), .pointer (some p)] w fun e w' => e = .returned (.tuple #[]) ∧ CL w' c (l ++ Wi.enc n) ∧ w.grownBy w' (some c) := by
  obtain ⟨s, hl, hC⟩ := hC
  subst hl
  rw [Ds.bl_length] at hs
  have hC' := hC
  obtain ⟨c0, c1, hf⟩ := hC
  have f0 := hf 0
  have hu : IntKind.u64.wrap (n : Int) = (n : Int) := IntWalk.u64_in _ ⟨by omega, by omega⟩
  have HN := Lib.hid hn
  clear hn hf
  go_enter Tryz.func66, Tryz.ntmps66
  go_wp2_with fail
  have ha := fun (W : World) => ap_num s n W (by have := HN.out; omega) hs
  go_region_law (first | (go_simp; go_at_call 102; (with_reducible refine (ha _).mono ?_); rintro _ w2 ⟨t, rfl, ht, B⟩; have k0 := (B.cell (p := ⟨c, 0, none⟩) hc).trans c0; have g0 := (B.frozen (p := ⟨c, 0, none⟩) hc).trans f0))
  all_goals
    go_wp2
    exact bodyPost_ret (results_none rfl _ _ _) rfl ⟨rfl, cw_store hc hC' B t _ ht⟩
/-- one byte for a truth value -/
def tb (y : Bool) : UInt8 := if y then 1 else 0
theorem co_truth (c : Nat) (p : Addr) (y : Bool) (l : List UInt8) (w : World) (hs : l.length ≤ 10000) (hC : CL w c l) (hp : w.cell? p = some (.bool y)) (hc : c < w.heap.size) :
    Calls Tryz.prog 54 #[.pointer (some ⟨c, 0, none⟩), .pointer (some p)] w fun e w' => e = .returned (.tuple #[]) ∧ CL w' c (l ++ [tb y]) ∧ w.grownBy w' (some c) := by
  obtain ⟨s, hl, hC⟩ := hC
  subst hl
  rw [Ds.bl_length] at hs
  have hC' := hC
  obtain ⟨c0, c1, hf⟩ := hC
  have f0 := hf 0
  clear hf
  cases y
  · go_enter Tryz.func54, Tryz.ntmps54
    go_wp2_with fail
    go_region_law (first | (go_simp; go_at_call 91; (with_reducible refine (ap_false s _ hs).mono ?_); rintro _ w2 ⟨t, rfl, ht, rfl⟩))
    all_goals
      go_wp2
      exact bodyPost_ret (results_none rfl _ _ _) rfl ⟨rfl, cw_store hc hC' (Below.refl _ _) t _ ht⟩
  · go_enter Tryz.func54, Tryz.ntmps54
    go_wp2_with fail
    go_region_law (first | (go_simp; go_at_call 91; (with_reducible refine (ap_true s _ hs).mono ?_); rintro _ w2 ⟨t, rfl, ht, rfl⟩))
    all_goals
      go_wp2
      exact bodyPost_ret (results_none rfl _ _ _) rfl ⟨rfl, cw_store hc hC' (Below.refl _ _) t _ ht⟩
theorem co_text (c : Nat) (p : Addr) (x : ByteArray) (l : List UInt8) (w : World) (hs : l.length ≤ 10000) (hx : x.size ≤ 10000) (hC : CL w c l) (hp : w.cell? p = some (.string x)) (hc : c < w.heap.size) :
    Calls Tryz.prog 55 #[.pointer (some ⟨c, 0, none⟩), .pointer (some p)] w fun e w' => e = .returned (.tuple #[]) ∧ CL w' c (l ++ (Wi.enc x.size ++ Ds.bl x)) ∧ w.grownBy w' (some c) := by
  obtain ⟨s, hl, hC⟩ := hC
  subst hl
  rw [Ds.bl_length] at hs
  have hC' := hC
  obtain ⟨c0, c1, hf⟩ := hC
  have f0 := hf 0
  clear hf
  go_enter Tryz.func55, Tryz.ntmps55
  go_wp2_with fail
  have ha := fun (W : World) => ap_text s x W hs hx
  go_region_law (first | (go_simp; go_at_call 93; (with_reducible refine (ha _).mono ?_); rintro _ w2 ⟨t, rfl, ht, B⟩; have k0 := (B.cell (p := ⟨c, 0, none⟩) hc).trans c0; have g0 := (B.frozen (p := ⟨c, 0, none⟩) hc).trans f0))
  all_goals
    go_wp2
    exact bodyPost_ret (results_none rfl _ _ _) rfl ⟨rfl, cw_store hc hC' B t _ ht⟩
end Go.Proofs.YtlkfhlgngkgflaaGreatDoor
