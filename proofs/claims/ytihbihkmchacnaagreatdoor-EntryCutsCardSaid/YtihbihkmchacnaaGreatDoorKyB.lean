/- Contracts of package entry: Encode, whatever the kind. -/
import Derived.Test.YtihbihkmchacnaaGreatDoorKyA
import Derived.Test.YtihbihkmchacnaaGreatDoorVaC
import Derived.Deep.RegionLaw
namespace Go.Proofs.YtihbihkmchacnaaGreatDoor
open Go.RowKit
set_option maxHeartbeats 1600000
set_option maxRecDepth 8000
attribute [local go_sem ↓] ldEnt stEnt
attribute [local go_sem] isHead_mk headOf_mk cellsOfV_mk isAggV_mk row_new row_new2 row_new2' row_drew row_drewN vals_0 vals_1 vals_size allOne_nil allOne_cons one_int one_bool one_string one_pointer one_slice one_func
theorem key_le (k : Int) (n : List UInt8) : (Ek.key k n).length ≤ 32 := by
  unfold Ek.key
  split
  · rename_i h; rw [List.length_cons, Ek.pad_len n h.2]; exact Nat.le_refl _
  · simp
theorem lk_one (w : World) (m : Nat) (k : Int) (v : Value) (i : Nat) (hb : w.heap[m]? = some (.map fe5 5)) (h : Instr.findNow (.int .i64) (.int .i64 k) fe5.toList 0 = some (some (i, v))) :
    (Instr.lookup 70 (.map (some m)) (.int .i64 k) false).run Tryz.prog w = .ok v w := by
  have hck := fun b => MapKept.run_checkKey (P := Tryz.prog) (w := w) (k := .int .i64 k) Tryz.underlying3 rfl b 9999
  have hfk := MapKept.run_findKey (P := Tryz.prog) (w := w) (kt := 3) (k := .int .i64 k) Tryz.underlying3 h
  simp [Instr.lookup, run_underlying Tryz.underlying70, MapKept.run_getObj_map hb, hck, hfk, Result.andThen]
/-- block m holds the forms -/
def MP (m : Nat) (W : World) : Prop := W.heap[m]? = some (.map fe5 5) ∧ m < W.heap.size
theorem MP.below {m : Nat} {W W' : World} (h : MP m W) (hb : Below W.heap.size W W') : MP m W' := ⟨(hb.block m h.2).trans h.1, Nat.lt_of_lt_of_le h.2 hb.size⟩
theorem fo_forms' (W : World) : Calls Tryz.prog 48 #[] W fun r w' => ∃ m, r = .returned (.map (some m)) ∧ MP m w' ∧ Below W.heap.size W w' :=
  (fo_forms W).mono fun _ _ ⟨he, hw⟩ => ⟨_, he, by subst hw; exact ⟨heap_alloc_new W _, by simp⟩, by subst hw; exact (Below.refl _ _).alloc (Nat.le_refl _) _⟩
/-- the entry lies behind w -/
def PE (w : World) (cs : Array Value) (W : World) : Prop := row W w.heap.size = cs ∧ Below w.heap.size w W
theorem PE.below {w W W' : World} {cs : Array Value} (h : PE w cs W) (hb : Below W.heap.size W W') (h0 : 0 < cs.size) : PE w cs W' := ⟨row_below hb h.1 h0, bt h.2 hb⟩
theorem PE.new (w : World) (cs : Array Value) (t : TypeId) : PE w cs (w.alloc (.cells cs t)) := ⟨row_new w cs t _, (Below.refl _ _).alloc (Nat.le_refl _) _⟩
theorem PE.bel {w W : World} (cs : Array Value) (h : PE w cs W) : Below w.heap.size w W := h.2
theorem PE.drew {w W : World} {cs : Array Value} (h : PE w cs W) : PE w cs W.drew := ⟨by rw [row_drew]; exact h.1, h.2.drew⟩
theorem en_encode_no (e : En) (al gr : Value) (w : World) (hv : ∀ W, Below w.heap.size w W → Calls Tryz.prog 17 #[.agg (e.vals al gr)] W fun r w' => r = .returned (.bool false) ∧ Below W.heap.size W w') :
    Calls Tryz.prog 26 #[.agg (e.vals al gr)] w fun r w' => r = .returned (.tuple #[.string ⟨#[]⟩, .int .i64 1]) ∧ Below w.heap.size w w' := by
  have HV := Lib.hid hv
  clear hv
  go_enter Tryz.func26, Tryz.ntmps26
  go_wp2_with (go_at_call 17; (with_reducible refine (HV.out _ (by (repeat (first | exact Below.refl _ _ | assumption | (refine Below.drew ?_) | (refine Below.alloc ?_ (by first | (simp; done) | (simp; omega) | omega) _) | (refine Below.setCell ?_ (by first | (simp; done) | (simp; omega) | omega) _))))).mono ?_); rintro _ w2 ⟨rfl, hb⟩; have B2 := Below.trans (show Below w.heap.size w _ by (repeat (first | exact Below.refl _ _ | assumption | (refine Below.drew ?_) | (refine Below.alloc ?_ (by first | (simp; done) | (simp; omega) | omega) _) | (refine Below.setCell ?_ (by first | (simp; done) | (simp; omega) | omega) _)))) (hb.mono (by simp)); clear hb)
  go_ret2
  exact ⟨rfl, B2⟩
theorem en_encode_yes (e : En) (al gr : Value) (li A K B i : Nat) (body : List UInt8) (w : World) (hE : EntF K) (hk : Instr.findNow (.int .i64) (.int .i64 e.kind) fe5.toList 0 = some (some (i, .agg (formV li A K B)))) (hl : body.length ≤ 1000)
    (hv : ∀ W, Below w.heap.size w W → Calls Tryz.prog 17 #[.agg (e.vals al gr)] W fun r w' => r = .returned (.bool true) ∧ Below W.heap.size W w')
    (hw : ∀ W, Below w.heap.size w W → Writes W K (e.vals al gr) body) :
    Calls Tryz.prog 26 #[.agg (e.vals al gr)] w fun r w' => ∃ t, r = .returned (.tuple #[.string t, .int .i64 0]) ∧ Ds.bl t = Ek.key e.kind (Ds.bl e.name) ++ body ∧ Below w.heap.size w w' := by
  have hbo := fun W b => bo_body li A K B (e.vals al gr) body W hE (hw W b)
  have hky := fun W => en_key e.kind e.name W
  have hlk := fun W m h => lk_one W m e.kind _ i h hk
  unfold formV at hbo hlk
  have hkl := key_le e.kind (Ds.bl e.name)
  generalize Ek.key e.kind (Ds.bl e.name) = ky at hky hkl ⊢
  have HB := Lib.hid hbo
  have HK := Lib.hid hky
  have HV := Lib.hid hv
  have HL := Lib.hid hlk
  clear hbo hky hlk hv hw hk hE
  go_enter Tryz.func26, Tryz.ntmps26
  go_wp2_with (go_at_call 17; (with_reducible refine (HV.out _ (by (repeat (first | exact Below.refl _ _ | assumption | (refine Below.drew ?_) | (refine Below.alloc ?_ (by first | (simp; done) | (simp; omega) | omega) _) | (refine Below.setCell ?_ (by first | (simp; done) | (simp; omega) | omega) _))))).mono ?_); rintro _ w2 ⟨rfl, hb⟩; have E2 := (PE.new w (e.vals al gr) 27).below hb (by simp [vals_size]); have R2 := E2.1; have n0 := cell_row R2 0 _ (vals_0 e al gr); have n1 := cell_row R2 1 _ (vals_1 e al gr); clear hb)
  have E2' := E2.drew
  go_region_law (first
    | (go_simp; go_at_call 21; (with_reducible refine (HK.out _).mono ?_); rintro _ w3 ⟨tk, rfl, hk, hb⟩; have E3 := PE.below (by assumption) hb (by simp [vals_size]); have R3 := E3.1; have m0 := cell_row R3 0 _ (vals_0 e al gr); have m1 := cell_row R3 1 _ (vals_1 e al gr); (first | (have M3 := MP.below (by assumption) hb; have hl3 := HL.out _ _ M3.1) | skip); have zk : tk.size ≤ 32 := (by rw [← Ds.bl_length, hk]; exact hkl); (first | (have l2 : ¬ 9223372036854775807 < tk.size + tb.size := (by omega)) | skip); have HTK := Lib.hid hk; clear hb hk)
    | (go_simp; go_at_call 48; (with_reducible refine (fo_forms' _).mono ?_); rintro _ w4 ⟨m, rfl, M4, hb⟩; have hl4 := HL.out _ _ M4.1; have E4 := PE.below (by assumption) hb (by simp [vals_size]); have R4 := E4.1; have q0 := cell_row R4 0 _ (vals_0 e al gr); have q1 := cell_row R4 1 _ (vals_1 e al gr); clear hb)
    | (go_simp; go_at_call 77; (with_reducible refine (HB.out _ (PE.bel (e.vals al gr) (by assumption))).mono ?_); rintro _ w5 ⟨tb, rfl, ht, hb⟩; have E5 := PE.below (by assumption) hb (by simp [vals_size]); have R5 := E5.1; have p0 := cell_row R5 0 _ (vals_0 e al gr); have p1 := cell_row R5 1 _ (vals_1 e al gr); have zb : tb.size ≤ 1000 := (by rw [← Ds.bl_length, ht]; exact hl); (first | (have l2 : ¬ 9223372036854775807 < tk.size + tb.size := (by omega)) | skip); have HTB := Lib.hid ht; clear hb ht))
  all_goals
    go_wp2
    go_ret2
    exact ⟨_, rfl, by rw [← HTK.out, ← HTB.out]; simp [Ds.bl], PE.bel (e.vals al gr) (by assumption)⟩
end Go.Proofs.YtihbihkmchacnaaGreatDoor
