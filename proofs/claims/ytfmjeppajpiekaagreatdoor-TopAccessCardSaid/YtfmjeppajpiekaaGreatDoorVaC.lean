/- Contracts of package entry: Valid, whatever the kind. -/
import Derived.Test.YtfmjeppajpiekaaGreatDoorBoA
import Derived.Test.YtfmjeppajpiekaaGreatDoorFoA
import Derived.Test.YtfmjeppajpiekaaGreatDoorSaC
import Derived.Deep.RegionLaw
import Derived.Deep.DeepCutAuto
import Derived.Laws.EntriesVeiled
namespace Go.Proofs.YtfmjeppajpiekaaGreatDoor
open Go.RowKit
set_option maxHeartbeats 800000
set_option maxRecDepth 4000
attribute [local go_sem ↓] ldEnt stEnt
attribute [local go_sem] isHead_mk headOf_mk cellsOfV_mk isAggV_mk row_new row_new2 row_new2' row_drew row_drewN vals_0 vals_1 vals_size allOne_nil allOne_cons one_int one_bool one_string one_pointer one_slice one_func
theorem lk_yes (k : Int) (v : Value) (i : Nat) (h : Instr.findNow (.int .i64) (.int .i64 k) fe5.toList 0 = some (some (i, v))) (W : World) :
    (Instr.lookup 89 (.map (some W.heap.size)) (.int .i64 k) true).run Tryz.prog (W.alloc (.map fe5 5)).drew = .ok (.tuple #[v, .bool true]) (W.alloc (.map fe5 5)).drew :=
  lk_at _ _ k v i (heap_alloc_new W _) h
theorem lk_all (c : Array Value) (t : TypeId) (k : Int) (v : Value) (i : Nat) (h : Instr.findNow (.int .i64) (.int .i64 k) fe5.toList 0 = some (some (i, v))) (w : World) :
    (Instr.lookup 89 (.map (some (w.heap.size + 1))) (.int .i64 k) true).run Tryz.prog ((w.alloc (.cells c t)).alloc (.map fe5 5)).drew = .ok (.tuple #[v, .bool true]) ((w.alloc (.cells c t)).alloc (.map fe5 5)).drew ∧
    (∀ o, (Instr.lookup 89 (.map (some (w.heap.size + 1))) (.int .i64 k) true).run Tryz.prog (((w.alloc (.cells c t)).alloc (.map fe5 5)).alloc o).drew = .ok (.tuple #[v, .bool true]) (((w.alloc (.cells c t)).alloc (.map fe5 5)).alloc o).drew) ∧
    (∀ o, (Instr.lookup 89 (.map (some (w.heap.size + 1 + 1))) (.int .i64 k) true).run Tryz.prog (((w.alloc (.cells c t)).alloc o).alloc (.map fe5 5)).drew = .ok (.tuple #[v, .bool true]) (((w.alloc (.cells c t)).alloc o).alloc (.map fe5 5)).drew) := by
  have s1 : (w.alloc (.cells c t)).heap.size = w.heap.size + 1 := by simp
  refine ⟨?_, fun o => ?_, fun o => ?_⟩
  · exact lk_at _ _ k v i (by have := heap_alloc_new (w.alloc (.cells c t)) (.map fe5 5); rw [s1] at this; exact this) h
  · refine lk_at _ _ k v i ?_ h
    have := heap_alloc_new (w.alloc (.cells c t)) (.map fe5 5)
    rw [s1] at this
    exact (heap_alloc_old ((w.alloc (.cells c t)).alloc (.map fe5 5)) o (by simp)).trans this
  · have s2 : ((w.alloc (.cells c t)).alloc o).heap.size = w.heap.size + 1 + 1 := by simp
    exact lk_at _ _ k v i (by have := heap_alloc_new ((w.alloc (.cells c t)).alloc o) (.map fe5 5); rw [s2] at this; exact this) h
/-- the form of the kind lies in block f, the entry behind w -/
def VS (w wx : World) (f : Nat) (fv cs : Array Value) : Prop := row wx f = fv ∧ row wx w.heap.size = cs ∧ f < wx.heap.size ∧ w.heap.size < wx.heap.size ∧ Below w.heap.size w wx
theorem VS.below {w wx wy : World} {f : Nat} {fv cs : Array Value} (h : VS w wx f fv cs) (hb : Below wx.heap.size wx wy) : VS w wy f fv cs := by
  obtain ⟨h1, h2, h3, h4, h5⟩ := h
  refine ⟨?_, ?_, Nat.lt_of_lt_of_le h3 hb.size, Nat.lt_of_lt_of_le h4 hb.size, bt h5 hb⟩
  · unfold row at *; rw [hb.block f h3]; exact h1
  · unfold row at *; rw [hb.block _ h4]; exact h2
theorem VS.facts {w wx : World} {f li A K B : Nat} {e : En} {al gr : Value} (h : VS w wx f (formV li A K B) (e.vals al gr)) :
    wx.cell? ⟨f, 0, none⟩ = some (.int .u8 li) ∧ wx.cell? ⟨f, 1, none⟩ = some (.func (.func A) #[] #[]) ∧ wx.cell? ⟨f, 2, none⟩ = some (.func (.func K) #[] #[]) ∧ wx.cell? ⟨f, 3, none⟩ = some (.func (.func B) #[] #[]) ∧ wx.cell? ⟨w.heap.size, 1, none⟩ = some (.string e.name) ∧ row wx w.heap.size = e.vals al gr :=
  ⟨cell_row h.1 0 _ rfl, cell_row h.1 1 _ rfl, cell_row h.1 2 _ rfl, cell_row h.1 3 _ rfl, cell_row h.2.1 1 _ (vals_1 e al gr), h.2.1⟩
theorem VS.mk1 (w : World) (fv cs : Array Value) (t t' : TypeId) : VS w (((w.alloc (.cells cs t)).alloc (.map fe5 5)).alloc (.cells fv t')).drew (w.heap.size + 1 + 1) fv cs := by
  have s1 : (w.alloc (.cells cs t)).heap.size = w.heap.size + 1 := by simp
  have s2 : ((w.alloc (.cells cs t)).alloc (.map fe5 5)).heap.size = w.heap.size + 1 + 1 := by simp
  refine ⟨?_, ?_, by simp, by simp; omega, by (repeat (first | exact Below.refl _ _ | assumption | (refine Below.drew ?_) | (refine Below.alloc ?_ (by first | (simp; done) | (simp; omega) | omega) _) | (refine Below.setCell ?_ (by first | (simp; done) | (simp; omega) | omega) _)))⟩
  · rw [row_drew, ← s2]; exact row_new _ _ _ _
  · rw [row_drew]
    exact row_of (t := t) (fr := (0, 0)) ((heap_alloc_old _ _ (by simp; omega)).trans ((heap_alloc_old _ _ (by simp)).trans (heap_alloc_new w _)))
theorem VS.mk2 (w : World) (fv cs : Array Value) (t t' : TypeId) : VS w (((w.alloc (.cells cs t)).alloc (.cells fv t')).alloc (.map fe5 5)).drew (w.heap.size + 1) fv cs := by
  have s1 : (w.alloc (.cells cs t)).heap.size = w.heap.size + 1 := by simp
  refine ⟨?_, ?_, by simp, by simp; omega, by (repeat (first | exact Below.refl _ _ | assumption | (refine Below.drew ?_) | (refine Below.alloc ?_ (by first | (simp; done) | (simp; omega) | omega) _) | (refine Below.setCell ?_ (by first | (simp; done) | (simp; omega) | omega) _)))⟩
  · rw [row_drew]
    have := heap_alloc_new (w.alloc (.cells cs t)) (.cells fv t')
    rw [s1] at this
    exact row_of (t := t') (fr := (0, 0)) ((heap_alloc_old _ _ (by simp)).trans this)
  · rw [row_drew]
    exact row_of (t := t) (fr := (0, 0)) ((heap_alloc_old _ _ (by simp; omega)).trans ((heap_alloc_old _ _ (by simp)).trans (heap_alloc_new w _)))
theorem VS.row_alloc {w wx : World} {f : Nat} {fv cs : Array Value} (h : VS w wx f fv cs) (o : Obj) : row (wx.alloc o) w.heap.size = cs := by
  have h2 := h.2.1
  unfold row at *
  rw [heap_alloc_old wx o h.2.2.2.1]; exact h2
/-- the name is none of this kind -/
theorem va_name (li A K G i : Nat) (e : En) (al gr : Value) (w : World) (hE : EntF A) (hk : Instr.findNow (.int .i64) (.int .i64 e.kind) fe5.toList 0 = some (some (i, .agg (formV li A K G))))
    (hn : ∀ W, Below w.heap.size w W → Calls Tryz.prog A #[.string e.name] W fun r w' => r = .returned (.bool false) ∧ Below W.heap.size W w') :
    Calls Tryz.prog 17 #[.agg (e.vals al gr)] w fun r w' => r = .returned (.bool false) ∧ Below w.heap.size w w' := by
  obtain ⟨hl1, hl2, hl3⟩ := lk_all (e.vals al gr) 27 e.kind _ i hk w
  unfold EntF at hE
  unfold formV at hl1 hl2 hl3
  have HN := Lib.hid hn
  clear hn hk
  go_enter Tryz.func17, Tryz.ntmps17
  go_upto_region 1 with fail
  go_cut [3, 4] (fun t3 t4 wx => ∃ f, t3 = .pointer (some ⟨f, 0, none⟩) ∧ t4 = .bool true ∧ VS w wx f (formV li A K G) (e.vals al gr))
  case first =>
    go_region_law (first | (go_simp; go_at_call 59; (with_reducible refine (fo_forms _).mono ?_); rintro _ w1 ⟨rfl, rfl⟩))
    all_goals
      go_wp2_with fail
      go_meet
      first | exact ⟨_, rfl, rfl, VS.mk1 w _ _ _ _⟩ | exact ⟨_, rfl, rfl, VS.mk2 w _ _ _ _⟩
  case rest =>
    obtain ⟨f, rfl, rfl, V⟩ := hcut
    obtain ⟨f0, f1, f2, f3, n1, r1⟩ := V.facts
    have B := V.2.2.2.2
    go_wp2_with (first | ((with_reducible refine (HN.out _ B).mono ?_); rintro _ w2 ⟨rfl, hb⟩; have V := V.below hb; clear hb))
    go_ret
    exact ⟨rfl, V.2.2.2.2⟩
/-- the fields are not valid -/
theorem va_fields (li A K G i : Nat) (e : En) (al gr : Value) (w : World) (hE : EntF A) (hE2 : EntF G) (hk : Instr.findNow (.int .i64) (.int .i64 e.kind) fe5.toList 0 = some (some (i, .agg (formV li A K G))))
    (hn : ∀ W, Below w.heap.size w W → Calls Tryz.prog A #[.string e.name] W fun r w' => r = .returned (.bool true) ∧ Below W.heap.size W w')
    (hv : ∀ W, Below w.heap.size w W → Calls Tryz.prog G #[.agg (e.vals al gr)] W fun r w' => r = .returned (.bool false) ∧ Below W.heap.size W w') :
    Calls Tryz.prog 17 #[.agg (e.vals al gr)] w fun r w' => r = .returned (.bool false) ∧ Below w.heap.size w w' := by
  obtain ⟨hl1, hl2, hl3⟩ := lk_all (e.vals al gr) 27 e.kind _ i hk w
  unfold EntF at hE hE2
  unfold formV at hl1 hl2 hl3
  have HN := Lib.hid hn
  have HV := Lib.hid hv
  clear hn hk hv
  go_enter Tryz.func17, Tryz.ntmps17
  go_upto_region 1 with fail
  go_cut [3, 4] (fun t3 t4 wx => ∃ f, t3 = .pointer (some ⟨f, 0, none⟩) ∧ t4 = .bool true ∧ VS w wx f (formV li A K G) (e.vals al gr))
  case first =>
    go_region_law (first | (go_simp; go_at_call 59; (with_reducible refine (fo_forms _).mono ?_); rintro _ w1 ⟨rfl, rfl⟩))
    all_goals
      go_wp2_with fail
      go_meet
      first | exact ⟨_, rfl, rfl, VS.mk1 w _ _ _ _⟩ | exact ⟨_, rfl, rfl, VS.mk2 w _ _ _ _⟩
  case rest =>
    obtain ⟨f, rfl, rfl, V⟩ := hcut
    obtain ⟨f0, f1, f2, f3, n1, r1⟩ := V.facts
    have B := V.2.2.2.2
    go_wp2_with (first | ((with_reducible refine (HN.out _ B).mono ?_); rintro _ w2 ⟨rfl, hb⟩; have V := V.below hb; obtain ⟨g0, g1, g2, g3, m1, s1⟩ := V.facts; have B := V.2.2.2.2; clear hb) | ((with_reducible refine (HV.out _ B).mono ?_); rintro _ w3 ⟨rfl, hb⟩; have B := bt B hb))
    go_ret
    exact ⟨rfl, B⟩
/-- the name and the fields are valid: it hangs on what bare says -/
theorem va_bare (li A K G i : Nat) (e : En) (al gr : Value) (l : List UInt8) (st : List UInt8 × Nat) (P : Nat → World → Array Value → Prop) (z : Bool) (w : World) (hE : EntF A) (hE2 : EntF G) (hE3 : EntF K) (hk : Instr.findNow (.int .i64) (.int .i64 e.kind) fe5.toList 0 = some (some (i, .agg (formV li A K G))))
    (hn : ∀ W, Below w.heap.size w W → Calls Tryz.prog A #[.string e.name] W fun r w' => r = .returned (.bool true) ∧ Below W.heap.size W w')
    (hv : ∀ W, Below w.heap.size w W → Calls Tryz.prog G #[.agg (e.vals al gr)] W fun r w' => r = .returned (.bool true) ∧ Below W.heap.size W w')
    (h : ∀ W, Below w.heap.size w W → Writes W K (e.vals al gr) l) (hr : ∀ W, Below w.heap.size w W → Reads W K l (zcells e.kind e.name) st P) (hP : Stable P) (hst : Rd.fin st = 0)
    (hs : ∀ W b cs', Below w.heap.size w W → P b W cs' → Calls Tryz.prog 19 #[.agg cs', .agg (e.vals al gr)] W fun r w' => r = .returned (.bool z) ∧ Below W.heap.size W w') :
    Calls Tryz.prog 17 #[.agg (e.vals al gr)] w fun r w' => r = .returned (.bool z) ∧ Below w.heap.size w w' := by
  obtain ⟨hl1, hl2, hl3⟩ := lk_all (e.vals al gr) 27 e.kind _ i hk w
  have hb := fun W b => bo_bare li A K G e al gr l st P W hE3 (h W b) (hr W b) hP
  rw [decide_eq_true hst] at hb
  unfold Stable at hP
  have HPS := Lib.hid hP
  clear hP
  unfold EntF at hE hE2
  unfold formV at hl1 hl2 hl3 hb
  have HN := Lib.hid hn
  have HV := Lib.hid hv
  have HB := Lib.hid hb
  have HS := Lib.hid hs
  clear hn hk hv hb h hr hst hE3 hs
  go_enter Tryz.func17, Tryz.ntmps17
  go_upto_region 1 with fail
  go_cut [3, 4] (fun t3 t4 wx => ∃ f, t3 = .pointer (some ⟨f, 0, none⟩) ∧ t4 = .bool true ∧ VS w wx f (formV li A K G) (e.vals al gr))
  case first =>
    go_region_law (first | (go_simp; go_at_call 59; (with_reducible refine (fo_forms _).mono ?_); rintro _ w1 ⟨rfl, rfl⟩))
    all_goals
      go_wp2_with fail
      go_meet
      first | exact ⟨_, rfl, rfl, VS.mk1 w _ _ _ _⟩ | exact ⟨_, rfl, rfl, VS.mk2 w _ _ _ _⟩
  case rest =>
    obtain ⟨f, rfl, rfl, V⟩ := hcut
    obtain ⟨f0, f1, f2, f3, n1, r1⟩ := V.facts
    have B := V.2.2.2.2
    go_wp2_with (first | ((with_reducible refine (HN.out _ B).mono ?_); rintro _ w2 ⟨rfl, hb⟩; have V := V.below hb; obtain ⟨g0, g1, g2, g3, m1, s1⟩ := V.facts; have B := V.2.2.2.2; clear hb) | ((with_reducible refine (HV.out _ B).mono ?_); rintro _ w3 ⟨rfl, hb⟩; have V := V.below hb; obtain ⟨g0, g1, g2, g3, m1, s1⟩ := V.facts; have B := V.2.2.2.2; clear hb) | (go_at_call 60; (with_reducible refine (HB.out _ B).mono ?_); rintro _ w4 ⟨cs', b, rfl, hz, ho, hle, hp, hb⟩; have V := V.below hb; obtain ⟨g0, g1, g2, g3, m1, s1⟩ := V.facts; have B := V.2.2.2.2; have Rx := V.row_alloc; have hlt4 := V.2.2.2.1; have HP := Lib.hid hp; clear hb hp) | (go_at_call 19; (with_reducible refine (HS.out _ _ cs' (by (repeat (first | exact Below.refl _ _ | assumption | (refine Below.drew ?_) | (refine Below.alloc ?_ (by first | (simp; done) | (simp; omega) | omega) _) | (refine Below.setCell ?_ (by first | (simp; done) | (simp; omega) | omega) _)))) (HPS.out _ _ _ _ HP.out (by simp) (fun k _ hk => heap_alloc_old _ _ hk))).mono ?_); rintro _ w5 ⟨rfl, hb5⟩))
    go_ret
    exact ⟨rfl, bt (B.alloc (by have := V.2.2.2.1; omega) _) hb5⟩
end Go.Proofs.YtfmjeppajpiekaaGreatDoor
