/- Contracts of package entry: what is valid in a profile. -/
import Derived.Test.YtihbihkmchacnaaGreatDoorVaA
import Derived.Test.YtihbihkmchacnaaGreatDoorVpD
import Derived.Test.YtihbihkmchacnaaGreatDoorSaA
import Derived.Test.YtihbihkmchacnaaGreatDoorRdA
import Derived.MapKept
import Derived.ChangeMaps5
import Derived.WideKeyRuns
namespace Go.Proofs.YtihbihkmchacnaaGreatDoor
open Go.RowKit
open Go.ChangeMaps (setBlock)
set_option maxHeartbeats 1600000
set_option maxRecDepth 8000
/-- a key of the map of those who have a grant -/
def wk (k : ByteArray × Bool) : Value := .agg #[.string k.1, .bool k.2]
def wents : List (ByteArray × Bool) → Nat → List MapEntry
  | [], _ => []
  | k :: r, i => ⟨wk k, .bool true, i⟩ :: wents r (i + 1)
def went (ks : List (ByteArray × Bool)) : Array MapEntry := (wents ks 0).toArray
theorem wents_snoc (k : ByteArray × Bool) : ∀ (ks : List (ByteArray × Bool)) (i : Nat), wents (ks ++ [k]) i = wents ks i ++ [⟨wk k, .bool true, i + ks.length⟩]
  | [], i => rfl
  | a :: r, i => by rw [List.cons_append, wents, wents, wents_snoc k r (i + 1), List.length_cons, List.cons_append, Nat.add_assoc, Nat.add_comm 1]
theorem went_push (ks : List (ByteArray × Bool)) (k : ByteArray × Bool) : (went ks).push ⟨wk k, .bool true, ks.length⟩ = went (ks ++ [k]) := by
  unfold went; rw [wents_snoc]; simp
theorem eq_wk (a b : ByteArray × Bool) (w : World) : (Op.equal 208 (wk a) (wk b)).run Tryz.prog w = .ok (decide (a = b)) w := by
  obtain ⟨a1, a2⟩ := a
  obtain ⟨b1, b2⟩ := b
  show (Op.equalIn (9999 + 1) 208 (.agg #[.string a1, .bool a2]) (.agg #[.string b1, .bool b2])).run Tryz.prog w = _
  rw [run_equalIn_struct w 9999 208 _ _ (by simp [Program.fieldsOf, Tryz.underlying208]) (by kernel_rfl)]
  simp [Program.fieldsOf, Tryz.underlying208, Op.eqFields, go_sem]
  have e : (a1.toList = b1.toList) = (a1 = b1) := propext ⟨fun h => by
    have h1 := Lib.toList_data a1
    have h2 := Lib.toList_data b1
    exact Ds.bl_inj (h1.symm.trans (h.trans h2)), fun h => by rw [h]⟩
  by_cases h1 : a1 = b1
  · subst h1
    by_cases h2 : a2 = b2 <;> simp [h2]
  · rw [if_neg (fun h => h1 (e ▸ h))]; simp [h1]
theorem find_wk (k : ByteArray × Bool) (w : World) : ∀ (ks : List (ByteArray × Bool)) (i j : Nat),
    (k ∉ ks → (Instr.findAsking 208 (wk k) (wents ks i) j).run Tryz.prog w = .ok none w) ∧ (k ∈ ks → ∃ n, (Instr.findAsking 208 (wk k) (wents ks i) j).run Tryz.prog w = .ok (some (n, .bool true)) w)
  | [], i, j => ⟨fun _ => by simp [wents, Instr.findAsking], fun h => by simp at h⟩
  | a :: r, i, j => by
    have ih := find_wk k w r (i + 1) (j + 1)
    have he := eq_wk k a w
    by_cases h : k = a
    · rw [decide_eq_true h] at he
      refine ⟨fun h2 => absurd (by rw [h]; exact List.mem_cons_self) h2, fun _ => ⟨j, by simp [wents, Instr.findAsking, he]⟩⟩
    · rw [decide_eq_false h] at he
      refine ⟨fun h2 => ?_, fun h2 => ?_⟩
      · have := ih.1 (fun q => h2 (List.mem_cons_of_mem _ q))
        simp [wents, Instr.findAsking, he, this]
      · obtain ⟨n, hn⟩ := ih.2 ((List.mem_cons.1 h2).resolve_left h)
        exact ⟨n, by simp [wents, Instr.findAsking, he, hn]⟩
theorem ck_wk (k : ByteArray × Bool) (b : Bool) (w : World) : (Instr.checkKey b 10000 208 (wk k)).run Tryz.prog w = .ok () w := by
  obtain ⟨k1, k2⟩ := k
  cases b <;> kernel_rfl
theorem fk_wk (k : ByteArray × Bool) (es : List MapEntry) (w : World) : (Instr.findKey 208 (wk k) es).run Tryz.prog w = (Instr.findAsking 208 (wk k) es).run Tryz.prog w :=
  run_findKey_eq w (by rw [Tryz.underlying208]) _ _
theorem lk_wk (w : World) (m n : Nat) (ks : List (ByteArray × Bool)) (k : ByteArray × Bool) (hb : w.heap[m]? = some (.map (went ks) n)) :
    (Instr.lookup 206 (.map (some m)) (wk k) false).run Tryz.prog w = .ok (.bool (Vp.among k ks)) w := by
  have hck := fun b => ck_wk k b w
  have hf := fk_wk k (wents ks 0) w
  have hk := find_wk k w ks 0 0
  cases hc : Vp.among k ks
  rotate_left
  · obtain ⟨j, h1⟩ := hk.2 ((among_iff k ks).1 hc)
    simp [Instr.lookup, run_underlying Tryz.underlying206, MapKept.run_getObj_map hb, hck, went, hf, h1, Result.andThen]
  · have h1 := hk.1 (among_no k ks hc)
    simp [Instr.lookup, run_underlying Tryz.underlying206, MapKept.run_getObj_map hb, hck, went, hf, h1, Result.andThen]
theorem mu_wk (w : World) (m : Nat) (ks : List (ByteArray × Bool)) (k : ByteArray × Bool) (hb : w.heap[m]? = some (.map (went ks) ks.length)) (hc : Vp.among k ks = false) :
    (Instr.mapUpdate 206 (.map (some m)) (wk k) (.bool true)).run Tryz.prog w = .ok () (setBlock w m (.map (went (ks ++ [k])) (ks.length + 1))) := by
  have hck := ck_wk k false w
  have hf := fk_wk k (wents ks 0) w
  have h1 := (find_wk k w ks 0 0).1 (among_no k ks hc)
  simp [Instr.mapUpdate, run_underlying Tryz.underlying206, MapKept.run_getObj_map hb, hck, went, hf, h1, MapKept.run_setObj_map _ hb, Result.andThen, setBlock, wents_snoc]
theorem setBlock_heap (w : World) (m : Nat) (o : Obj) (h : m < w.heap.size) : (setBlock w m o).heap[m]? = some o := by simp [setBlock, h]
theorem setBlock_other (w : World) (m k : Nat) (o : Obj) (h : k ≠ m) : (setBlock w m o).heap[k]? = w.heap[k]? := by
  simp only [setBlock, Array.getElem?_setIfInBounds]
  rw [if_neg (fun e => h e.symm)]
theorem setBlock_below {B : Nat} {w w' : World} {m : Nat} (h : Below B w w') (hm : B ≤ m) (o : Obj) : Below B w (setBlock w' m o) :=
  ⟨h.os, h.tape, h.output, by simpa [setBlock] using h.size, fun k hk => (setBlock_other w' m k o (by omega)).trans (h.block k hk)⟩
theorem grs_bad (g : List Gr) (k : Nat) (hk : k < g.length) (h : Vp.grAt g k = false) : Vp.grs g = false := by
  rw [Bool.eq_false_iff]
  intro e
  rw [rest_all e k hk] at h; cases h
theorem grs_all (g : List Gr) (h : ∀ j, j < g.length → Vp.grAt g j = true) : Vp.grs g = true := by
  unfold Vp.grs Ds.rest
  simpa using h
theorem grAt_val (g : List Gr) (k : Nat) (hk : k < g.length) : Vp.grAt g k = (Vp.word (Ds.bl g[k].1) && (Vp.rng 0 3 [g[k].2.2] && !Vp.among (Vp.gk g[k]) ((g.take k).map Vp.gk))) := by
  unfold Vp.grAt
  rw [List.getElem?_eq_getElem hk]
/-- the state ahead of the k-th grant -/
def PV (w wr : World) (cs : Array Value) (g : List Gr) (k : Nat) : Prop :=
  Below w.heap.size w wr ∧ row wr w.heap.size = cs ∧ wr.heap[w.heap.size + 1]? = some (.map (went ((g.take k).map Vp.gk)) ((g.take k).map Vp.gk).length) ∧ w.heap.size + 2 ≤ wr.heap.size
theorem pv_call {w wr w2 : World} {cs g3 k2 : Array Value} {t1 t2 : TypeId} {g : List Gr} {k : Nat} (h : PV w wr cs g k) (_ : 0 < cs.size) (hb : Below ((wr.alloc (.cells g3 t1)).alloc (.cells k2 t2)).heap.size ((wr.alloc (.cells g3 t1)).alloc (.cells k2 t2)) w2) :
    PV w w2 cs g k ∧ (∀ i v, g3[i]? = some v → w2.cell? ⟨wr.heap.size, i, none⟩ = some v) ∧ (∀ i v, k2[i]? = some v → w2.cell? ⟨wr.heap.size + 1, i, none⟩ = some v) ∧ wr.heap.size + 2 ≤ w2.heap.size := by
  obtain ⟨h1, h2, h4, h5⟩ := h
  have s1 : (wr.alloc (.cells g3 t1)).heap.size = wr.heap.size + 1 := by simp
  have s2 : ((wr.alloc (.cells g3 t1)).alloc (.cells k2 t2)).heap.size = wr.heap.size + 2 := by simp
  rw [s2] at hb
  have hz := hb.size
  rw [s2] at hz
  have hk : ∀ j, j < wr.heap.size → w2.heap[j]? = wr.heap[j]? := fun j hj =>
    (hb.block j (by omega)).trans ((heap_alloc_old _ _ (by omega)).trans (heap_alloc_old _ _ hj))
  refine ⟨⟨⟨hb.os.trans h1.os, hb.tape.trans h1.tape, hb.output.trans h1.output, by have := h1.size; omega, fun j hj => (hk j (by omega)).trans (h1.block j hj)⟩, ?_, (hk _ (by omega)).trans h4, by omega⟩, fun i v hv => ?_, fun i v hv => ?_, hz⟩
  · unfold row at *; rw [hk _ (by omega)]; exact h2
  · rw [hb.cell (p := ⟨wr.heap.size, i, none⟩) (by show wr.heap.size < _; omega), World.cell?_of_block (a := ⟨wr.heap.size, i, none⟩) (heap_alloc_old _ _ (by show wr.heap.size < _; omega)), cell_of_row _ wr.heap.size i g3 t1 (0, 0) (heap_alloc_new wr _)]
    exact hv
  · have := cell_of_row _ _ i k2 t2 (0, 0) (heap_alloc_new (wr.alloc (.cells g3 t1)) (.cells k2 t2))
    rw [s1] at this
    rw [hb.cell (p := ⟨wr.heap.size + 1, i, none⟩) (by show wr.heap.size + 1 < _; omega), this]
    exact hv
theorem pv_next {w w2 : World} {cs : Array Value} {g : List Gr} {k : Nat} (h : PV w w2 cs g k) (hk : k < g.length) (o : Obj) :
    PV w (setBlock (w2.alloc o) (w.heap.size + 1) (.map (went ((g.take k).map Vp.gk ++ [Vp.gk g[k]])) (((g.take k).map Vp.gk).length + 1))) cs g (k + 1) := by
  obtain ⟨h1, h2, h4, h5⟩ := h
  have hg : (g.take (k + 1)).map Vp.gk = (g.take k).map Vp.gk ++ [Vp.gk g[k]] := by
    rw [List.take_succ_eq_append_getElem hk, List.map_append]; rfl
  refine ⟨setBlock_below (h1.alloc (by omega) o) (by omega) _, ?_, ?_, by simp [setBlock]; omega⟩
  · unfold row at *
    rw [setBlock_other _ _ _ _ (by omega), heap_alloc_old _ _ (by omega)]; exact h2
  · rw [setBlock_heap _ _ _ (by simp; omega), hg, List.length_append]; rfl
theorem below_cell' {wr w4 : World} {v : Value} {ob : Obj} {a i : Nat} (hb : Below (wr.alloc ob).heap.size (wr.alloc ob) w4) (h : wr.cell? ⟨a, i, none⟩ = some v) (ha : a < wr.heap.size) : w4.cell? ⟨a, i, none⟩ = some v := by
  rw [hb.cell (p := ⟨a, i, none⟩) (by show a < _; simp; omega), World.cell?_of_block (a := ⟨a, i, none⟩) (heap_alloc_old wr ob ha)]; exact h
attribute [local go_sem] vals_0 vals_1 vals_28 vals_31 vals_32
theorem va_prof (e : En) (al gr : Value) (g : List Gr) (w : World) (hm : MaxL w) (hg : GS w gr g) :
    Calls Tryz.prog 146 #[.agg (e.vals al gr)] w fun r w' => r = .returned (.bool (Vp.prof e g)) ∧ Below w.heap.size w w' := by
  obtain ⟨aa, ac, rfl, hz, hcells⟩ := hg
  have hw := fun (s : ByteArray) (W : World) (h : Below w.heap.size w W) => va_word s W (hm.below h)
  have hr := fun (n : Int) (b : Nat) (W : World) h => va_within1 0 3 n b W h
  have HW := Lib.hid hw
  have HR := Lib.hid hr
  have HC := Lib.hid hcells
  clear hw hr hcells
  have hmk := run_makeMap (P := Tryz.prog) 206 (w.alloc (.cells (e.vals al (.slice aa g.length ac)) 27))
  go_enter Tryz.func146, Tryz.ntmps146
  go_wp2_with fail
  go_loopw [11] (fun i wr => ∃ k : Nat, k ≤ g.length ∧ i = .int .i64 k ∧ PV w wr (e.vals al (.slice aa g.length ac)) g k ∧ ∀ j, j < k → Vp.grAt g j = true) (fun i _ => g.length - (intOf i).toNat)
  case atStart =>
    refine ⟨0, Nat.zero_le _, rfl, ⟨by (repeat (first | exact Below.refl _ _ | assumption | (refine Below.drew ?_) | (refine Below.alloc ?_ (by first | (simp; done) | (simp; omega) | omega) _) | (refine Below.setCell ?_ (by first | (simp; done) | (simp; omega) | omega) _))), ?_, ?_, by simp⟩, fun j h => by omega⟩
    · exact row_of (t := 27) (fr := (0, 0)) ((heap_alloc_old _ _ (by simp)).trans (heap_alloc_new w _))
    · have := heap_alloc_new (w.alloc (.cells (e.vals al (.slice aa g.length ac)) 27)) (.map #[] 0)
      show _ = some (Obj.map #[] 0)
      simpa using this
  case round =>
    obtain ⟨k, hk, rfl, hPV, hall⟩ := hrel
    have HA := Lib.hid hall
    clear hall
    have B0 := hPV.1
    have z0 := B0.size
    have z2 := hPV.2.2.2
    have HPV := Lib.hid hPV
    by_cases hlt : k < g.length
    · obtain ⟨ab, ao, rfl, hab, hcl⟩ := HC.out (by omega)
      obtain ⟨p0, p1, p2⟩ := hcl k hlt
      have q0 := (B0.cell (p := ⟨ab, ao + k * 3, none⟩) hab).trans p0
      have q1 := (B0.cell (p := ⟨ab, ao + k * 3 + 1, none⟩) hab).trans p1
      have q2 := (B0.cell (p := ⟨ab, ao + k * 3 + 2, none⟩) hab).trans p2
      have hv := grAt_val g k hlt
      obtain ⟨Gk, hG⟩ : ∃ G, G = g[k] := ⟨_, rfl⟩
      rw [← hG] at hv q0 q1 q2
      have HGk := Lib.hid hG
      clear hG hPV p0 p1 p2 hcl
      obtain ⟨gw, gg, gl⟩ := Gk
      simp only at hv q0 q1 q2
      obtain ⟨c, hc⟩ : ∃ c, c = Vp.among (gw, gg) ((g.take k).map Vp.gk) := ⟨_, rfl⟩
      rw [show Vp.gk (gw, gg, gl) = (gw, gg) from rfl, ← hc] at hv
      have HCt := Lib.hid hc
      clear hc
      have hx := HW.out gw
      have hy := HR.out gl
      generalize Vp.word (Ds.bl gw) = x at hv hx
      generalize Vp.rng 0 3 [gl] = y at hv hy
      have HX := Lib.hid hx
      have HY := Lib.hid hy
      have HV := Lib.hid hv
      clear hx hy hv
      cases x
      · go_wp2_with (first | (go_at_call 135; (with_reducible refine (HX.out _ (by (repeat (first | exact Below.refl _ _ | assumption | (refine Below.drew ?_) | (refine Below.alloc ?_ (by first | (simp; done) | (simp; omega) | omega) _) | (refine Below.setCell ?_ (by first | (simp; done) | (simp; omega) | omega) _))))).mono ?_); rintro _ w2 ⟨rfl, hb⟩; have P2 := pv_call HPV.out (by simp [vals_size]) hb; have d2 := P2.2.1 2 _ rfl; clear hb))
        go_ret
        exact ⟨ret_bool (by unfold Vp.prof; rw [grs_bad g k hlt (by rw [HV.out]; rfl)]; rfl), P2.1.1⟩
      cases y
      · go_wp2_with (first | (go_at_call 135; (with_reducible refine (HX.out _ (by (repeat (first | exact Below.refl _ _ | assumption | (refine Below.drew ?_) | (refine Below.alloc ?_ (by first | (simp; done) | (simp; omega) | omega) _) | (refine Below.setCell ?_ (by first | (simp; done) | (simp; omega) | omega) _))))).mono ?_); rintro _ w2 ⟨rfl, hb⟩; have P2 := pv_call HPV.out (by simp [vals_size]) hb; have d2 := P2.2.1 2 _ rfl; have B2 := P2.1.1; have zz := P2.2.2.2; clear hb) | ((with_reducible refine (HY.out _ _ (by simp [go_sem])).mono ?_); rintro _ w3 ⟨rfl, rfl⟩))
        go_ret
        exact ⟨ret_bool (by unfold Vp.prof; rw [grs_bad g k hlt (by rw [HV.out]; rfl)]; rfl), by (repeat (first | exact Below.refl _ _ | assumption | (refine Below.drew ?_) | (refine Below.alloc ?_ (by first | (simp; done) | (simp; omega) | omega) _) | (refine Below.setCell ?_ (by first | (simp; done) | (simp; omega) | omega) _)))⟩
      cases c
      · have hlw : ∀ W : World, W.heap[w.heap.size + 1]? = some (.map (went ((g.take k).map Vp.gk)) ((g.take k).map Vp.gk).length) → (Instr.lookup 206 (.map (some (w.heap.size + 1))) (.agg #[.string gw, .bool gg]) false).run Tryz.prog W = .ok (.bool false) W := fun W h => by have q := lk_wk W _ _ _ (gw, gg) h; rw [← HCt.out] at q; exact q
        have hmw : ∀ W : World, W.heap[w.heap.size + 1]? = some (.map (went ((g.take k).map Vp.gk)) ((g.take k).map Vp.gk).length) → (Instr.mapUpdate 206 (.map (some (w.heap.size + 1))) (.agg #[.string gw, .bool gg]) (.bool true)).run Tryz.prog W = .ok () (setBlock W (w.heap.size + 1) (.map (went ((g.take k).map Vp.gk ++ [(gw, gg)])) (((g.take k).map Vp.gk).length + 1))) := fun W h => mu_wk W _ _ (gw, gg) h HCt.out.symm
        have HLW := Lib.hid hlw
        have HMW := Lib.hid hmw
        clear hlw hmw
        go_wp2_with (first | (go_at_call 135; (with_reducible refine (HX.out _ (by (repeat (first | exact Below.refl _ _ | assumption | (refine Below.drew ?_) | (refine Below.alloc ?_ (by first | (simp; done) | (simp; omega) | omega) _) | (refine Below.setCell ?_ (by first | (simp; done) | (simp; omega) | omega) _))))).mono ?_); rintro _ w2 ⟨rfl, hb⟩; have P2 := pv_call HPV.out (by simp [vals_size]) hb; have d2 := P2.2.1 2 _ rfl; have B2 := P2.1.1; have zz := P2.2.2.2; have e0 := P2.2.2.1 0 _ rfl; have e1 := P2.2.2.1 1 _ rfl; have hmp := P2.1.2.2.1; have hl := (fun o : Obj => HLW.out (w2.alloc o) ((heap_alloc_old w2 o (by omega)).trans hmp)); have hu := (fun o : Obj => HMW.out (w2.alloc o) ((heap_alloc_old w2 o (by omega)).trans hmp)); have zz8 : wr.heap.size < w2.heap.size := (by omega); have zz9 : wr.heap.size + 1 < w2.heap.size := (by omega); clear hb hmp) | ((with_reducible refine (HY.out _ _ (by simp [go_sem])).mono ?_); rintro _ w3 ⟨rfl, rfl⟩))
        go_roundw
        case rel =>
          refine ⟨k + 1, by omega, by go_num, ?_, ?_⟩
          · have := pv_next P2.1 hlt (.cells #[.int .i64 gl] 3)
            rw [← HGk.out, show ((g.take k).map Vp.gk).length = k by rw [List.length_map, List.length_take]; omega, List.map_take] at this
            exact this
          · intro j hj
            by_cases e : j = k
            · subst e; rw [HV.out]; rfl
            · exact HA.out j (by omega)
        case measure => simp [intOf]; omega
      · have hlw : ∀ W : World, W.heap[w.heap.size + 1]? = some (.map (went ((g.take k).map Vp.gk)) ((g.take k).map Vp.gk).length) → (Instr.lookup 206 (.map (some (w.heap.size + 1))) (.agg #[.string gw, .bool gg]) false).run Tryz.prog W = .ok (.bool true) W := fun W h => by have q := lk_wk W _ _ _ (gw, gg) h; rw [← HCt.out] at q; exact q
        have HLW := Lib.hid hlw
        clear hlw
        go_wp2_with (first | (go_at_call 135; (with_reducible refine (HX.out _ (by (repeat (first | exact Below.refl _ _ | assumption | (refine Below.drew ?_) | (refine Below.alloc ?_ (by first | (simp; done) | (simp; omega) | omega) _) | (refine Below.setCell ?_ (by first | (simp; done) | (simp; omega) | omega) _))))).mono ?_); rintro _ w2 ⟨rfl, hb⟩; have P2 := pv_call HPV.out (by simp [vals_size]) hb; have d2 := P2.2.1 2 _ rfl; have B2 := P2.1.1; have zz := P2.2.2.2; have e0 := P2.2.2.1 0 _ rfl; have e1 := P2.2.2.1 1 _ rfl; have hmp := P2.1.2.2.1; have hl := (fun o : Obj => HLW.out (w2.alloc o) ((heap_alloc_old w2 o (by omega)).trans hmp)); have zz8 : wr.heap.size < w2.heap.size := (by omega); have zz9 : wr.heap.size + 1 < w2.heap.size := (by omega); clear hb hmp) | ((with_reducible refine (HY.out _ _ (by simp [go_sem])).mono ?_); rintro _ w3 ⟨rfl, rfl⟩))
        go_ret
        exact ⟨ret_bool (by unfold Vp.prof; rw [grs_bad g k hlt (by rw [HV.out]; rfl)]; rfl), by (repeat (first | exact Below.refl _ _ | assumption | (refine Below.drew ?_) | (refine Below.alloc ?_ (by first | (simp; done) | (simp; omega) | omega) _) | (refine Below.setCell ?_ (by first | (simp; done) | (simp; omega) | omega) _)))⟩
    · have R0 := hPV.2.1
      have v28 := cell_row R0 28 _ (vals_28 e al (.slice aa g.length ac))
      have v31 := cell_row R0 31 _ (vals_31 e al (.slice aa g.length ac))
      have v32 := cell_row R0 32 _ (vals_32 e al (.slice aa g.length ac))
      have zz1 : w.heap.size < wr.heap.size := by omega
      have zz2 : w.heap.size ≠ wr.heap.size := by omega
      have hgs : Vp.grs g = true := grs_all g fun j hj => HA.out j (by omega)
      have hx := HR.out e.lev
      have hw := HW.out e.owner
      have hD : Vp.prof e g = (Vp.rng 0 3 [e.lev] && (((Ds.bl e.owner).isEmpty || Vp.word (Ds.bl e.owner)) && decide (g.length ≤ 8))) := by
        unfold Vp.prof Vp.own; rw [hgs, Bool.true_and]
      generalize Vp.rng 0 3 [e.lev] = x at hx hD
      generalize Vp.word (Ds.bl e.owner) = y at hw hD
      have HX := Lib.hid hx
      have HY := Lib.hid hw
      have HD := Lib.hid hD
      clear hx hw hgs hPV R0 hD
      cases x
      · go_wp2_with ((with_reducible refine (HX.out _ _ (by simp [go_sem])).mono ?_); rintro _ w3 ⟨rfl, rfl⟩)
        go_ret
        exact ⟨ret_bool (by rw [HD.out]; rfl), by (repeat (first | exact Below.refl _ _ | assumption | (refine Below.drew ?_) | (refine Below.alloc ?_ (by first | (simp; done) | (simp; omega) | omega) _) | (refine Below.setCell ?_ (by first | (simp; done) | (simp; omega) | omega) _)))⟩
      by_cases h0 : e.owner.size = 0
      · have e0 : e.owner.toList.isEmpty = true := isEmpty_nil _ h0
        have HE := Lib.hid (show (Ds.bl e.owner).isEmpty = true by rw [List.isEmpty_iff_length_eq_zero, Ds.bl_length]; exact h0)
        clear h0
        go_wp2_with ((with_reducible refine (HX.out _ _ (by simp [go_sem])).mono ?_); rintro _ w3 ⟨rfl, rfl⟩)
        go_ret
        exact ⟨ret_bool (by rw [HD.out, HE.out, Bool.true_or, Bool.true_and, Bool.true_and, Bool.eq_iff_iff, decide_eq_true_eq, decide_eq_true_eq]; omega), by (repeat (first | exact Below.refl _ _ | assumption | (refine Below.drew ?_) | (refine Below.alloc ?_ (by first | (simp; done) | (simp; omega) | omega) _) | (refine Below.setCell ?_ (by first | (simp; done) | (simp; omega) | omega) _)))⟩
      · have e0 : e.owner.toList.isEmpty = false := isEmpty_of _ (by omega)
        have HE := Lib.hid (show (Ds.bl e.owner).isEmpty = false by rw [Bool.eq_false_iff, Ne, List.isEmpty_iff_length_eq_zero, Ds.bl_length]; exact h0)
        clear h0
        cases y
        · go_wp2_with (first | ((with_reducible refine (HX.out _ _ (by simp [go_sem])).mono ?_); rintro _ w3 ⟨rfl, rfl⟩) | (go_at_call 135; (with_reducible refine (HY.out _ (by (repeat (first | exact Below.refl _ _ | assumption | (refine Below.drew ?_) | (refine Below.alloc ?_ (by first | (simp; done) | (simp; omega) | omega) _) | (refine Below.setCell ?_ (by first | (simp; done) | (simp; omega) | omega) _))))).mono ?_); rintro _ w4 ⟨rfl, hb⟩; have B4 := Below.trans (show Below w.heap.size w _ by (repeat (first | exact Below.refl _ _ | assumption | (refine Below.drew ?_) | (refine Below.alloc ?_ (by first | (simp; done) | (simp; omega) | omega) _) | (refine Below.setCell ?_ (by first | (simp; done) | (simp; omega) | omega) _)))) (hb.mono (by simp; omega)); clear hb))
          go_ret
          exact ⟨ret_bool (by rw [HD.out, HE.out]; rfl), B4⟩
        · go_wp2_with (first | ((with_reducible refine (HX.out _ _ (by simp [go_sem])).mono ?_); rintro _ w3 ⟨rfl, rfl⟩) | (go_at_call 135; (with_reducible refine (HY.out _ (by (repeat (first | exact Below.refl _ _ | assumption | (refine Below.drew ?_) | (refine Below.alloc ?_ (by first | (simp; done) | (simp; omega) | omega) _) | (refine Below.setCell ?_ (by first | (simp; done) | (simp; omega) | omega) _))))).mono ?_); rintro _ w4 ⟨rfl, hb⟩; have c32 := below_cell' hb v32 (by omega); have B4 := Below.trans (show Below w.heap.size w _ by (repeat (first | exact Below.refl _ _ | assumption | (refine Below.drew ?_) | (refine Below.alloc ?_ (by first | (simp; done) | (simp; omega) | omega) _) | (refine Below.setCell ?_ (by first | (simp; done) | (simp; omega) | omega) _)))) (hb.mono (by simp; omega)); clear hb))
          go_ret
          exact ⟨ret_bool (by rw [HD.out, HE.out, Bool.false_or, Bool.true_and, Bool.true_and, Bool.eq_iff_iff, decide_eq_true_eq, decide_eq_true_eq]; omega), B4⟩
end Go.Proofs.YtihbihkmchacnaaGreatDoor
