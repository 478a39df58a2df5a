/- Contracts of package generation: fold. -/
import Derived.Test.YtlkfhlgngkgflaaGreatDoorGeB
import Derived.Test.YtlkfhlgngkgflaaGreatDoorGf
import Derived.Laws.EntriesVeiled
namespace Go.Proofs.YtlkfhlgngkgflaaGreatDoor
open Go.RowKit
set_option maxHeartbeats 1600000
set_option maxRecDepth 8000
theorem ge_clone (v : Value) (l : List Int) (w : World) (h : IS w v l) :
    Calls Tryz.prog 31 #[v] w fun e w' => ∃ v', e = .returned v' ∧ w'.ownsRow w.heap.size 3 1 v' l.length (iv l) ∧ Below w.heap.size w w' := by
  obtain ⟨a, c, rfl, hz, hc⟩ := h
  by_cases h0 : 0 < l.length
  · obtain ⟨b, o, rfl, -, hc⟩ := hc h0
    refine (Tryz.slices_Clone_int b o l.length c l w (Nat.le_refl _) (by omega) (fun j hj => ?_)).mono ?_
    · rw [hc j hj]; simp [List.getD_eq_getElem?_getD, List.getElem?_eq_getElem hj]
    · rintro e w' ⟨v', rfl, h1, -, h2⟩
      rw [List.take_length] at h1
      exact ⟨v', rfl, h1, h2⟩
  · obtain rfl : l = [] := List.eq_nil_of_length_eq_zero (by omega)
    cases a with
    | none =>
      refine (Tryz.slices_Clone_int_nil 0 c w).mono ?_
      rintro e w' ⟨rfl, rfl⟩
      exact ⟨_, rfl, ⟨rfl, .inl ⟨rfl, rfl⟩⟩, Below.refl _ _⟩
    | some a =>
      refine (Tryz.slices_Clone_int_zero a c w).mono ?_
      rintro e w' ⟨v', rfl, h1, -, h2⟩
      exact ⟨v', rfl, h1, h2⟩
theorem res_row_tmp3 {P : Program} {fn : Func} {p u v x : Tmp} {ty : TypeId} {d : TypeDesc} {n : Nat} (h : fn.results = #[.cell p ty, .tmp u, .tmp v, .tmp x]) (hu : P.underlying ty = some d) (hd : (match d with | .struct _ | .array _ _ => true | _ => false) = true) (hi : (P.info? ty).map (·.size) = some (n + 1))
    (tmps : Array Value) (w : World) (g : Nat) (hp : tmps.getD p undef = .pointer (some ⟨g, 0, none⟩)) (hz : (row w g).size = n + 1) :
    (results fn tmps).run P w = .ok (.tuple #[.agg (row w g), tmps.getD u undef, tmps.getD v undef, tmps.getD x undef]) w := by
  have hl := run_loadVar_block w g n ty d hu hd hi hz
  have hp' : tmps[p]?.getD undef = .pointer (some ⟨g, 0, none⟩) := by simpa using hp
  simp only [results, h]
  simp [Result.andThen, hp', asAddr, hl]
theorem res_row_tmp2 {P : Program} {fn : Func} {p u v : Tmp} {ty : TypeId} {d : TypeDesc} {n : Nat} (h : fn.results = #[.cell p ty, .tmp u, .tmp v]) (hu : P.underlying ty = some d) (hd : (match d with | .struct _ | .array _ _ => true | _ => false) = true) (hi : (P.info? ty).map (·.size) = some (n + 1))
    (tmps : Array Value) (w : World) (g : Nat) (hp : tmps.getD p undef = .pointer (some ⟨g, 0, none⟩)) (hz : (row w g).size = n + 1) :
    (results fn tmps).run P w = .ok (.tuple #[.agg (row w g), tmps.getD u undef, tmps.getD v undef]) w := by
  have hl := run_loadVar_block w g n ty d hu hd hi hz
  have hp' : tmps[p]?.getD undef = .pointer (some ⟨g, 0, none⟩) := by simpa using hp
  simp only [results, h]
  simp [Result.andThen, hp', asAddr, hl]
/-- a slice of numbers in memory from base on -/
def IB (base : Nat) (w : World) (v : Value) (l : List Int) : Prop := IS w v l ∧ ∀ x, v.ownBlock = some x → base ≤ x
theorem IB.nil (base : Nat) (w : World) : IB base w (.slice none 0 0) [] := ⟨IS.nil w, fun _ h => by cases h⟩
theorem IB.keep {base : Nat} {w w' : World} {v : Value} {l : List Int} (h : IB base w v l) (hs : w.heap.size ≤ w'.heap.size) (k : ∀ x, base ≤ x → x < w.heap.size → w'.heap[x]? = w.heap[x]?) : IB base w' v l := by
  obtain ⟨⟨a, c, rfl, h1, h2⟩, h3⟩ := h
  refine ⟨⟨a, c, rfl, h1, fun h0 => ?_⟩, h3⟩
  obtain ⟨b, o, rfl, hb, hc⟩ := h2 h0
  exact ⟨b, o, rfl, Nat.lt_of_lt_of_le hb hs, fun j hj => (World.cell?_of_block (a := ⟨b, o + j, none⟩) (k b (h3 b rfl) hb)).trans (hc j hj)⟩
theorem IB.mono {base base' : Nat} {w : World} {v : Value} {l : List Int} (h : IB base w v l) (hb : base' ≤ base) : IB base' w v l := ⟨h.1, fun x hx => Nat.le_trans hb (h.2 x hx)⟩
/-- what fold hands back: err, group, what there is, what has gone -/
def FoldR (F : Int × Int × List Int × List Int) (cs : Int → Array Value) (w : World) (r : Ending) (w' : World) : Prop :=
  ∃ v1 v2, r = .returned (.tuple #[.agg (if F.1 = 0 then cs F.2.1 else zcells 0 ⟨#[]⟩), v1, v2, .int .i64 F.1]) ∧ IB w.heap.size w' v1 F.2.2.1 ∧ IB w.heap.size w' v2 F.2.2.2 ∧ Below w.heap.size w w'
theorem FoldR.bad {w w' : World} {cs : Int → Array Value} {x : Int} {z : Array Value} (hx : x ≠ 0) (hz : z = zcells 0 ⟨#[]⟩) (B : Below w.heap.size w w') : FoldR (x, 0, [], []) cs w (.returned (.tuple #[.agg z, .slice none 0 0, .slice none 0 0, .int .i64 x])) w' :=
  ⟨_, _, by rw [if_neg hx, hz], IB.nil _ _, IB.nil _ _, B⟩
attribute [local go_sem ↓] ldEnt stEnt stEntRow
attribute [local go_sem] Held_drew isHead_mk headOf_mk cellsOfV_mk isAggV_mk row_new row_new2 row_new2' row_drew row_drewN vals_0 vals_25 vals_26 vals_27 vals_size allOne_nil allOne_cons one_int one_bool one_string one_pointer one_slice
theorem fd1 (w w1 : World) (cs z : Array Value) (t1 t2 : TypeId) (hz : z.size = 33) (hb : Below ((w.alloc (.cells cs t1)).alloc (.cells z t2)).heap.size ((w.alloc (.cells cs t1)).alloc (.cells z t2)) w1) :
    EB w1 w.heap.size cs ∧ Held w1 (w.heap.size + 1) 33 ∧ w.heap.size + 2 ≤ w1.heap.size ∧ Below w.heap.size w w1 := by
  have s1 : (w.alloc (.cells cs t1)).heap.size = w.heap.size + 1 := by simp
  have s2 : ((w.alloc (.cells cs t1)).alloc (.cells z t2)).heap.size = w.heap.size + 1 + 1 := by simp
  rw [s2] at hb
  have hs := hb.size
  rw [s2] at hs
  have e1 := (EB.new w cs t1).of_block (heap_alloc_old (w.alloc (.cells cs t1)) (.cells z t2) (by simp)) (by simp)
  have e2 := EB.new (w.alloc (.cells cs t1)) z t2
  rw [s1] at e2
  exact ⟨e1.of_block (hb.block _ (by omega)) (by rw [s2]; omega), held_of (e2.of_block (hb.block _ (by omega)) (by rw [s2]; omega)) hz (by decide), hs, ((Below.refl w.heap.size w).alloc (Nat.le_refl _) _).alloc (by omega) _ |>.trans (hb.mono (by omega))⟩
theorem ge_fold_bad (e : En) (al gr exv lv : Value) (l2 ex : List Int) (g2 : List Gr) (cs : Int → Array Value) (w : World) (hm : MaxL w) (h1 : IS w al l2) (h2 : GS w gr g2) (h3 : IS w exv ex) (hok : okE e l2 g2 ex = false) :
    Calls Tryz.prog 27 #[.agg (e.vals al gr), exv, lv] w (FoldR (1, 0, [], []) cs w) := by
  have hv := fun W (b : Below w.heap.size w W) => ge_valid e al gr exv l2 ex g2 W (hm.below b) (h1.below b) (h2.below b) (h3.below b)
  rw [hok] at hv
  have HV := Lib.hid hv
  clear hv hok
  go_enter Tryz.func27, Tryz.ntmps27
  go_wp2_with ((go_at_call 19; (with_reducible refine (HV.out _ (by (repeat (first | exact Below.refl _ _ | assumption | (refine Below.drew ?_) | (refine Below.alloc ?_ (by first | (simp; done) | (simp; omega) | omega) _) | (refine Below.setCell ?_ (by first | (simp; done) | (simp; omega) | omega) _))))).mono ?_)); rintro _ w1 ⟨rfl, hb⟩; obtain ⟨E1, H1, z1, B1⟩ := fd1 _ _ _ _ _ _ rfl hb; clear hb)
  have hrow := row_setRow H1 (zlit 0 ⟨#[]⟩)
  refine bodyPost_ret (res_row_tmp3 (n := 32) rfl Tryz.underlying34 rfl (by kernel_rfl) _ _ (w.heap.size + 1) rfl (congrArg Array.size hrow)) rfl ?_
  exact FoldR.bad (cs := cs) (x := 1) (by decide) (hrow.trans (zlit_eq _ _)) (below_setRow B1 (show w.heap.size ≤ w.heap.size + 1 by omega) _)
end Go.Proofs.YtlkfhlgngkgflaaGreatDoor
