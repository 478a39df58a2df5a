/- Several texts in one: GeS GeV GeL. -/
import Derived.Test.YtbkbgkicpfbjfaaGreatDoorGeD
section
/- Contracts of package generation: RollIn. -/
namespace Go.Proofs.YtbkbgkicpfbjfaaGreatDoor
open Go.RowKit
set_option maxHeartbeats 800000
set_option maxRecDepth 4000
def foldA (e : En) (l2 : List Int) (g2 : List Gr) (ex l : List Int) : Int × Int × List Int × List Int := if okE e l2 g2 ex then Ge.foldG e.lim e.em l e.last ex [] else (1, 0, [], [])
theorem ge_fold (e : En) (al gr exv lv : Value) (l2 ex l : List Int) (g2 : List Gr) (w : World) (hm : MaxL w) (h1 : IS w al l2) (h2 : GS w gr g2) (h3 : IS w exv ex) (h4 : IS w lv l) (hex : ex.length ≤ 200) (hll : l.length ≤ 200) :
    Calls Tryz.prog 46 #[.agg (e.vals al gr), exv, lv] w (FoldR (foldA e l2 g2 ex l) (fun m => ({ e with last := m } : En).vals al gr) w) := by
  unfold foldA
  cases hok : okE e l2 g2 ex
  · exact ge_fold_bad e al gr exv lv l2 ex g2 _ w hm h1 h2 h3 hok
  · exact ge_fold_good e al gr exv lv l2 ex l g2 w hm h1 h2 h3 h4 hok hex hll
/-- the group that is handed back -/
def rolled (e : En) (al gr : Value) (F : Int × Int × List Int × List Int) : Array Value := if F.1 = 0 then ({ e with last := F.2.1 } : En).vals al gr else zcells 0 ⟨#[]⟩
theorem rolled_size (e : En) (al gr : Value) (F : Int × Int × List Int × List Int) : (rolled e al gr F).size = 33 := by
  unfold rolled; split
  · exact vals_size _ _ _
  · exact vals_size _ _ _
theorem rolled_one (e : En) (al gr : Value) (F : Int × Int × List Int × List Int) (h1 : one al = true) (h2 : one gr = true) : allOne (rolled e al gr F).toList = true := by
  unfold rolled; split
  · exact vals_one _ _ _ h1 h2
  · exact vals_one _ _ _ rfl rfl
theorem IS.one {w : World} {v : Value} {l : List Int} (h : IS w v l) : one v = true := by obtain ⟨_, _, rfl, -⟩ := h; rfl
theorem GS.one {w : World} {v : Value} {l : List Gr} (h : GS w v l) : one v = true := by obtain ⟨_, _, rfl, -⟩ := h; rfl
theorem row_alloc {w : World} {g n : Nat} (h : (row w g).size = n + 1) (o : Obj) : row (w.alloc o) g = row w g := by
  unfold row at *
  rcases Nat.lt_or_ge g w.heap.size with hl | hl
  · rw [heap_alloc_old w o hl]
  · rw [Array.getElem?_eq_none hl] at h; simp at h
theorem Held.alloc {w : World} {g n : Nat} (h : Held w g n) (o : Obj) : Held (w.alloc o) g n := by
  obtain ⟨t, fr, hb⟩ := held_block h
  have hl : g < w.heap.size := by
    rcases Nat.lt_or_ge g w.heap.size with hl | hl
    · exact hl
    · rw [Array.getElem?_eq_none hl] at hb; cases hb
  exact h.of_block (heap_alloc_old w o hl)
theorem IS.one1 (w : World) (n : Int) (t : TypeId) : IS (w.alloc (.cells #[.int .i64 n] t)) (.slice (some ⟨w.heap.size, 0, none⟩) 1 1) [n] :=
  ⟨_, 1, rfl, by simp, fun _ => ⟨w.heap.size, 0, rfl, by simp, fun k hk => by
    obtain rfl : k = 0 := by simpa using hk
    rw [cell_of_row _ w.heap.size (0 + 0) _ t (0, 0) (heap_alloc_new w _)]; rfl⟩⟩
attribute [local go_sem ↓] ldEnt stEnt stEntRow
attribute [local go_sem] Held_drew isHead_mk headOf_mk cellsOfV_mk isAggV_mk row_new row_new2 row_new2' row_drew row_drewN vals_size rolled_size
theorem ge_rollin (e : En) (al gr exv : Value) (l2 ex : List Int) (g2 : List Gr) (n : Int) (w : World) (hm : MaxL w) (h1 : IS w al l2) (h2 : GS w gr g2) (h3 : IS w exv ex) (hex : ex.length ≤ 200) :
    Calls Tryz.prog 24 #[.agg (e.vals al gr), exv, .int .i64 n] w fun r w' => ∃ v, r = .returned (.tuple #[.agg (rolled e al gr (foldA e l2 g2 ex [n])), v, .int .i64 (foldA e l2 g2 ex [n]).1]) ∧ IB w.heap.size w' v (foldA e l2 g2 ex [n]).2.2.2 ∧ Below w.heap.size w w' := by
  have B0 : ∀ z t1 t2, Below w.heap.size w (((w.alloc (.cells (e.vals al gr) t1)).alloc (.cells z t2)).alloc (.cells #[.int .i64 n] 3)) := fun z t1 t2 => by (repeat (first | exact Below.refl _ _ | assumption | (refine Below.drew ?_) | (refine Below.alloc ?_ (by first | (simp; done) | (simp; omega) | omega) _) | (refine Below.setCell ?_ (by first | (simp; done) | (simp; omega) | omega) _)))
  have hf : ∀ z t1 t2, Calls Tryz.prog 46 #[.agg (e.vals al gr), exv, .slice (some ⟨w.heap.size + 1 + 1, 0, none⟩) 1 1] (((w.alloc (.cells (e.vals al gr) t1)).alloc (.cells z t2)).alloc (.cells #[.int .i64 n] 3)) (FoldR (foldA e l2 g2 ex [n]) (fun m => ({ e with last := m } : En).vals al gr) (((w.alloc (.cells (e.vals al gr) t1)).alloc (.cells z t2)).alloc (.cells #[.int .i64 n] 3))) := fun z t1 t2 => by
    have hi := IS.one1 ((w.alloc (.cells (e.vals al gr) t1)).alloc (.cells z t2)) n 3
    rw [show ((w.alloc (.cells (e.vals al gr) t1)).alloc (.cells z t2)).heap.size = w.heap.size + 1 + 1 by simp] at hi
    exact ge_fold e al gr exv _ l2 ex [n] g2 _ (hm.below (B0 z t1 t2)) (h1.below (B0 z t1 t2)) (h2.below (B0 z t1 t2)) (h3.below (B0 z t1 t2)) hi hex (by simp)
  have ho := rolled_one e al gr (foldA e l2 g2 ex [n]) h1.one h2.one
  unfold FoldR at hf
  have e1 : (if (foldA e l2 g2 ex [n]).1 = 0 then ({ e with last := (foldA e l2 g2 ex [n]).2.1 } : En).vals al gr else zcells 0 ⟨#[]⟩) = rolled e al gr (foldA e l2 g2 ex [n]) := rfl
  simp only [e1] at hf
  have hx := rolled_size e al gr (foldA e l2 g2 ex [n])
  generalize rolled e al gr (foldA e l2 g2 ex [n]) = X at hf ho hx ⊢
  generalize foldA e l2 g2 ex [n] = F at hf ⊢
  have HF := Lib.hid hf
  clear hf h1 h2 h3 e1
  have R1 : ∀ t1 o1 o2, row (((w.alloc (.cells (e.vals al gr) t1)).alloc o1).alloc o2) w.heap.size = e.vals al gr := fun t1 o1 o2 => row_of (t := t1) (fr := (0, 0)) ((heap_alloc_old _ _ (by simp; omega)).trans ((heap_alloc_old _ _ (by simp)).trans (heap_alloc_new w _)))
  go_enter Tryz.func24, Tryz.ntmps24
  go_wp2_with ((go_at_call 46; (with_reducible refine (HF.out _ _ _).mono ?_)); rintro _ w1 ⟨v1, v2, rfl, i1, i2, hb⟩; obtain ⟨E1, H1, z1, B1⟩ := fd1 w w1 _ _ 27 27 rfl (below1 hb |> fun h => h); have H2 := H1.alloc; have HI := Lib.hid i2; clear hb i1 i2)
  have hrow := row_setRow (H2 (.cells X 27)) X
  refine bodyPost_ret (res_row_tmp2 (n := 32) rfl Tryz.underlying27 rfl (by kernel_rfl) _ _ (w.heap.size + 1) rfl ((congrArg Array.size hrow).trans hx)) rfl ?_
  rw [hrow]
  have hI := HI.out
  rw [show (((w.alloc _).alloc _).alloc _).heap.size = w.heap.size + 1 + 1 + 1 by simp] at hI
  exact ⟨v2, rfl, (hI.keep (by simp) (fun x hx1 hx2 => (setRow_block _ _ _ _ (by omega)).trans (heap_alloc_old _ _ hx2))).mono (by omega), below_setRow (B1.alloc (by omega) _) (show w.heap.size ≤ w.heap.size + 1 by omega) _⟩
end Go.Proofs.YtbkbgkicpfbjfaaGreatDoor

end
section
/- Contracts of package generation: Roll. -/
namespace Go.Proofs.YtbkbgkicpfbjfaaGreatDoor
open Go.RowKit
set_option maxHeartbeats 800000
set_option maxRecDepth 4000
attribute [local go_sem ↓] ldEnt stEnt stEntRow
attribute [local go_sem] Held_drew isHead_mk headOf_mk cellsOfV_mk isAggV_mk row_new row_new2 row_new2' row_drew row_drewN vals_size rolled_size
theorem ge_roll (e : En) (al gr exv lv : Value) (l2 ex l : List Int) (g2 : List Gr) (w : World) (hm : MaxL w) (h1 : IS w al l2) (h2 : GS w gr g2) (h3 : IS w exv ex) (h4 : IS w lv l) (hex : ex.length ≤ 200) (hll : l.length ≤ 200) :
    Calls Tryz.prog 17 #[.agg (e.vals al gr), exv, lv] w fun r w' => ∃ v, r = .returned (.tuple #[.agg (rolled e al gr (foldA e l2 g2 ex l)), v, .int .i64 (foldA e l2 g2 ex l).1]) ∧ IB w.heap.size w' v (foldA e l2 g2 ex l).2.2.1 ∧ Below w.heap.size w w' := by
  have B0 : ∀ z t1 t2, Below w.heap.size w ((w.alloc (.cells (e.vals al gr) t1)).alloc (.cells z t2)) := fun z t1 t2 => by (repeat (first | exact Below.refl _ _ | assumption | (refine Below.drew ?_) | (refine Below.alloc ?_ (by first | (simp; done) | (simp; omega) | omega) _) | (refine Below.setCell ?_ (by first | (simp; done) | (simp; omega) | omega) _)))
  have hf : ∀ z t1 t2, Calls Tryz.prog 46 #[.agg (e.vals al gr), exv, lv] ((w.alloc (.cells (e.vals al gr) t1)).alloc (.cells z t2)) (FoldR (foldA e l2 g2 ex l) (fun m => ({ e with last := m } : En).vals al gr) ((w.alloc (.cells (e.vals al gr) t1)).alloc (.cells z t2))) := fun z t1 t2 => by
    exact ge_fold e al gr exv lv l2 ex l g2 _ (hm.below (B0 z t1 t2)) (h1.below (B0 z t1 t2)) (h2.below (B0 z t1 t2)) (h3.below (B0 z t1 t2)) (h4.below (B0 z t1 t2)) hex hll
  have ho := rolled_one e al gr (foldA e l2 g2 ex l) h1.one h2.one
  unfold FoldR at hf
  have e1 : (if (foldA e l2 g2 ex l).1 = 0 then ({ e with last := (foldA e l2 g2 ex l).2.1 } : En).vals al gr else zcells 0 ⟨#[]⟩) = rolled e al gr (foldA e l2 g2 ex l) := rfl
  simp only [e1] at hf
  have hx := rolled_size e al gr (foldA e l2 g2 ex l)
  generalize rolled e al gr (foldA e l2 g2 ex l) = X at hf ho hx ⊢
  generalize foldA e l2 g2 ex l = F at hf ⊢
  have HF := Lib.hid hf
  clear hf h1 h2 h3 h4 e1
  go_enter Tryz.func17, Tryz.ntmps17
  go_wp2_with ((go_at_call 46; (with_reducible refine (HF.out _ _ _).mono ?_)); rintro _ w1 ⟨v1, v2, rfl, i1, i2, hb⟩; obtain ⟨E1, H1, z1, B1⟩ := fd1 w w1 _ _ 27 27 rfl hb; have H2 := H1.alloc; have HI := Lib.hid i1; clear hb i1 i2)
  have hrow := row_setRow (H2 (.cells X 27)) X
  refine bodyPost_ret (res_row_tmp2 (n := 32) rfl Tryz.underlying27 rfl (by kernel_rfl) _ _ (w.heap.size + 1) rfl ((congrArg Array.size hrow).trans hx)) rfl ?_
  rw [hrow]
  have hI := HI.out
  rw [show ((w.alloc _).alloc _).heap.size = w.heap.size + 1 + 1 by simp] at hI
  exact ⟨v1, rfl, (hI.keep (by simp) (fun x hx1 hx2 => (setRow_block _ _ _ _ (by omega)).trans (heap_alloc_old _ _ hx2))).mono (by omega), below_setRow (B1.alloc (by omega) _) (show w.heap.size ≤ w.heap.size + 1 by omega) _⟩
end Go.Proofs.YtbkbgkicpfbjfaaGreatDoor

end
section
/- Contracts of package generation: Limit. -/
namespace Go.Proofs.YtbkbgkicpfbjfaaGreatDoor
open Go.RowKit
set_option maxHeartbeats 800000
set_option maxRecDepth 4000
def limA (e : En) (l2 : List Int) (g2 : List Gr) (ex : List Int) (lim : Int) : Int × List Int := if okE e l2 g2 ex then (if lim < 1 ∨ 63 < lim then (2, []) else (0, ex.take (ex.length - lim.toNat))) else (1, [])
attribute [local go_sem ↓] ldEnt stEnt stEntRow
attribute [local go_sem] Held_drew isHead_mk headOf_mk cellsOfV_mk isAggV_mk row_new row_new2 row_new2' row_drew row_drewN vals_size
theorem ge_limit_arg (e : En) (al gr exv : Value) (l2 ex : List Int) (g2 : List Gr) (lim : Int) (w : World) (hm : MaxL w) (h1 : IS w al l2) (h2 : GS w gr g2) (h3 : IS w exv ex) (hok : okE e l2 g2 ex = false) :
    Calls Tryz.prog 26 #[.agg (e.vals al gr), exv, .int .i64 lim] w fun r w' => r = .returned (.tuple #[.slice none 0 0, .int .i64 1]) ∧ Below w.heap.size w w' := by
  have hv := fun W (b : Below w.heap.size w W) => ge_valid e al gr exv l2 ex g2 W (hm.below b) (h1.below b) (h2.below b) (h3.below b)
  rw [hok] at hv
  have HV := Lib.hid hv
  clear hv h1 h2 h3
  go_enter Tryz.func26, Tryz.ntmps26
  go_wp2_with (go_at_call 22; (with_reducible refine (HV.out _ (by (repeat (first | exact Below.refl _ _ | assumption | (refine Below.drew ?_) | (refine Below.alloc ?_ (by first | (simp; done) | (simp; omega) | omega) _) | (refine Below.setCell ?_ (by first | (simp; done) | (simp; omega) | omega) _))))).mono ?_); rintro _ w1 ⟨rfl, hb⟩; have B := below1 hb; clear hb)
  go_ret2
  exact ⟨rfl, B⟩
theorem ge_limit_range (e : En) (al gr exv : Value) (l2 ex : List Int) (g2 : List Gr) (lim : Int) (w : World) (hm : MaxL w) (h1 : IS w al l2) (h2 : GS w gr g2) (h3 : IS w exv ex) (hok : okE e l2 g2 ex = true) (hl : lim < 1 ∨ 63 < lim) :
    Calls Tryz.prog 26 #[.agg (e.vals al gr), exv, .int .i64 lim] w fun r w' => r = .returned (.tuple #[.slice none 0 0, .int .i64 2]) ∧ Below w.heap.size w w' := by
  have hv := fun W (b : Below w.heap.size w W) => ge_valid e al gr exv l2 ex g2 W (hm.below b) (h1.below b) (h2.below b) (h3.below b)
  rw [hok] at hv
  have HV := Lib.hid hv
  clear hv h1 h2 h3
  by_cases h : lim < 1
  · have q1 : decide (lim < 1) = true := by rw [decide_eq_true_eq]; omega
    clear hl h
    go_enter Tryz.func26, Tryz.ntmps26
    go_wp2_with (go_at_call 22; (with_reducible refine (HV.out _ (by (repeat (first | exact Below.refl _ _ | assumption | (refine Below.drew ?_) | (refine Below.alloc ?_ (by first | (simp; done) | (simp; omega) | omega) _) | (refine Below.setCell ?_ (by first | (simp; done) | (simp; omega) | omega) _))))).mono ?_); rintro _ w1 ⟨rfl, hb⟩; have B := below1 hb; clear hb)
    go_ret2
    exact ⟨rfl, B⟩
  · have q1 : decide (lim < 1) = false := by rw [decide_eq_false_iff_not]; omega
    have q2 : decide (63 < lim) = true := by rw [decide_eq_true_eq]; omega
    clear hl h
    go_enter Tryz.func26, Tryz.ntmps26
    go_wp2_with (go_at_call 22; (with_reducible refine (HV.out _ (by (repeat (first | exact Below.refl _ _ | assumption | (refine Below.drew ?_) | (refine Below.alloc ?_ (by first | (simp; done) | (simp; omega) | omega) _) | (refine Below.setCell ?_ (by first | (simp; done) | (simp; omega) | omega) _))))).mono ?_); rintro _ w1 ⟨rfl, hb⟩; have B := below1 hb; clear hb)
    go_ret2
    exact ⟨rfl, B⟩
theorem IS.take {w : World} {a : Option Addr} {n c : Nat} {l : List Int} (h : IS w (.slice a n c) l) (k : Nat) (hk : k ≤ l.length) : IS w (.slice a k c) (l.take k) := by
  obtain ⟨a', c', e, hz, hc⟩ := h
  injection e with e1 e2 e3
  subst e1 e3
  have hl : (l.take k).length = k := by rw [List.length_take]; omega
  refine ⟨_, _, by rw [hl], by omega, fun h0 => ?_⟩
  obtain ⟨b, o, e4, hb, p⟩ := hc (by omega)
  refine ⟨b, o, e4, hb, fun j hj => ?_⟩
  rw [p j (by omega)]
  simp
theorem ge_limit_good (e : En) (al gr : Value) (a : Option Addr) (c : Nat) (l2 ex : List Int) (g2 : List Gr) (lim : Int) (w : World) (hm : MaxL w) (h1 : IS w al l2) (h2 : GS w gr g2) (h3 : IS w (.slice a ex.length c) ex) (hcap : ex.length ≤ c) (hok : okE e l2 g2 ex = true) (hl : 1 ≤ lim) (hl2 : lim ≤ 63) (k : Nat) (hk : k = ex.length - lim.toNat) :
    Calls Tryz.prog 26 #[.agg (e.vals al gr), .slice a ex.length c, .int .i64 lim] w fun r w' => ∃ v, r = .returned (.tuple #[v, .int .i64 0]) ∧ IB w.heap.size w' v (ex.take k) ∧ Below w.heap.size w w' := by
  have hv := fun W (b : Below w.heap.size w W) => ge_valid e al gr _ l2 ex g2 W (hm.below b) (h1.below b) (h2.below b) (h3.below b)
  rw [hok] at hv
  have HV := Lib.hid hv
  have H3 := Lib.hid (fun W (b : Below w.heap.size w W) => (h3.below b).take k (by omega))
  have q1 : decide (lim < 1) = false := by rw [decide_eq_false_iff_not]; omega
  have q2 : decide (63 < lim) = false := by rw [decide_eq_false_iff_not]; omega
  have hz : ex.length ≤ 1000000 := by obtain ⟨_, _, _, hz, -⟩ := h3; exact hz
  have hwr : wrap64 ((ex.length : Int) - lim) = (ex.length : Int) - lim := by unfold wrap64; omega
  have hmx : max 0 ((ex.length : Int) - lim) = k := by omega
  have k0 : (k : Int) ≤ (c : Int) := by omega
  clear hv h1 h2 h3 hl hl2 hk
  go_enter Tryz.func26, Tryz.ntmps26
  go_wp2_with (first | (go_at_call 22; (with_reducible refine (HV.out _ (by (repeat (first | exact Below.refl _ _ | assumption | (refine Below.drew ?_) | (refine Below.alloc ?_ (by first | (simp; done) | (simp; omega) | omega) _) | (refine Below.setCell ?_ (by first | (simp; done) | (simp; omega) | omega) _))))).mono ?_); rintro _ w1 ⟨rfl, hb⟩; have B := below1 hb; clear hb) | (go_at_call 50; (with_reducible refine (ge_clone _ _ _ (H3.out _ B)).mono ?_); rintro _ w2 ⟨v2, rfl, hown, b2⟩))
  go_ret2
  have hN := NW.owns hown
  exact ⟨v2, rfl, ⟨hN.1.is (by rw [List.length_take]; omega), fun x hx => Nat.le_trans B.size (hN.2.2 x hx).1⟩, bt B b2⟩
end Go.Proofs.YtbkbgkicpfbjfaaGreatDoor

end
