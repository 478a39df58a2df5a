/- The table of 40 rows of 40 cells: laid without writing out its cells. -/
import Derived.Test.YtdfdjfnfmibpjaaGreatDoorChecked
import Derived.Test.YtdfdjfnfmibpjaaGreatDoorKit
namespace Go.Proofs.YtdfdjfnfmibpjaaGreatDoor
open Go.RowKit
set_option maxRecDepth 20000
def zTab : Array Value := Array.replicate 1600 (.bool false)
theorem zTab_size : zTab.size = 1600 := by simp [zTab]
theorem zTab_get (i : Nat) (h : i < 1600) : zTab[i]? = some (.bool false) := by simp [zTab, h]
theorem tabZero : (Tryz.prog.info? 251).bind (·.zero) = some (.agg zTab) := by kernel_rfl
attribute [irreducible] zTab
theorem run_info {P : Program} {w : World} {t : TypeId} {i : TypeInfo} (h : P.info? t = some i) : (typeInfo t).run P w = .ok i w := by
  simp [typeInfo, h]
theorem run_zero {P : Program} (t : TypeId) (v : Value) (w : World) (h : (P.info? t).bind (·.zero) = some v) : (zeroValue t).run P w = .ok v w := by
  cases e : P.info? t with
  | none => rw [e] at h; cases h
  | some i =>
    rw [e] at h
    have h' : i.zero = some v := h
    unfold zeroValue
    simp only [Sem.run_bind, run_info e, Result.andThen_ok, h', Sem.run_pure]
theorem exec_alloc_tab (ev : Operand → Value) (w : World) (dst t pos af gd) :
    (execOp ev ⟨dst, .alloc 251, t, pos, af, gd⟩).run Tryz.prog w = .ok (.value (.pointer (some ⟨w.heap.size, 0, none⟩))) (w.alloc (.cells zTab 251)) := by
  have hz := run_zero 251 (.agg zTab) w tabZero
  unfold execOp
  simp only [Instr.alloc, Sem.run_bind, hz, Result.andThen_ok]
  simp [go_sem, newVar, newRow]
/-- the cells of the table in block b -/
def TI (w : World) (b : Nat) (F : Nat → Nat → Bool) : Prop := (∀ r c, r < 40 → c < 40 → w.cell? ⟨b, r * 40 + c, none⟩ = some (.bool (F r c))) ∧ (∀ o, w.frozen? ⟨b, o, none⟩ = false)
theorem TI.new (w : World) : TI (w.alloc (.cells zTab 251)) w.heap.size (fun _ _ => false) :=
  ⟨fun r c hr hc => by rw [cell_of_row _ w.heap.size _ _ 251 (0, 0) (heap_alloc_new w _)]; exact zTab_get _ (by omega), fun o => by simp⟩
theorem TI.below {w w' : World} {b : Nat} {F : Nat → Nat → Bool} (h : TI w b F) (hb : Below w.heap.size w w') (hlt : b < w.heap.size) : TI w' b F :=
  ⟨fun r c hr hc => below_cell hb (h.1 r c hr hc), fun o => by rw [(bcell hb).2 b o hlt]; exact h.2 o⟩
theorem TI.set {w : World} {b : Nat} {F : Nat → Nat → Bool} (h : TI w b F) (r0 c0 : Nat) (hr0 : r0 < 40) (hc0 : c0 < 40) (v : Bool) : TI (w.setCell ⟨b, r0 * 40 + c0, none⟩ (.bool v)) b (fun r c => if r = r0 ∧ c = c0 then v else F r c) := by
  refine ⟨fun r c hr hc => ?_, fun o => by have := h.2 o; simpa using this⟩
  have h1 := h.1 r c hr hc
  have h0 := h.1 r0 c0 hr0 hc0
  by_cases e : r = r0 ∧ c = c0
  · obtain ⟨rfl, rfl⟩ := e
    simp [go_sem, h0]
  · have hne : r0 * 40 + c0 ≠ r * 40 + c := by omega
    show _ = some (Value.bool (if r = r0 ∧ c = c0 then v else F r c))
    rw [if_neg e, ← h1]
    simp [go_sem]
theorem TI.drew {w : World} {b : Nat} {F : Nat → Nat → Bool} (h : TI w b F) : TI w.drew b F := h
theorem TI.start (w : World) (p n : Nat) (hp : p < 40) (hn : n < 40) : TI (w.alloc (.cells (zTab.setIfInBounds (p * 40 + n) (.bool true)) 251)) w.heap.size (fun r c => if r = p ∧ c = n then true else false) := by
  have h := (TI.new w).set p n hp hn true
  simpa [go_sem] using h
theorem keepTab {w w1 w2 : World} {b o1 o2 : Nat} {v1 v2 : Value} {F : Nat → Nat → Bool} (hb : Below w1.heap.size w1 w2) (h : w1.cell? ⟨b, o1, none⟩ = some v1 ∧ w1.cell? ⟨b, o2, none⟩ = some v2 ∧ (∀ o, w1.frozen? ⟨b, o, none⟩ = false) ∧ TI w1 b F ∧ b < w1.heap.size ∧ Below w.heap.size w w1) :
    w2.cell? ⟨b, o1, none⟩ = some v1 ∧ w2.cell? ⟨b, o2, none⟩ = some v2 ∧ (∀ o, w2.frozen? ⟨b, o, none⟩ = false) ∧ TI w2 b F ∧ b < w2.heap.size ∧ Below w.heap.size w w2 :=
  ⟨below_cell hb h.1, below_cell hb h.2.1, (h.2.2.2.1.below hb h.2.2.2.2.1).2, h.2.2.2.1.below hb h.2.2.2.2.1, Nat.lt_of_lt_of_le h.2.2.2.2.1 hb.size, bt h.2.2.2.2.2 hb⟩
/-- the truth value of a cell -/
def bvc (w : World) (b o : Nat) : Bool := match w.cell? ⟨b, o, none⟩ with | some (.bool x) => x | _ => false
theorem bvc_of {w : World} {b o : Nat} {x : Bool} (h : w.cell? ⟨b, o, none⟩ = some (.bool x)) : w.cell? ⟨b, o, none⟩ = some (.bool (bvc w b o)) := by
  rw [h]; unfold bvc; rw [h]
/-- the table but for one cell -/
def TJ (w : World) (b : Nat) (F : Nat → Nat → Bool) (r c : Nat) : Prop := ∃ x, TI w b (fun r' c' => if r' = r ∧ c' = c then x else F r' c')
theorem TJ.of {w : World} {b : Nat} {F : Nat → Nat → Bool} (h : TI w b F) (r c : Nat) : TJ w b F r c := ⟨F r c, ⟨fun r' c' h1 h2 => by
  rw [h.1 r' c' h1 h2]
  show _ = some (Value.bool (if r' = r ∧ c' = c then F r c else F r' c'))
  by_cases e : r' = r ∧ c' = c
  · rw [if_pos e, e.1, e.2]
  · rw [if_neg e], h.2⟩⟩
theorem TJ.set {w : World} {b : Nat} {F : Nat → Nat → Bool} {r c : Nat} (h : TJ w b F r c) (hr : r < 40) (hc : c < 40) (v : Bool) : TI (w.setCell ⟨b, r * 40 + c, none⟩ (.bool v)) b (fun r' c' => if r' = r ∧ c' = c then v else F r' c') := by
  obtain ⟨x, h⟩ := h
  have h2 := h.set r c hr hc v
  have e : (fun r' c' => if r' = r ∧ c' = c then v else (if r' = r ∧ c' = c then x else F r' c')) = fun r' c' => if r' = r ∧ c' = c then v else F r' c' := by
    funext r' c'; split <;> rfl
  rw [e] at h2; exact h2
theorem TJ.set' {w : World} {b : Nat} {F : Nat → Nat → Bool} {r c : Nat} (h : TJ w b F r c) (hr : r < 40) (hc : c < 40) (v : Bool) : TJ (w.setCell ⟨b, r * 40 + c, none⟩ (.bool v)) b F r c := ⟨v, h.set hr hc v⟩
/-- what a drawn region with a call and one store keeps -/
def SJ (W : World) (b : Nat) (F : Nat → Nat → Bool) (r c : Nat) (w : World) : Prop := w.cell? ⟨b, (r + 1) * 40 + (c + 1), none⟩ = some (.bool true) ∧ w.cell? ⟨b, r * 40 + c, none⟩ = some (.bool (bvc w b (r * 40 + c))) ∧ (∀ o, w.frozen? ⟨b, o, none⟩ = false) ∧ TJ w b F r c ∧ b < w.heap.size ∧ Below W.heap.size W w
theorem SJ.start {W w : World} {b r c : Nat} {F : Nat → Nat → Bool} (h : TI w b F) (hr : r + 1 < 40) (hc : c + 1 < 40) (hv : F (r + 1) (c + 1) = true) (hb : b < w.heap.size) (B : Below W.heap.size W w) : SJ W b F r c w.drew :=
  ⟨by have := h.1 (r + 1) (c + 1) hr hc; rw [hv] at this; exact this, bvc_of (h.1 r c (by omega) (by omega)), h.2, TJ.of h r c, hb, B.drew⟩
theorem SJ.call {W w w2 : World} {b r c : Nat} {F : Nat → Nat → Bool} (hb : Below w.heap.size w w2) (h : SJ W b F r c w) : SJ W b F r c w2 := by
  obtain ⟨h1, h2, h3, ⟨x, h4⟩, h5, h6⟩ := h
  exact ⟨below_cell hb h1, bvc_of (below_cell hb h2), (h4.below hb h5).2, ⟨x, h4.below hb h5⟩, Nat.lt_of_lt_of_le h5 hb.size, bt h6 hb⟩
theorem SJ.store {W w : World} {r c : Nat} {F : Nat → Nat → Bool} (hr : r + 1 < 40) (hc : c + 1 < 40) (v : Bool) (h : SJ W W.heap.size F r c w) : SJ W W.heap.size F r c (w.setCell ⟨W.heap.size, r * 40 + c, none⟩ (.bool v)) := by
  obtain ⟨h1, h2, h3, h4, h5, h6⟩ := h
  have hT := h4.set (by omega) (by omega) v
  have g1 := hT.1 (r + 1) (c + 1) hr hc
  have g2 := hT.1 r c (by omega) (by omega)
  refine ⟨?_, bvc_of g2, hT.2, h4.set' (by omega) (by omega) v, by simpa using h5, h6.setCell (by simp) _⟩
  have hne : r * 40 + c ≠ (r + 1) * 40 + (c + 1) := by omega
  rw [← h1]
  simp [go_sem]
theorem upd_rows (F T : Nat → Nat → Bool) (p n r c : Nat) (v : Bool) (h : ∀ r' c', r + 1 ≤ r' → r' ≤ p → c' ≤ n → F r' c' = T r' c') :
    ∀ r' c', r + 1 ≤ r' → r' ≤ p → c' ≤ n → (if r' = r ∧ c' = c then v else F r' c') = T r' c' := fun r' c' h1 h2 h3 => by rw [if_neg (by omega)]; exact h r' c' h1 h2 h3
theorem upd_row (F T : Nat → Nat → Bool) (n r c : Nat) (v : Bool) (h : ∀ c', c + 1 ≤ c' → c' ≤ n → F r c' = T r c') (hv : v = T r c) :
    ∀ c', c ≤ c' → c' ≤ n → (if r = r ∧ c' = c then v else F r c') = T r c' := fun c' h1 h2 => by
  by_cases e : c' = c
  · subst e; rw [if_pos ⟨rfl, rfl⟩]; exact hv
  · rw [if_neg (by omega)]; exact h c' (by omega) h2
end Go.Proofs.YtdfdjfnfmibpjaaGreatDoor
