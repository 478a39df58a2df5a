/- Contracts of the references: dasdref33.used at kinds 1 to 4 and beyond. -/
import Derived.Test.YtbkbgkicpfbjfaaGreatDoorVaG
import Derived.Test.YtbkbgkicpfbjfaaGreatDoorGeA
import Derived.Laws.ResultCell
namespace Go.Proofs.YtbkbgkicpfbjfaaGreatDoor
open Go.RowKit
set_option maxHeartbeats 800000
set_option maxRecDepth 8000
theorem res_row1 {P : Program} {fn : Func} {p : Tmp} {ty : TypeId} {d : TypeDesc} {n : Nat} (h : fn.results = #[.cell p ty]) (hu : P.underlying ty = some d) (hd : (match d with | .struct _ | .array _ _ => true | _ => false) = true) (hi : (P.info? ty).map (·.size) = some (n + 1))
    (tmps : Array Value) (w : World) (g : Nat) (hp : tmps.getD p undef = .pointer (some ⟨g, 0, none⟩)) (hz : (row w g).size = n + 1) :
    (results fn tmps).run P w = .ok (.agg (row w g)) w := by
  have hl := run_loadVar_block w g n ty d hu hd hi hz
  have hp' : tmps[p]?.getD undef = .pointer (some ⟨g, 0, none⟩) := by simpa using hp
  simp only [results, h]
  simp [hp', asAddr, hl]
/-- an alias with nothing but its own fields, and so on -/
def onlyA (e : En) : En := { En.zero with kind := e.kind, name := e.name, target := e.target }
def onlyC (e : En) : En := { En.zero with kind := e.kind, name := e.name, cat := e.cat }
def onlyP (e : En) : En := { En.zero with kind := e.kind, name := e.name, lev := e.lev, owner := e.owner }
def onlyN (e : En) : En := { En.zero with kind := e.kind, name := e.name }
def onlyD (e : En) : En := { En.zero with kind := e.kind, name := e.name, d0 := e.d0, d1 := e.d1, d2 := e.d2, d3 := e.d3, d4 := e.d4, d5 := e.d5, d6 := e.d6, d7 := e.d7, d8 := e.d8, d9 := e.d9, d10 := e.d10, d11 := e.d11, d12 := e.d12, d13 := e.d13, uq := e.uq, cls := e.cls, vol := e.vol, own := e.own, cr := e.cr, ex := e.ex, ar := e.ar, used := e.used }
attribute [local go_sem ↓] ldEnt stEnt stEntRow
attribute [local go_sem] Held_drew isHead_mk headOf_mk cellsOfV_mk isAggV_mk row_new row_new2 row_new2' row_drew row_drewN vals_size allOne_nil allOne_cons one_int one_bool one_string one_pointer one_slice vals_0 vals_1 vals_25 vals_26 vals_27 vals_28 vals_29 vals_30 vals_31 vals_32
theorem held3b (w : World) (c : Array Value) : ∀ (z x : Array Value) (t t1 t2 : TypeId), z.size = 33 → Held ((((w.alloc (.cells c t)).alloc (.cells z t1)).alloc (.cells x t2)).drew) (w.heap.size + 1) 33 := fun z x t t1 t2 hz => by
  have h := EB.new (w.alloc (.cells c t)) z t1
  rw [show (w.alloc (.cells c t)).heap.size = w.heap.size + 1 by simp] at h
  exact held_of (h.of_block (heap_alloc_old _ _ h.2.2) (by simp)) hz (by decide)
theorem row3c' (w : World) (c : Array Value) : ∀ (z x : Array Value) (t t1 t2 : TypeId), row ((((w.alloc (.cells c t)).alloc (.cells z t1)).alloc (.cells x t2)).drew) (w.heap.size + 1 + 1) = x := fun z x t t1 t2 => by
  have h := row_new ((w.alloc (.cells c t)).alloc (.cells z t1)) x t2 (0, 0)
  rw [row_drew]; simpa using h
theorem used1 (e : En) (al gr : Value) (w : World) (hk : e.kind = 1) :
    Calls Tryz.prog 54 #[.agg (e.vals al gr)] w fun r w' => r = .returned (.agg ((onlyG e).vals (.slice none 0 0) (.slice none 0 0))) ∧ Below w.heap.size w w' := by
  have k0 : (e.kind == 0) = false := by rw [hk]; rfl
  have k1 : (e.kind == 1) = true := by rw [hk]; rfl
  clear hk
  have HH := held3b w (e.vals al gr)
  have R3 := row3c' w (e.vals al gr)
  go_enter Tryz.func54, Tryz.ntmps54
  go_wp2_with fail
  go_region
  all_goals
    go_wp2_with fail
    refine bodyPost_ret (res_row1 (n := 32) rfl Tryz.underlying27 rfl (by kernel_rfl) _ _ (w.heap.size + 1) rfl (by rw [row_setRow (HH _ _ _ _ _ rfl)]; rfl)) rfl ?_
    rw [row_setRow (HH _ _ _ _ _ rfl)]
    exact ⟨by unfold onlyG En.vals; rfl, below_setRow (by (repeat (first | exact Below.refl _ _ | assumption | (refine Below.drew ?_) | (refine Below.alloc ?_ (by first | (simp; done) | (simp; omega) | omega) _) | (refine Below.setCell ?_ (by first | (simp; done) | (simp; omega) | omega) _)))) (show w.heap.size ≤ w.heap.size + 1 by omega) _⟩
end Go.Proofs.YtbkbgkicpfbjfaaGreatDoor
