/- Contracts of package entry: the forms. -/
import Derived.Test.YtlkfhlgngkgflaaGreatDoorKit4
import Derived.Carry
import Derived.MapKept
import Derived.Test.YtlkfhlgngkgflaaGreatDoorChecked
namespace Go.Proofs.YtlkfhlgngkgflaaGreatDoor
open Go.RowKit
set_option maxHeartbeats 800000
set_option maxRecDepth 4000
def fnv (k : Nat) : Value := .func (.func k) #[] #[]

def form0 : Value := .agg #[.int .u8 68, .func (.func 48) #[] #[], .func (.func 49) #[] #[], .func (.func 50) #[] #[]]
def form1 : Value := .agg #[.int .u8 71, .func (.func 51) #[] #[], .func (.func 52) #[] #[], .func (.func 56) #[] #[]]
def form2 : Value := .agg #[.int .u8 65, .func (.func 59) #[] #[], .func (.func 61) #[] #[], .func (.func 62) #[] #[]]
def form3 : Value := .agg #[.int .u8 67, .func (.func 63) #[] #[], .func (.func 65) #[] #[], .func (.func 67) #[] #[]]
def form4 : Value := .agg #[.int .u8 80, .func (.func 68) #[] #[], .func (.func 69) #[] #[], .func (.func 70) #[] #[]]
def fe0 : Array MapEntry := #[]
def fe1 : Array MapEntry := #[⟨.int .i64 0, form0, 0⟩]
def fe2 : Array MapEntry := #[⟨.int .i64 0, form0, 0⟩, ⟨.int .i64 1, form1, 1⟩]
def fe3 : Array MapEntry := #[⟨.int .i64 0, form0, 0⟩, ⟨.int .i64 1, form1, 1⟩, ⟨.int .i64 2, form2, 2⟩]
def fe4 : Array MapEntry := #[⟨.int .i64 0, form0, 0⟩, ⟨.int .i64 1, form1, 1⟩, ⟨.int .i64 2, form2, 2⟩, ⟨.int .i64 3, form3, 3⟩]
def fe5 : Array MapEntry := #[⟨.int .i64 0, form0, 0⟩, ⟨.int .i64 1, form1, 1⟩, ⟨.int .i64 2, form2, 2⟩, ⟨.int .i64 3, form3, 3⟩, ⟨.int .i64 4, form4, 4⟩]
theorem run_ins (w : World) (es : Array MapEntry) (c : Nat) (k : Int) (v : Value) (h : Instr.findNow (.int .i64) (.int .i64 k) es.toList 0 = some none) :
    (Instr.mapUpdate 63 (.map (some w.heap.size)) (.int .i64 k) v).run Tryz.prog (w.alloc (.map es c)) = .ok () (w.alloc (.map (es.push ⟨.int .i64 k, v, c⟩) (c + 1))) := by
  have hb : (w.alloc (.map es c)).heap[w.heap.size]? = some (.map es c) := heap_alloc_new w _
  have hck := MapKept.run_checkKey (P := Tryz.prog) (w := w.alloc (.map es c)) (k := .int .i64 k) Tryz.underlying3 rfl false 9999
  have hfk := MapKept.run_findKey (P := Tryz.prog) (w := w.alloc (.map es c)) (kt := 3) (k := .int .i64 k) Tryz.underlying3 h
  simp [Instr.mapUpdate, run_underlying Tryz.underlying63, MapKept.run_getObj_map hb, hck, hfk, MapKept.run_setObj_map _ hb, Result.andThen]
  simp only [World.alloc]
  congr 1
  apply Array.ext_getElem?
  intro i
  simp only [Array.getElem?_setIfInBounds, Array.getElem?_push, Array.size_push]
  by_cases e : w.heap.size = i
  · subst e; simp
  · rw [if_neg e, if_neg (fun h => e h.symm), if_neg (fun h => e h.symm)]
theorem ins0 (w : World) : (Instr.mapUpdate 63 (.map (some w.heap.size)) (.int .i64 0) form0).run Tryz.prog (w.alloc (.map fe0 0)) = .ok () (w.alloc (.map fe1 1)) := run_ins w fe0 0 0 form0 rfl
theorem ins1 (w : World) : (Instr.mapUpdate 63 (.map (some w.heap.size)) (.int .i64 1) form1).run Tryz.prog (w.alloc (.map fe1 1)) = .ok () (w.alloc (.map fe2 2)) := run_ins w fe1 1 1 form1 rfl
theorem ins2 (w : World) : (Instr.mapUpdate 63 (.map (some w.heap.size)) (.int .i64 2) form2).run Tryz.prog (w.alloc (.map fe2 2)) = .ok () (w.alloc (.map fe3 3)) := run_ins w fe2 2 2 form2 rfl
theorem ins3 (w : World) : (Instr.mapUpdate 63 (.map (some w.heap.size)) (.int .i64 3) form3).run Tryz.prog (w.alloc (.map fe3 3)) = .ok () (w.alloc (.map fe4 4)) := run_ins w fe3 3 3 form3 rfl
theorem ins4 (w : World) : (Instr.mapUpdate 63 (.map (some w.heap.size)) (.int .i64 4) form4).run Tryz.prog (w.alloc (.map fe4 4)) = .ok () (w.alloc (.map fe5 5)) := run_ins w fe4 4 4 form4 rfl
theorem fo_forms (w : World) :
    Calls Tryz.prog 34 #[] w fun r w' => r = .returned (.map (some w.heap.size)) ∧ w' = w.alloc (.map fe5 5) := by
  have hm := run_makeMap (P := Tryz.prog) 63 w
  have i0 := ins0 w
  have i1 := ins1 w
  have i2 := ins2 w
  have i3 := ins3 w
  have i4 := ins4 w
  unfold fe1 fe0 form0 at i0
  unfold fe2 fe1 form0 form1 at i1
  unfold fe3 fe2 form0 form1 form2 at i2
  unfold fe4 fe3 form0 form1 form2 form3 at i3
  unfold fe4 form0 form1 form2 form3 form4 at i4
  go_enter Tryz.func34, Tryz.ntmps34
  go_wp2_with fail
  go_ret
  exact ⟨rfl, rfl⟩
theorem lk_at (w : World) (m : Nat) (k : Int) (v : Value) (i : Nat) (hb : w.heap[m]? = some (.map fe5 5)) (h : Instr.findNow (.int .i64) (.int .i64 k) fe5.toList 0 = some (some (i, v))) :
    (Instr.lookup 63 (.map (some m)) (.int .i64 k) true).run Tryz.prog w = .ok (.tuple #[v, .bool true]) w := by
  have hck := fun b => MapKept.run_checkKey (P := Tryz.prog) (w := w) (k := .int .i64 k) Tryz.underlying3 rfl b 9999
  have hfk := MapKept.run_findKey (P := Tryz.prog) (w := w) (kt := 3) (k := .int .i64 k) Tryz.underlying3 h
  simp [Instr.lookup, run_underlying Tryz.underlying63, MapKept.run_getObj_map hb, hck, hfk, Result.andThen]
theorem lk_none (w : World) (m : Nat) (k : Int) (z : Value) (hb : w.heap[m]? = some (.map fe5 5)) (h : Instr.findNow (.int .i64) (.int .i64 k) fe5.toList 0 = some none) (hz : ∀ w, (zeroValue 61).run Tryz.prog w = .ok z w) :
    (Instr.lookup 63 (.map (some m)) (.int .i64 k) true).run Tryz.prog w = .ok (.tuple #[z, .bool false]) w := by
  have hck := fun b => MapKept.run_checkKey (P := Tryz.prog) (w := w) (k := .int .i64 k) Tryz.underlying3 rfl b 9999
  have hfk := MapKept.run_findKey (P := Tryz.prog) (w := w) (kt := 3) (k := .int .i64 k) Tryz.underlying3 h
  simp [Instr.lookup, run_underlying Tryz.underlying63, MapKept.run_getObj_map hb, hck, hfk, Result.andThen, hz]
theorem form_zero (w : World) : (zeroValue 61).run Tryz.prog w = .ok (.agg #[.int .u8 0, .nilFunc, .nilFunc, .nilFunc]) w := by kernel_rfl
end Go.Proofs.YtlkfhlgngkgflaaGreatDoor