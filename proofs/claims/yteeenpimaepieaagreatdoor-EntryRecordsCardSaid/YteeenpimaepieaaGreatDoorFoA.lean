/- Several texts in one: FoA FoB. -/
import Derived.Test.YteeenpimaepieaaGreatDoorCoA
import Derived.Test.YteeenpimaepieaaGreatDoorEn
import Derived.Test.YteeenpimaepieaaGreatDoorKit
import Derived.Carry
import Derived.MapKept
import Derived.Test.YteeenpimaepieaaGreatDoorChecked
section
/- Contracts of package entry: the fields of a group. -/
namespace Go.Proofs.YteeenpimaepieaaGreatDoor
open Go.RowKit
set_option maxHeartbeats 800000
set_option maxRecDepth 4000
theorem encs2_len (a b : Nat) (h1 : a < 9223372036854775808) (h2 : b < 9223372036854775808) : (encs [a, b]).length ≤ 18 := by
  have := encs_len [a, b] (fun n hn => by
    rcases (by simpa using hn : n = a ∨ n = b) with rfl | rfl <;> assumption)
  simpa using this
theorem ws_grown {w : World} {o : Obj} {c : Nat} : w.grownBy (w.alloc o).drew (some c) := ⟨rfl, rfl, rfl, by simp, fun _ hk _ => heap_alloc_old w _ hk⟩
theorem fw_group (c g : Nat) (l : List UInt8) (e : En) (al gr : Value) (lim last : Nat) (w : World) (h : WS w c g l (e.vals al gr)) (hlim : e.lim = lim) (hlast : e.last = last) (h1 : lim < 9223372036854775808) (h2 : last < 9223372036854775808) (ho : e.owner.size ≤ 1000) (hs : l.length ≤ 1000) :
    Calls Tryz.prog 141 #[.pointer (some ⟨c, 0, none⟩), .pointer (some ⟨g, 0, none⟩)] w fun r w' => r = .returned (.tuple #[]) ∧ WS w' c g (((l ++ encs [lim, last]) ++ [tb e.em]) ++ (Wi.enc e.owner.size ++ Ds.bl e.owner)) (e.vals al gr) ∧ w.grownBy w' (some c) := by
  have hN : NS (e.vals al gr) [25, 26] [lim, last] := ⟨rfl, fun k h _ => by
    rcases (by simp at h; omega : k = 0 ∨ k = 1) with rfl | rfl
    · simpa [hlim] using vals_25 e al gr
    · simpa [hlast] using vals_26 e al gr⟩
  have hb := encs2_len lim last h1 h2
  have hc : Calls Tryz.prog 142 #[.pointer (some ⟨c, 0, none⟩), .slice (some ⟨w.heap.size, 0, none⟩) 2 2] ((w.alloc (.cells #[.pointer (some ⟨g, 25, none⟩), .pointer (some ⟨g, 26, none⟩)] 181)).drew) fun r w' => r = .returned (.tuple #[]) ∧ WS w' c g (l ++ encs [lim, last]) (e.vals al gr) ∧ ((w.alloc (.cells #[.pointer (some ⟨g, 25, none⟩), .pointer (some ⟨g, 26, none⟩)] 181)).drew).grownBy w' (some c) := ws_numbers c g w.heap.size 2 [25, 26] [lim, last] l (e.vals al gr) _ (h.below (((Below.refl _ _).alloc (Nat.le_refl _) _).drew)) (PS.new w g [25, 26] 181) (by have := h.2.2.2; omega) hN (fun n hn => by
    rcases (by simpa using hn : n = lim ∨ n = last) with rfl | rfl <;> assumption) (by decide) (by omega)
  have HC := Lib.hid hc
  have hb1 : (l ++ encs [lim, last]).length ≤ 10000 := by rw [List.length_append]; omega
  have hb2 : ((l ++ encs [lim, last]) ++ [tb e.em]).length ≤ 10000 := by rw [List.length_append, List.length_append, List.length_singleton]; omega
  clear hN hlim hlast h1 h2 hc hb h
  go_enter Tryz.func141, Tryz.ntmps141
  go_wp2_with fail
  go_region_law (first | (go_simp; go_at_call 142; (with_reducible refine HC.out.mono ?_); rintro _ w1 ⟨rfl, hW1, hG1⟩))
  all_goals
    have HG1 := Lib.hid hG1
    clear hG1
    go_wp2_with (first | (go_at_call 143; (with_reducible refine (ws_truth c g 27 e.em _ _ _ hW1 hb1 (vals_27 e al gr)).mono ?_); rintro _ w2 ⟨rfl, hW2, hG2⟩; have HG2 := Lib.hid hG2; clear hG2) | (go_at_call 144; (with_reducible refine (ws_text c g 28 e.owner _ _ _ hW2 hb2 (by omega) (vals_28 e al gr)).mono ?_); rintro _ w3 ⟨rfl, hW3, hG3⟩; have HG3 := Lib.hid hG3; clear hG3))
    go_end0
    exact ⟨rfl, hW3, (ws_grown.trans HG1.out).trans (HG2.out.trans HG3.out)⟩
theorem rs_grown {w : World} {o : Obj} {a b : Nat} : G2 w (w.alloc o).drew a b := ⟨rfl, rfl, rfl, by simp, fun k hk _ _ => heap_alloc_old w _ hk⟩
/-- a group as it is read -/
def rdGroup (e : En) (s : List UInt8 × Nat) : En × (List UInt8 × Nat) :=
  let a := Rd.num s; let b := Rd.num a.2; let x := Rd.boo b.2; let t := Rd.txt 200 x.2
  ({ e with lim := clip a.1, last := clip b.1, em := x.1, owner := ⟨t.1.toArray⟩ }, t.2)
theorem fr_group (c rb g : Nat) (s : List UInt8 × Nat) (e : En) (al gr : Value) (w : World) (h : RS w c rb g s (e.vals al gr)) (hs : s.1.length ≤ 1000) :
    Calls Tryz.prog 141 #[.pointer (some ⟨c, 0, none⟩), .pointer (some ⟨g, 0, none⟩)] w fun r w' => r = .returned (.tuple #[]) ∧ RS w' c rb g (rdGroup e s).2 ((rdGroup e s).1.vals al gr) ∧ G2 w w' rb g := by
  have e1 : rdNums [25, 26] s (e.vals al gr) = (({ e with lim := clip (Rd.num s).1, last := clip (Rd.num (Rd.num s).2).1 } : En).vals al gr, (Rd.num (Rd.num s).2).2) := by
    simp only [rdNums]
    rw [set_25, set_26]
  have hc : Calls Tryz.prog 142 #[.pointer (some ⟨c, 0, none⟩), .slice (some ⟨w.heap.size, 0, none⟩) 2 2] ((w.alloc (.cells #[.pointer (some ⟨g, 25, none⟩), .pointer (some ⟨g, 26, none⟩)] 181)).drew) fun r w' => r = .returned (.tuple #[]) ∧ RS w' c rb g (rdNums [25, 26] s (e.vals al gr)).2 (rdNums [25, 26] s (e.vals al gr)).1 ∧ G2 ((w.alloc (.cells #[.pointer (some ⟨g, 25, none⟩), .pointer (some ⟨g, 26, none⟩)] 181)).drew) w' rb g := rs_numbers c rb g w.heap.size 2 [25, 26] s (e.vals al gr) _ (h.below (((Below.refl _ _).alloc (Nat.le_refl _) _).drew)) (PS.new w g [25, 26] 181) (by have := h.2.2.2.2.2.2.2; omega) (by have := h.2.2.1.2.2; omega) (fun k hk => by
    rw [vals_size]; rcases (by simp at hk; omega : k = 0 ∨ k = 1) with rfl | rfl <;> simp) (by decide) (by omega)
  rw [e1] at hc
  have l1 := Rd.num_len s
  have l2 := Rd.num_len (Rd.num s).2
  have l3 := Rd.boo_len (Rd.num (Rd.num s).2).2
  have hb1 : (Rd.num (Rd.num s).2).2.1.length ≤ 10000 := by omega
  have hb2 : (Rd.boo (Rd.num (Rd.num s).2).2).2.1.length ≤ 10000 := by omega
  have HC := Lib.hid hc
  clear hc e1 h l1 l2 l3
  unfold rdGroup
  go_enter Tryz.func141, Tryz.ntmps141
  go_wp2_with fail
  go_region_law (first | (go_simp; go_at_call 142; (with_reducible refine HC.out.mono ?_); rintro _ w1 ⟨rfl, hW1, hG1⟩))
  all_goals
    have HG1 := Lib.hid hG1
    clear hG1
    go_wp2_with (first | (go_at_call 143; (with_reducible refine (rs_truth c rb g 27 _ _ _ _ hW1 hb1 (vals_27 _ al gr)).mono ?_); rintro _ w2 ⟨rfl, hW2, hG2⟩; rw [set_27] at hW2; have HG2 := Lib.hid hG2; clear hG2) | (go_at_call 144; (with_reducible refine (rs_text c rb g 28 _ _ _ _ hW2 hb2 (vals_28 _ al gr)).mono ?_); rintro _ w3 ⟨rfl, hW3, hG3⟩; rw [set_28] at hW3; have HG3 := Lib.hid hG3; clear hG3))
    go_end0
    exact ⟨rfl, hW3, (rs_grown.trans HG1.out).trans (HG2.out.trans HG3.out)⟩
end Go.Proofs.YteeenpimaepieaaGreatDoor

end
section
/- Contracts of package entry: the forms. -/
namespace Go.Proofs.YteeenpimaepieaaGreatDoor
open Go.RowKit
set_option maxHeartbeats 800000
set_option maxRecDepth 4000
def fnv (k : Nat) : Value := .func (.func k) #[] #[]

def form0 : Value := .agg #[.int .u8 68, .func (.func 50) #[] #[], .func (.func 138) #[] #[], .func (.func 139) #[] #[]]
def form1 : Value := .agg #[.int .u8 71, .func (.func 140) #[] #[], .func (.func 141) #[] #[], .func (.func 145) #[] #[]]
def form2 : Value := .agg #[.int .u8 65, .func (.func 148) #[] #[], .func (.func 149) #[] #[], .func (.func 150) #[] #[]]
def form3 : Value := .agg #[.int .u8 67, .func (.func 151) #[] #[], .func (.func 153) #[] #[], .func (.func 155) #[] #[]]
def form4 : Value := .agg #[.int .u8 80, .func (.func 156) #[] #[], .func (.func 157) #[] #[], .func (.func 158) #[] #[]]
def fe0 : Array MapEntry := #[]
def fe1 : Array MapEntry := #[⟨.int .i64 0, form0, 0⟩]
def fe2 : Array MapEntry := #[⟨.int .i64 0, form0, 0⟩, ⟨.int .i64 1, form1, 1⟩]
def fe3 : Array MapEntry := #[⟨.int .i64 0, form0, 0⟩, ⟨.int .i64 1, form1, 1⟩, ⟨.int .i64 2, form2, 2⟩]
def fe4 : Array MapEntry := #[⟨.int .i64 0, form0, 0⟩, ⟨.int .i64 1, form1, 1⟩, ⟨.int .i64 2, form2, 2⟩, ⟨.int .i64 3, form3, 3⟩]
def fe5 : Array MapEntry := #[⟨.int .i64 0, form0, 0⟩, ⟨.int .i64 1, form1, 1⟩, ⟨.int .i64 2, form2, 2⟩, ⟨.int .i64 3, form3, 3⟩, ⟨.int .i64 4, form4, 4⟩]
theorem run_ins (w : World) (es : Array MapEntry) (c : Nat) (k : Int) (v : Value) (h : Instr.findNow (.int .i64) (.int .i64 k) es.toList 0 = some none) :
    (Instr.mapUpdate 85 (.map (some w.heap.size)) (.int .i64 k) v).run Tryz.prog (w.alloc (.map es c)) = .ok () (w.alloc (.map (es.push ⟨.int .i64 k, v, c⟩) (c + 1))) := by
  have hb : (w.alloc (.map es c)).heap[w.heap.size]? = some (.map es c) := heap_alloc_new w _
  have hck := MapKept.run_checkKey (P := Tryz.prog) (w := w.alloc (.map es c)) (k := .int .i64 k) Tryz.underlying3 rfl false 9999
  have hfk := MapKept.run_findKey (P := Tryz.prog) (w := w.alloc (.map es c)) (kt := 3) (k := .int .i64 k) Tryz.underlying3 h
  simp [Instr.mapUpdate, run_underlying Tryz.underlying85, MapKept.run_getObj_map hb, hck, hfk, MapKept.run_setObj_map _ hb, Result.andThen]
  simp only [World.alloc]
  congr 1
  apply Array.ext_getElem?
  intro i
  simp only [Array.getElem?_setIfInBounds, Array.getElem?_push, Array.size_push]
  by_cases e : w.heap.size = i
  · subst e; simp
  · rw [if_neg e, if_neg (fun h => e h.symm), if_neg (fun h => e h.symm)]
theorem ins0 (w : World) : (Instr.mapUpdate 85 (.map (some w.heap.size)) (.int .i64 0) form0).run Tryz.prog (w.alloc (.map fe0 0)) = .ok () (w.alloc (.map fe1 1)) := run_ins w fe0 0 0 form0 rfl
theorem ins1 (w : World) : (Instr.mapUpdate 85 (.map (some w.heap.size)) (.int .i64 1) form1).run Tryz.prog (w.alloc (.map fe1 1)) = .ok () (w.alloc (.map fe2 2)) := run_ins w fe1 1 1 form1 rfl
theorem ins2 (w : World) : (Instr.mapUpdate 85 (.map (some w.heap.size)) (.int .i64 2) form2).run Tryz.prog (w.alloc (.map fe2 2)) = .ok () (w.alloc (.map fe3 3)) := run_ins w fe2 2 2 form2 rfl
theorem ins3 (w : World) : (Instr.mapUpdate 85 (.map (some w.heap.size)) (.int .i64 3) form3).run Tryz.prog (w.alloc (.map fe3 3)) = .ok () (w.alloc (.map fe4 4)) := run_ins w fe3 3 3 form3 rfl
theorem ins4 (w : World) : (Instr.mapUpdate 85 (.map (some w.heap.size)) (.int .i64 4) form4).run Tryz.prog (w.alloc (.map fe4 4)) = .ok () (w.alloc (.map fe5 5)) := run_ins w fe4 4 4 form4 rfl
theorem fo_forms (w : World) :
    Calls Tryz.prog 59 #[] w fun r w' => r = .returned (.map (some w.heap.size)) ∧ w' = w.alloc (.map fe5 5) := by
  have hm := run_makeMap (P := Tryz.prog) 85 w
  have i0 := ins0 w
  have i1 := ins1 w
  have i2 := ins2 w
  have i3 := ins3 w
  have i4 := ins4 w
  unfold fe1 fe0 form0 at i0
  unfold fe2 fe1 form0 form1 at i1
  unfold fe3 fe2 form0 form1 form2 at i2
  unfold fe4 fe3 form0 form1 form2 form3 at i3
  unfold fe4 form0 form1 form2 form3 form4 at i4
  go_enter Tryz.func59, Tryz.ntmps59
  go_wp2_with fail
  go_ret
  exact ⟨rfl, rfl⟩
theorem lk_at (w : World) (m : Nat) (k : Int) (v : Value) (i : Nat) (hb : w.heap[m]? = some (.map fe5 5)) (h : Instr.findNow (.int .i64) (.int .i64 k) fe5.toList 0 = some (some (i, v))) :
    (Instr.lookup 85 (.map (some m)) (.int .i64 k) true).run Tryz.prog w = .ok (.tuple #[v, .bool true]) w := by
  have hck := fun b => MapKept.run_checkKey (P := Tryz.prog) (w := w) (k := .int .i64 k) Tryz.underlying3 rfl b 9999
  have hfk := MapKept.run_findKey (P := Tryz.prog) (w := w) (kt := 3) (k := .int .i64 k) Tryz.underlying3 h
  simp [Instr.lookup, run_underlying Tryz.underlying85, MapKept.run_getObj_map hb, hck, hfk, Result.andThen]
theorem lk_none (w : World) (m : Nat) (k : Int) (z : Value) (hb : w.heap[m]? = some (.map fe5 5)) (h : Instr.findNow (.int .i64) (.int .i64 k) fe5.toList 0 = some none) (hz : ∀ w, (zeroValue 83).run Tryz.prog w = .ok z w) :
    (Instr.lookup 85 (.map (some m)) (.int .i64 k) true).run Tryz.prog w = .ok (.tuple #[z, .bool false]) w := by
  have hck := fun b => MapKept.run_checkKey (P := Tryz.prog) (w := w) (k := .int .i64 k) Tryz.underlying3 rfl b 9999
  have hfk := MapKept.run_findKey (P := Tryz.prog) (w := w) (kt := 3) (k := .int .i64 k) Tryz.underlying3 h
  simp [Instr.lookup, run_underlying Tryz.underlying85, MapKept.run_getObj_map hb, hck, hfk, Result.andThen, hz]
theorem form_zero (w : World) : (zeroValue 83).run Tryz.prog w = .ok (.agg #[.int .u8 0, .nilFunc, .nilFunc, .nilFunc]) w := by kernel_rfl
end Go.Proofs.YteeenpimaepieaaGreatDoor
end
