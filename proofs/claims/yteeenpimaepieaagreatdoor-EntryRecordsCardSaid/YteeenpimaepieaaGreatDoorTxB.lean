/- Contracts of package entry: pick, and the closure that adds a line. -/
import Derived.Test.YteeenpimaepieaaGreatDoorDsR
import Derived.Test.YteeenpimaepieaaGreatDoorKit
import Derived.Test.YteeenpimaepieaaGreatDoorRdA
import Derived.Deep.AppendLies
namespace Go.Proofs.YteeenpimaepieaaGreatDoor
open Go.RowKit
set_option maxHeartbeats 1600000
set_option maxRecDepth 8000
theorem tx_pick (ps : List ByteArray) (i b c : Nat) (w : World) (hi : i < ps.length) (_ : ps.length ≤ 1000) (hS : Strs w b ps) :
    Calls Tryz.prog 76 #[.int .i64 i, .slice (some ⟨b, 0, none⟩) ps.length c] w fun r w' => r = .returned (.string ps[i]) ∧ w = w' := by
  have hc := hS i hi
  go_enter Tryz.func76, Tryz.ntmps76
  go_wp2_with fail
  go_ret
  exact ⟨rfl, rfl⟩
/-- the lines so far: their slice lies in the cell of block o, its row in block g -/
def TX (w : World) (base o g : Nat) (ts : List ByteArray) : Prop :=
  (∃ cap, w.cell? ⟨o, 0, none⟩ = some (.slice (some ⟨g, 0, none⟩) ts.length cap) ∧ w.ownsRow base 9 1 (.slice (some ⟨g, 0, none⟩) ts.length cap) ts.length (ts.map Value.string)) ∧ w.frozen? ⟨o, 0, none⟩ = false ∧ o < w.heap.size ∧ base ≤ o ∧ g ≠ o ∧ 0 < ts.length
theorem TX.alloc {w : World} {base o g : Nat} {ts : List ByteArray} (h : TX w base o g ts) (ob : Obj) : TX (w.alloc ob) base o g ts := by
  obtain ⟨⟨cap, h1, h2⟩, h3, h4, h5, h6, h7⟩ := h
  have hk := heap_alloc_old w ob h4
  exact ⟨⟨cap, (World.cell?_of_block (a := ⟨o, 0, none⟩) hk).trans h1, h2.alloc ob⟩, (World.frozen?_of_block (a := ⟨o, 0, none⟩) hk).trans h3, by simp; omega, h5, h6, h7⟩
theorem TX.drew {w : World} {base o g : Nat} {ts : List ByteArray} (h : TX w base o g ts) : TX w.drew base o g ts := h
theorem TX.a (V : World) (base : Nat) (X : ByteArray) (t' : TypeId) (hb : base ≤ V.heap.size) : TX ((V.alloc (.cells #[.string X] 9)).alloc (.cells #[.slice (some ⟨V.heap.size, 0, none⟩) 1 1] t')) base (V.heap.size + 1) V.heap.size [X] := by
  have s1 : (V.alloc (.cells #[.string X] 9)).heap.size = V.heap.size + 1 := by simp
  refine ⟨⟨1, ?_, (World.ownsRow_lit V #[.string X] 1 hb (by unfold maxLen; simp) rfl).alloc _⟩, by simp, by simp, by omega, by omega, by simp⟩
  have := cell_of_row _ _ 0 _ t' (0, 0) (heap_alloc_new (V.alloc (.cells #[.string X] 9)) (.cells #[.slice (some ⟨V.heap.size, 0, none⟩) 1 1] t'))
  rw [s1] at this
  rw [this]; rfl
theorem TX.b (V : World) (base : Nat) (X : ByteArray) (t' : TypeId) (hb : base ≤ V.heap.size) : TX ((V.alloc (.cells #[.slice (some ⟨V.heap.size + 1, 0, none⟩) 1 1] t')).alloc (.cells #[.string X] 9)) base V.heap.size (V.heap.size + 1) [X] := by
  have s1 : (V.alloc (.cells #[.slice (some ⟨V.heap.size + 1, 0, none⟩) 1 1] t')).heap.size = V.heap.size + 1 := by simp
  have ho := World.ownsRow_lit (base := base) (e := 9) (size := 1) (V.alloc (.cells #[.slice (some ⟨V.heap.size + 1, 0, none⟩) 1 1] t')) #[.string X] 1 (by rw [s1]; omega) (by unfold maxLen; simp) rfl
  rw [s1] at ho
  refine ⟨⟨1, ?_, ho⟩, by simp, by simp; omega, hb, by omega, by simp⟩
  rw [World.cell?_of_block (a := ⟨V.heap.size, 0, none⟩) (heap_alloc_old _ _ (by simp)), cell_of_row _ V.heap.size 0 _ t' (0, 0) (heap_alloc_new V _)]; rfl
theorem TX.c (V : World) (ob : Obj) (base : Nat) (X : ByteArray) (t' : TypeId) (hb : base ≤ V.heap.size) : TX (((V.alloc (.cells #[.slice (some ⟨V.heap.size + 1 + 1, 0, none⟩) 1 1] t')).alloc ob).alloc (.cells #[.string X] 9)) base V.heap.size (V.heap.size + 1 + 1) [X] := by
  have s1 : ((V.alloc (.cells #[.slice (some ⟨V.heap.size + 1 + 1, 0, none⟩) 1 1] t')).alloc ob).heap.size = V.heap.size + 1 + 1 := by simp
  have ho := World.ownsRow_lit (base := base) (e := 9) (size := 1) ((V.alloc (.cells #[.slice (some ⟨V.heap.size + 1 + 1, 0, none⟩) 1 1] t')).alloc ob) #[.string X] 1 (by rw [s1]; omega) (by unfold maxLen; simp) rfl
  rw [s1] at ho
  refine ⟨⟨1, ?_, ho⟩, (World.frozen?_of_block (a := ⟨V.heap.size, 0, none⟩) ((heap_alloc_old _ _ (by simp; omega)).trans (heap_alloc_old _ _ (by simp)))).trans (by simp), by simp; omega, hb, by omega, by simp⟩
  rw [World.cell?_of_block (a := ⟨V.heap.size, 0, none⟩) (heap_alloc_old _ _ (by simp; omega)), World.cell?_of_block (a := ⟨V.heap.size, 0, none⟩) (heap_alloc_old _ _ (by simp)), cell_of_row _ V.heap.size 0 _ t' (0, 0) (heap_alloc_new V _)]; rfl
theorem tx_line (base o g : Nat) (ts : List ByteArray) (word val : ByteArray) (w : World) (h : TX w base o g ts) (hb : base ≤ w.heap.size) (hn : ts.length ≤ 1000) (hw : word.size ≤ 1000) (hv : val.size ≤ 1000) :
    Calls Tryz.prog 77 #[.string word, .string val, .pointer (some ⟨o, 0, none⟩)] w fun r w' => r = .returned (.tuple #[]) ∧ ∃ g', TX w' base o g' (if val.size = 0 then ts else ts ++ [((⟨#[32, 32]⟩ : ByteArray) ++ word ++ ⟨#[32]⟩) ++ val]) ∧ (g' = g ∨ w.heap.size ≤ g') ∧ Below base w w' ∧ ∀ k, k < w.heap.size → k ≠ o → k ≠ g → w'.heap[k]? = w.heap[k]? := by
  by_cases h0 : val.size = 0
  · rw [if_pos h0]
    have e0 : val.toList.isEmpty = true := isEmpty_nil _ h0
    clear h0
    go_enter Tryz.func77, Tryz.ntmps77
    go_wp2_with fail
    go_end0
    exact ⟨rfl, g, h, Or.inl rfl, Below.refl _ _, fun _ _ _ _ => rfl⟩
  · rw [if_neg h0]
    have e0 : val.toList.isEmpty = false := isEmpty_of _ (by omega)
    obtain ⟨i0, hi, hz0, hz1, hz2⟩ := info_parts strInfo
    have HI := Lib.hid hi
    have HZ0 := Lib.hid hz0
    have HZ1 := Lib.hid hz1
    have HZ2 := Lib.hid hz2
    clear hi hz0 hz1 hz2 h0
    obtain ⟨⟨cap, hcell, hown⟩, hfr, hlt, hbo, hgo, hp⟩ := h
    have HOwn := Lib.hid hown
    clear hown
    have l1 : ¬ 9223372036854775807 < 2 + word.size := by omega
    have l2 : ¬ 9223372036854775807 < 2 + word.size + 1 := by omega
    have l3 : ¬ 9223372036854775807 < 2 + word.size + 1 + val.size := by omega
    go_enter Tryz.func77, Tryz.ntmps77
    go_wp2_with (at_builtin; refine wpList_append_lies _ rfl _ _ 33 rfl base 9 i0 (.string ⟨#[]⟩) 1 16 Tryz.underlying33 HI.out HZ0.out HZ1.out HZ2.out rfl (by decide) _ _ _ rfl (HOwn.out.alloc _) ⟨w.heap.size, 0, none⟩ 1 1 [.string (((⟨#[32, 32]⟩ : ByteArray) ++ word ++ ⟨#[32]⟩) ++ val)] rfl rfl ?c1 ?c2 (by decide) ?c3 ?c4 ?c5 _ rfl ?_)
    case c1 =>
      intro j u hj
      match j, hj with
      | 0, hj => simp at hj; subst hj; simp [Addr.add]
    case c2 => intro u hu; simp at hu; subst hu; rfl
    case c3 => unfold maxLen; omega
    case c4 => omega
    case c5 => simp; omega
    intro g' cap' w1 hown' hgrow hat hlt'
    have hat' : g' = g ∨ g' = w.heap.size + 1 := by
      rcases hat with h | h
      · left; simp [Value.ownBlock] at h; exact h.symm
      · right; simpa using h
    have hob : (Value.slice (some ⟨g, 0, none⟩) ts.length cap).ownBlock = some g := rfl
    rw [hob] at hgrow
    have hblk : ∀ k, k < w.heap.size → k ≠ g → w1.heap[k]? = w.heap[k]? := fun k hk hg => (hgrow.block k (by simp; omega) (by intro e; exact hg (Option.some.inj e))).trans (heap_alloc_old w _ hk)
    have k0 : w1.cell? ⟨o, 0, none⟩ = some (.slice (some ⟨g, 0, none⟩) ts.length cap) := (World.cell?_of_block (a := ⟨o, 0, none⟩) (hblk o hlt (fun e => hgo e.symm))).trans hcell
    have f0 : w1.frozen? ⟨o, 0, none⟩ = false := (World.frozen?_of_block (a := ⟨o, 0, none⟩) (hblk o hlt (fun e => hgo e.symm))).trans hfr
    have hsz := hgrow.size
    have HOwn2 := Lib.hid hown'
    have HGrow := Lib.hid hgrow
    have HBlk := Lib.hid hblk
    clear hown' hgrow hat hblk
    go_wp2_with fail
    go_end0
    have hgb := (HOwn.out.lt g rfl).1
    have hgo' : g' ≠ o := by rcases hat' with h | h <;> omega
    have Gs := grown_setCell w1 ⟨o, 0, none⟩ (.slice (some ⟨g', 0, none⟩) (ts.length + 1) cap')
    have hall : ∀ k, k < w.heap.size → k ≠ o → k ≠ g → (w1.setCell ⟨o, 0, none⟩ (.slice (some ⟨g', 0, none⟩) (ts.length + 1) cap')).heap[k]? = w.heap[k]? := fun k hk ho hg => (heap_setCell_other w1 ⟨o, 0, none⟩ k _ ho).trans (HBlk.out k hk hg)
    simp at hsz
    refine ⟨rfl, g', ⟨⟨cap', ?_, ?_⟩, ?_, by simp; omega, hbo, hgo', by simp⟩, by omega, ⟨Gs.os.trans HGrow.out.os, Gs.tape.trans HGrow.out.tape, Gs.output.trans HGrow.out.output, by simp; omega, fun k hk => hall k (by omega) (by omega) (by omega)⟩, hall⟩
    · rw [List.length_append, List.length_singleton]
      exact World.cell?_setCell_same' _ _ _ (by rw [k0]; rfl)
    · rw [List.length_append, List.length_singleton, List.map_append]
      exact HOwn2.out.kept Gs (Or.inr (by show some g' ≠ some o; intro e; exact hgo' (Option.some.inj e)))
    · have := f0; simpa using this
end Go.Proofs.YteeenpimaepieaaGreatDoor
