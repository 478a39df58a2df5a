/- Several texts in one: TxB TxC. -/
import Derived.Test.YtdfdjfnfmibpjaaGreatDoorDsR
import Derived.Test.YtdfdjfnfmibpjaaGreatDoorKit
import Derived.Test.YtdfdjfnfmibpjaaGreatDoorRdA
import Derived.Deep.AppendLies
import Derived.Test.YtdfdjfnfmibpjaaGreatDoorSaL
import Derived.Deep.DeepCutAuto
import Derived.Deep.RegionLaw
import Derived.Laws.EntriesVeiled
section
/- Contracts of package entry: pick, and the closure that adds a line. -/
namespace Go.Proofs.YtdfdjfnfmibpjaaGreatDoor
open Go.RowKit
set_option maxHeartbeats 1600000
set_option maxRecDepth 8000
theorem tx_pick (ps : List ByteArray) (i b c : Nat) (w : World) (hi : i < ps.length) (_ : ps.length ≤ 1000) (hS : Strs w b ps) :
    Calls Tryz.prog 65 #[.int .i64 i, .slice (some ⟨b, 0, none⟩) ps.length c] w fun r w' => r = .returned (.string ps[i]) ∧ w = w' := by
  have hc := hS i hi
  go_enter Tryz.func65, Tryz.ntmps65
  go_wp2_with fail
  go_ret
  exact ⟨rfl, rfl⟩
/-- the lines so far: their slice lies in the cell of block o, its row in block g -/
def TX (w : World) (base o g : Nat) (ts : List ByteArray) : Prop :=
  (∃ cap, w.cell? ⟨o, 0, none⟩ = some (.slice (some ⟨g, 0, none⟩) ts.length cap) ∧ w.ownsRow base 9 1 (.slice (some ⟨g, 0, none⟩) ts.length cap) ts.length (ts.map Value.string)) ∧ w.frozen? ⟨o, 0, none⟩ = false ∧ o < w.heap.size ∧ base ≤ o ∧ g ≠ o ∧ 0 < ts.length
theorem TX.alloc {w : World} {base o g : Nat} {ts : List ByteArray} (h : TX w base o g ts) (ob : Obj) : TX (w.alloc ob) base o g ts := by
  obtain ⟨⟨cap, h1, h2⟩, h3, h4, h5, h6, h7⟩ := h
  have hk := heap_alloc_old w ob h4
  exact ⟨⟨cap, (World.cell?_of_block (a := ⟨o, 0, none⟩) hk).trans h1, h2.alloc ob⟩, (World.frozen?_of_block (a := ⟨o, 0, none⟩) hk).trans h3, by simp; omega, h5, h6, h7⟩
theorem TX.drew {w : World} {base o g : Nat} {ts : List ByteArray} (h : TX w base o g ts) : TX w.drew base o g ts := h
theorem TX.a (V : World) (base : Nat) (X : ByteArray) (t' : TypeId) (hb : base ≤ V.heap.size) : TX ((V.alloc (.cells #[.string X] 9)).alloc (.cells #[.slice (some ⟨V.heap.size, 0, none⟩) 1 1] t')) base (V.heap.size + 1) V.heap.size [X] := by
  have s1 : (V.alloc (.cells #[.string X] 9)).heap.size = V.heap.size + 1 := by simp
  refine ⟨⟨1, ?_, (World.ownsRow_lit V #[.string X] 1 hb (by unfold maxLen; simp) rfl).alloc _⟩, by simp, by simp, by omega, by omega, by simp⟩
  have := cell_of_row _ _ 0 _ t' (0, 0) (heap_alloc_new (V.alloc (.cells #[.string X] 9)) (.cells #[.slice (some ⟨V.heap.size, 0, none⟩) 1 1] t'))
  rw [s1] at this
  rw [this]; rfl
theorem TX.b (V : World) (base : Nat) (X : ByteArray) (t' : TypeId) (hb : base ≤ V.heap.size) : TX ((V.alloc (.cells #[.slice (some ⟨V.heap.size + 1, 0, none⟩) 1 1] t')).alloc (.cells #[.string X] 9)) base V.heap.size (V.heap.size + 1) [X] := by
  have s1 : (V.alloc (.cells #[.slice (some ⟨V.heap.size + 1, 0, none⟩) 1 1] t')).heap.size = V.heap.size + 1 := by simp
  have ho := World.ownsRow_lit (base := base) (e := 9) (size := 1) (V.alloc (.cells #[.slice (some ⟨V.heap.size + 1, 0, none⟩) 1 1] t')) #[.string X] 1 (by rw [s1]; omega) (by unfold maxLen; simp) rfl
  rw [s1] at ho
  refine ⟨⟨1, ?_, ho⟩, by simp, by simp; omega, hb, by omega, by simp⟩
  rw [World.cell?_of_block (a := ⟨V.heap.size, 0, none⟩) (heap_alloc_old _ _ (by simp)), cell_of_row _ V.heap.size 0 _ t' (0, 0) (heap_alloc_new V _)]; rfl
theorem TX.c (V : World) (ob : Obj) (base : Nat) (X : ByteArray) (t' : TypeId) (hb : base ≤ V.heap.size) : TX (((V.alloc (.cells #[.slice (some ⟨V.heap.size + 1 + 1, 0, none⟩) 1 1] t')).alloc ob).alloc (.cells #[.string X] 9)) base V.heap.size (V.heap.size + 1 + 1) [X] := by
  have s1 : ((V.alloc (.cells #[.slice (some ⟨V.heap.size + 1 + 1, 0, none⟩) 1 1] t')).alloc ob).heap.size = V.heap.size + 1 + 1 := by simp
  have ho := World.ownsRow_lit (base := base) (e := 9) (size := 1) ((V.alloc (.cells #[.slice (some ⟨V.heap.size + 1 + 1, 0, none⟩) 1 1] t')).alloc ob) #[.string X] 1 (by rw [s1]; omega) (by unfold maxLen; simp) rfl
  rw [s1] at ho
  refine ⟨⟨1, ?_, ho⟩, (World.frozen?_of_block (a := ⟨V.heap.size, 0, none⟩) ((heap_alloc_old _ _ (by simp; omega)).trans (heap_alloc_old _ _ (by simp)))).trans (by simp), by simp; omega, hb, by omega, by simp⟩
  rw [World.cell?_of_block (a := ⟨V.heap.size, 0, none⟩) (heap_alloc_old _ _ (by simp; omega)), World.cell?_of_block (a := ⟨V.heap.size, 0, none⟩) (heap_alloc_old _ _ (by simp)), cell_of_row _ V.heap.size 0 _ t' (0, 0) (heap_alloc_new V _)]; rfl
theorem tx_line (base o g : Nat) (ts : List ByteArray) (word val : ByteArray) (w : World) (h : TX w base o g ts) (hb : base ≤ w.heap.size) (hn : ts.length ≤ 1000) (hw : word.size ≤ 1000) (hv : val.size ≤ 1000) :
    Calls Tryz.prog 66 #[.string word, .string val, .pointer (some ⟨o, 0, none⟩)] w fun r w' => r = .returned (.tuple #[]) ∧ ∃ g', TX w' base o g' (if val.size = 0 then ts else ts ++ [((⟨#[32, 32]⟩ : ByteArray) ++ word ++ ⟨#[32]⟩) ++ val]) ∧ (g' = g ∨ w.heap.size ≤ g') ∧ Below base w w' ∧ ∀ k, k < w.heap.size → k ≠ o → k ≠ g → w'.heap[k]? = w.heap[k]? := by
  by_cases h0 : val.size = 0
  · rw [if_pos h0]
    have e0 : val.toList.isEmpty = true := isEmpty_nil _ h0
    clear h0
    go_enter Tryz.func66, Tryz.ntmps66
    go_wp2_with fail
    go_end0
    exact ⟨rfl, g, h, Or.inl rfl, Below.refl _ _, fun _ _ _ _ => rfl⟩
  · rw [if_neg h0]
    have e0 : val.toList.isEmpty = false := isEmpty_of _ (by omega)
    obtain ⟨i0, hi, hz0, hz1, hz2⟩ := info_parts strInfo
    have HI := Lib.hid hi
    have HZ0 := Lib.hid hz0
    have HZ1 := Lib.hid hz1
    have HZ2 := Lib.hid hz2
    clear hi hz0 hz1 hz2 h0
    obtain ⟨⟨cap, hcell, hown⟩, hfr, hlt, hbo, hgo, hp⟩ := h
    have HOwn := Lib.hid hown
    clear hown
    have l1 : ¬ 9223372036854775807 < 2 + word.size := by omega
    have l2 : ¬ 9223372036854775807 < 2 + word.size + 1 := by omega
    have l3 : ¬ 9223372036854775807 < 2 + word.size + 1 + val.size := by omega
    go_enter Tryz.func66, Tryz.ntmps66
    go_wp2_with (at_builtin; refine wpList_append_lies _ rfl _ _ 33 rfl base 9 i0 (.string ⟨#[]⟩) 1 16 Tryz.underlying33 HI.out HZ0.out HZ1.out HZ2.out rfl (by decide) _ _ _ rfl (HOwn.out.alloc _) ⟨w.heap.size, 0, none⟩ 1 1 [.string (((⟨#[32, 32]⟩ : ByteArray) ++ word ++ ⟨#[32]⟩) ++ val)] rfl rfl ?c1 ?c2 (by decide) ?c3 ?c4 ?c5 _ rfl ?_)
    case c1 =>
      intro j u hj
      match j, hj with
      | 0, hj => simp at hj; subst hj; simp [Addr.add]
    case c2 => intro u hu; simp at hu; subst hu; rfl
    case c3 => unfold maxLen; omega
    case c4 => omega
    case c5 => simp; omega
    intro g' cap' w1 hown' hgrow hat hlt'
    have hat' : g' = g ∨ g' = w.heap.size + 1 := by
      rcases hat with h | h
      · left; simp [Value.ownBlock] at h; exact h.symm
      · right; simpa using h
    have hob : (Value.slice (some ⟨g, 0, none⟩) ts.length cap).ownBlock = some g := rfl
    rw [hob] at hgrow
    have hblk : ∀ k, k < w.heap.size → k ≠ g → w1.heap[k]? = w.heap[k]? := fun k hk hg => (hgrow.block k (by simp; omega) (by intro e; exact hg (Option.some.inj e))).trans (heap_alloc_old w _ hk)
    have k0 : w1.cell? ⟨o, 0, none⟩ = some (.slice (some ⟨g, 0, none⟩) ts.length cap) := (World.cell?_of_block (a := ⟨o, 0, none⟩) (hblk o hlt (fun e => hgo e.symm))).trans hcell
    have f0 : w1.frozen? ⟨o, 0, none⟩ = false := (World.frozen?_of_block (a := ⟨o, 0, none⟩) (hblk o hlt (fun e => hgo e.symm))).trans hfr
    have hsz := hgrow.size
    have HOwn2 := Lib.hid hown'
    have HGrow := Lib.hid hgrow
    have HBlk := Lib.hid hblk
    clear hown' hgrow hat hblk
    go_wp2_with fail
    go_end0
    have hgb := (HOwn.out.lt g rfl).1
    have hgo' : g' ≠ o := by rcases hat' with h | h <;> omega
    have Gs := grown_setCell w1 ⟨o, 0, none⟩ (.slice (some ⟨g', 0, none⟩) (ts.length + 1) cap')
    have hall : ∀ k, k < w.heap.size → k ≠ o → k ≠ g → (w1.setCell ⟨o, 0, none⟩ (.slice (some ⟨g', 0, none⟩) (ts.length + 1) cap')).heap[k]? = w.heap[k]? := fun k hk ho hg => (heap_setCell_other w1 ⟨o, 0, none⟩ k _ ho).trans (HBlk.out k hk hg)
    simp at hsz
    refine ⟨rfl, g', ⟨⟨cap', ?_, ?_⟩, ?_, by simp; omega, hbo, hgo', by simp⟩, by omega, ⟨Gs.os.trans HGrow.out.os, Gs.tape.trans HGrow.out.tape, Gs.output.trans HGrow.out.output, by simp; omega, fun k hk => hall k (by omega) (by omega) (by omega)⟩, hall⟩
    · rw [List.length_append, List.length_singleton]
      exact World.cell?_setCell_same' _ _ _ (by rw [k0]; rfl)
    · rw [List.length_append, List.length_singleton, List.map_append]
      exact HOwn2.out.kept Gs (Or.inr (by show some g' ≠ some o; intro e; exact hgo' (Option.some.inj e)))
    · have := f0; simpa using this
end Go.Proofs.YtdfdjfnfmibpjaaGreatDoor

end
section
/- Contracts of package entry: Text at an alias. -/
namespace Go.Proofs.YtdfdjfnfmibpjaaGreatDoor
open Go.RowKit
set_option maxHeartbeats 32000000
set_option maxRecDepth 8000
def kinds5 : List ByteArray := [⟨#[100, 97, 116, 97]⟩, ⟨#[103, 114, 111, 117, 112]⟩, ⟨#[97, 108, 105, 97, 115]⟩, ⟨#[99, 97, 116, 97, 108, 111, 103]⟩, ⟨#[112, 114, 111, 102, 105, 108, 101]⟩]
theorem strs_kinds (W W2 : World) (t : TypeId) (b : Nat) (h : W2.heap[b]? = (W.alloc (.cells #[.string ⟨#[100, 97, 116, 97]⟩, .string ⟨#[103, 114, 111, 117, 112]⟩, .string ⟨#[97, 108, 105, 97, 115]⟩, .string ⟨#[99, 97, 116, 97, 108, 111, 103]⟩, .string ⟨#[112, 114, 111, 102, 105, 108, 101]⟩] t)).heap[b]?) (hb : b = W.heap.size) : Strs W2 b kinds5 := fun k hk => by
  subst hb
  rw [World.cell?_of_block (a := ⟨W.heap.size, k, none⟩) h, cell_of_row _ W.heap.size k _ t (0, 0) (heap_alloc_new W _)]
  have hk : k < 5 := hk
  rcases (by omega : k = 0 ∨ k = 1 ∨ k = 2 ∨ k = 3 ∨ k = 4) with rfl | rfl | rfl | rfl | rfl <;> rfl
theorem pick_alias (b : Nat) (W : World) (h : Strs W b kinds5) : Calls Tryz.prog 65 #[.int .i64 2, .slice (some ⟨b, 0, none⟩) 5 5] W fun r w' => r = .returned (.string ⟨#[97, 108, 105, 97, 115]⟩) ∧ W = w' := tx_pick kinds5 2 b 5 W (by decide) (by decide) h
theorem pick_al1 (X : World) (t : TypeId) (b : Nat) (hb : b = X.heap.size) : Calls Tryz.prog 65 #[.int .i64 2, .slice (some ⟨b, 0, none⟩) 5 5] (X.alloc (.cells #[.string ⟨#[100, 97, 116, 97]⟩, .string ⟨#[103, 114, 111, 117, 112]⟩, .string ⟨#[97, 108, 105, 97, 115]⟩, .string ⟨#[99, 97, 116, 97, 108, 111, 103]⟩, .string ⟨#[112, 114, 111, 102, 105, 108, 101]⟩] t)).drew fun r w' => r = .returned (.string ⟨#[97, 108, 105, 97, 115]⟩) ∧ (X.alloc (.cells #[.string ⟨#[100, 97, 116, 97]⟩, .string ⟨#[103, 114, 111, 117, 112]⟩, .string ⟨#[97, 108, 105, 97, 115]⟩, .string ⟨#[99, 97, 116, 97, 108, 111, 103]⟩, .string ⟨#[112, 114, 111, 102, 105, 108, 101]⟩] t)).drew = w' := pick_alias b _ (strs_kinds X _ t b rfl hb)
theorem pick_al2 (X : World) (t t' : TypeId) (v : Value) (b : Nat) (hb : b = X.heap.size) : Calls Tryz.prog 65 #[.int .i64 2, .slice (some ⟨b, 0, none⟩) 5 5] ((X.alloc (.cells #[.string ⟨#[100, 97, 116, 97]⟩, .string ⟨#[103, 114, 111, 117, 112]⟩, .string ⟨#[97, 108, 105, 97, 115]⟩, .string ⟨#[99, 97, 116, 97, 108, 111, 103]⟩, .string ⟨#[112, 114, 111, 102, 105, 108, 101]⟩] t)).alloc (.cells #[v] t')).drew fun r w' => r = .returned (.string ⟨#[97, 108, 105, 97, 115]⟩) ∧ ((X.alloc (.cells #[.string ⟨#[100, 97, 116, 97]⟩, .string ⟨#[103, 114, 111, 117, 112]⟩, .string ⟨#[97, 108, 105, 97, 115]⟩, .string ⟨#[99, 97, 116, 97, 108, 111, 103]⟩, .string ⟨#[112, 114, 111, 102, 105, 108, 101]⟩] t)).alloc (.cells #[v] t')).drew = w' := pick_alias b _ (strs_kinds X _ t b (by subst hb; exact heap_alloc_old _ _ (by simp)) hb)
attribute [local go_sem ↓] ldEnt stEnt ldDat stDat
attribute [local go_sem] isDat_mk isHead_mk headOf_mk cellsOfV_mk isAggV_mk row_new row_new2 row_new2' row_drew row_drewN vals_size vals_dat dat_size dat_one allOne_nil allOne_cons one_int one_bool one_string one_pointer one_slice one_func
theorem tx_alias (e : En) (al gr : Value) (l2 : List Int) (g2 : List Gr) (w : World) (hk : e.kind = 2) (hok : okX (e, l2, g2) = true) (hm : MaxL w) (hT : Tab w) (hsz : e.name.size ≤ 1000) (htz : e.target.size ≤ 1000) (ht0 : ¬ e.target.size = 0) (h1 : IS w al l2) (h2 : GS w gr g2) :
    Calls Tryz.prog 17 #[.agg (e.vals al gr)] w fun r w' => ∃ (g cap : Nat) (ps : List ByteArray), r = .returned (.slice (some ⟨g, 0, none⟩) ps.length cap) ∧ Strs w' g ps ∧ ps = [((⟨#[97, 108, 105, 97, 115]⟩ : ByteArray) ++ ⟨#[32]⟩) ++ e.name] ++ [((⟨#[32, 32]⟩ : ByteArray) ++ ⟨#[116, 97, 114, 103, 101, 116]⟩ ++ ⟨#[32]⟩) ++ e.target] ∧ Below w.heap.size w w' := by
  have hv := va_any e al gr l2 g2
  have hv := fun W (b : Below w.heap.size w W) => hv W (hm.below b) (hT.below b) hsz (h1.below b) (h2.below b)
  rw [hok] at hv
  have HV := Lib.hid hv
  have HK := Lib.hid hk
  clear hv h1 h2 hok hk
  have l1 : ¬ 9223372036854775807 < 6 + e.name.size := by omega
  go_enter Tryz.func17, Tryz.ntmps17
  go_upto_region 4 with (first | (go_at_call 10; (with_reducible refine (HV.out _ (by exact belA)).mono ?_); rintro _ w2 ⟨rfl, hb⟩; have R2 := row_below hb (row_new w _ _ _) (by simp [vals_size]); have B2 := Below.trans (show Below w.heap.size w _ by exact belA) (hb.mono (by simp)); have z2 : w.heap.size < w2.heap.size := (by have := hb.size; simp at this; omega); clear hb))
  have n0 := cell_row R2 0 _ (vals_0 e al gr)
  rw [HK.out] at n0
  have n1 := cell_row R2 1 _ (vals_1 e al gr)
  have z3 : w.heap.size < w2.heap.size + 1 := by omega
  have z4 : w.heap.size < w2.heap.size + 1 + 1 := by omega
  have z5 : w.heap.size < w2.heap.size + 1 + 1 + 1 := by omega
  go_cut [4] (fun t4 wx => ∃ o g, t4 = .pointer (some ⟨o, 0, none⟩) ∧ TX wx w.heap.size o g [((⟨#[97, 108, 105, 97, 115]⟩ : ByteArray) ++ ⟨#[32]⟩) ++ e.name] ∧ row wx w.heap.size = e.vals al gr ∧ w.heap.size < wx.heap.size ∧ w.heap.size ≠ o ∧ w.heap.size ≠ g ∧ Below w.heap.size w wx)
  case first =>
    go_region_law (first | (go_simp; go_at_call 65; (first | (with_reducible refine (pick_al1 _ _ _ (by simp)).mono ?_) | (with_reducible refine (pick_al2 _ _ _ _ _ (by simp)).mono ?_)); rintro _ w3 ⟨rfl, rfl⟩))
    all_goals
      go_wp2_with fail
      go_meet
      have sV : ((w2.alloc (.cells e.dat 23)).alloc (.cells #[.string ⟨#[100, 97, 116, 97]⟩, .string ⟨#[103, 114, 111, 117, 112]⟩, .string ⟨#[97, 108, 105, 97, 115]⟩, .string ⟨#[99, 97, 116, 97, 108, 111, 103]⟩, .string ⟨#[112, 114, 111, 102, 105, 108, 101]⟩] 9)).heap.size = w2.heap.size + 1 + 1 := by simp
      have qa := TX.a ((w2.alloc (.cells e.dat 23)).alloc (.cells #[.string ⟨#[100, 97, 116, 97]⟩, .string ⟨#[103, 114, 111, 117, 112]⟩, .string ⟨#[97, 108, 105, 97, 115]⟩, .string ⟨#[99, 97, 116, 97, 108, 111, 103]⟩, .string ⟨#[112, 114, 111, 102, 105, 108, 101]⟩] 9)) w.heap.size (((⟨#[97, 108, 105, 97, 115]⟩ : ByteArray) ++ ⟨#[32]⟩) ++ e.name) 33 (by rw [sV]; omega)
      have qb := TX.b ((w2.alloc (.cells e.dat 23)).alloc (.cells #[.string ⟨#[100, 97, 116, 97]⟩, .string ⟨#[103, 114, 111, 117, 112]⟩, .string ⟨#[97, 108, 105, 97, 115]⟩, .string ⟨#[99, 97, 116, 97, 108, 111, 103]⟩, .string ⟨#[112, 114, 111, 102, 105, 108, 101]⟩] 9)) w.heap.size (((⟨#[97, 108, 105, 97, 115]⟩ : ByteArray) ++ ⟨#[32]⟩) ++ e.name) 33 (by rw [sV]; omega)
      rw [sV] at qa qb
      have qc := fun ob : Obj => TX.c (w2.alloc (.cells e.dat 23)) ob w.heap.size (((⟨#[97, 108, 105, 97, 115]⟩ : ByteArray) ++ ⟨#[32]⟩) ++ e.name) 33 (by simp; omega)
      rw [show (w2.alloc (.cells e.dat 23)).heap.size = w2.heap.size + 1 by simp] at qc
      have B2' : ∀ o1 o2 o3 o4 : Obj, Below w2.heap.size w2 ((((w2.alloc o1).alloc o2).alloc o3).alloc o4).drew := fun o1 o2 o3 o4 => by exact belA
      first
      | exact ⟨_, _, rfl, qa.drew, row_below (B2' _ _ _ _) R2 (by simp [vals_size]), by simp; omega, by omega, by omega, by exact belA⟩
      | exact ⟨_, _, rfl, (qc _).drew, row_below (B2' _ _ _ _) R2 (by simp [vals_size]), by simp; omega, by omega, by omega, by exact belA⟩
      | exact ⟨_, _, rfl, qb.drew, row_below (B2' _ _ _ _) R2 (by simp [vals_size]), by simp; omega, by omega, by omega, by exact belA⟩
  case rest =>
    obtain ⟨o, g, rfl, hTX, hrow, hlt, hno, hng, hB⟩ := hcut
    have n0 := cell_row hrow 0 _ (vals_0 e al gr)
    rw [HK.out] at n0
    have n29 := cell_row hrow 29 _ (vals_29 e al gr)
    have hsz2 := hB.size
    have hX := (fun (W : World) (h : TX W w.heap.size o g [((⟨#[97, 108, 105, 97, 115]⟩ : ByteArray) ++ ⟨#[32]⟩) ++ e.name]) (hb : w.heap.size ≤ W.heap.size) => tx_line w.heap.size o g [((⟨#[97, 108, 105, 97, 115]⟩ : ByteArray) ++ ⟨#[32]⟩) ++ e.name] ⟨#[116, 97, 114, 103, 101, 116]⟩ e.target W h hb (by simp) (by decide) htz)
    rw [if_neg ht0] at hX
    have HX := Lib.hid hX
    clear hX
    go_wp2_with (first | (go_at_call 66; (with_reducible refine (HX.out _ ((hTX.alloc _).alloc _) (by simp; omega)).mono ?_); rintro _ w5 ⟨rfl, g', hT', hgg, hB5, hblk⟩; obtain ⟨⟨cap, hcell, hown⟩, _⟩ := hT'; have HO := Lib.hid hown; have HB5 := Lib.hid hB5; clear hown hB5 hblk hgg))
    go_ret
    refine ⟨g', cap, _, ?_, owns_strs HO.out, rfl, Below.trans (show Below w.heap.size w _ by exact belA) HB5.out⟩
    rfl
end Go.Proofs.YtdfdjfnfmibpjaaGreatDoor

end
