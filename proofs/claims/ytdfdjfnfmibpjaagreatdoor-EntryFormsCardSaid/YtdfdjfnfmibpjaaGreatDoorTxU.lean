/- Picks of entry.Text, and the cell of its lines. -/
import Derived.Test.YtdfdjfnfmibpjaaGreatDoorTxF
import Derived.StillTailTactics
namespace Go.Proofs.YtdfdjfnfmibpjaaGreatDoor
open Go.RowKit
set_option maxHeartbeats 64000000
set_option maxRecDepth 8000
set_option linter.unusedSimpArgs false
theorem pick_any (ps : List ByteArray) (k : Int) (b c : Nat) (W : World) (h0 : 0 ≤ k) (h1 : k < (ps.length : Int)) (hp : ps.length ≤ 1000) (h : Strs W b ps) :
    Calls Tryz.prog 65 #[.int .i64 k, .slice (some ⟨b, 0, none⟩) ps.length c] W fun r w' => r = .returned (.string (atW ps k)) ∧ W = w' := by
  obtain ⟨n, rfl⟩ : ∃ n : Nat, k = n := ⟨k.toNat, by omega⟩
  have hn : n < ps.length := by omega
  refine (tx_pick ps n b c W hn hp h).mono ?_
  rintro r w' ⟨rfl, rfl⟩
  refine ⟨?_, rfl⟩
  unfold atW
  rw [Int.toNat_natCast, List.getD_eq_getElem?_getD, List.getElem?_eq_getElem hn]
  rfl
theorem strs_new (ps : List ByteArray) (W : World) (t : TypeId) : Strs (W.alloc (.cells (ps.map Value.string).toArray t)) W.heap.size ps := fun k hk => by
  rw [cell_of_row _ W.heap.size k _ t (0, 0) (heap_alloc_new W _)]
  simp [hk]
theorem pick_k1 (k : Int) (h0 : 0 ≤ k) (h4 : k ≤ 4) (X : World) (t : TypeId) (b : Nat) (hb : b = X.heap.size) : Calls Tryz.prog 65 #[.int .i64 k, .slice (some ⟨b, 0, none⟩) 5 5] (X.alloc (.cells #[.string ⟨#[100, 97, 116, 97]⟩, .string ⟨#[103, 114, 111, 117, 112]⟩, .string ⟨#[97, 108, 105, 97, 115]⟩, .string ⟨#[99, 97, 116, 97, 108, 111, 103]⟩, .string ⟨#[112, 114, 111, 102, 105, 108, 101]⟩] t)).drew fun r w' => r = .returned (.string (atW kindsW k)) ∧ (X.alloc (.cells #[.string ⟨#[100, 97, 116, 97]⟩, .string ⟨#[103, 114, 111, 117, 112]⟩, .string ⟨#[97, 108, 105, 97, 115]⟩, .string ⟨#[99, 97, 116, 97, 108, 111, 103]⟩, .string ⟨#[112, 114, 111, 102, 105, 108, 101]⟩] t)).drew = w' := by
  subst hb
  exact pick_any kindsW k _ 5 _ h0 (by show k < 5; omega) (by decide) (strs_new kindsW X t)
theorem pick_k2 (k : Int) (h0 : 0 ≤ k) (h4 : k ≤ 4) (X : World) (t t' : TypeId) (v : Value) (b : Nat) (hb : b = X.heap.size) : Calls Tryz.prog 65 #[.int .i64 k, .slice (some ⟨b, 0, none⟩) 5 5] ((X.alloc (.cells #[.string ⟨#[100, 97, 116, 97]⟩, .string ⟨#[103, 114, 111, 117, 112]⟩, .string ⟨#[97, 108, 105, 97, 115]⟩, .string ⟨#[99, 97, 116, 97, 108, 111, 103]⟩, .string ⟨#[112, 114, 111, 102, 105, 108, 101]⟩] t)).alloc (.cells #[v] t')).drew fun r w' => r = .returned (.string (atW kindsW k)) ∧ ((X.alloc (.cells #[.string ⟨#[100, 97, 116, 97]⟩, .string ⟨#[103, 114, 111, 117, 112]⟩, .string ⟨#[97, 108, 105, 97, 115]⟩, .string ⟨#[99, 97, 116, 97, 108, 111, 103]⟩, .string ⟨#[112, 114, 111, 102, 105, 108, 101]⟩] t)).alloc (.cells #[v] t')).drew = w' := by
  subst hb
  refine pick_any kindsW k _ 5 _ h0 (by show k < 5; omega) (by decide) fun j hj => ?_
  have := strs_new kindsW X t j hj
  exact (World.cell?_of_block (a := ⟨X.heap.size, j, none⟩) (heap_alloc_old _ _ (by simp))).trans this
theorem pick_o1 (k : Int) (h0 : 0 ≤ k) (h4 : k ≤ 3) (X : World) (t : TypeId) (b : Nat) (hb : b = X.heap.size) : Calls Tryz.prog 65 #[.int .i64 k, .slice (some ⟨b, 0, none⟩) 4 4] (X.alloc (.cells #[.string ⟨#[115, 101, 113, 117, 101, 110, 116, 105, 97, 108]⟩, .string ⟨#[101, 110, 116, 114, 121]⟩, .string ⟨#[114, 101, 108, 97, 116, 105, 118, 101]⟩, .string ⟨#[107, 101, 121, 101, 100]⟩] t)).drew fun r w' => r = .returned (.string (atW orgW k)) ∧ (X.alloc (.cells #[.string ⟨#[115, 101, 113, 117, 101, 110, 116, 105, 97, 108]⟩, .string ⟨#[101, 110, 116, 114, 121]⟩, .string ⟨#[114, 101, 108, 97, 116, 105, 118, 101]⟩, .string ⟨#[107, 101, 121, 101, 100]⟩] t)).drew = w' := by
  subst hb
  exact pick_any orgW k _ 4 _ h0 (by show k < 4; omega) (by decide) (strs_new orgW X t)
theorem pick_f1 (k : Int) (h0 : 0 ≤ k) (h4 : k ≤ 2) (X : World) (t : TypeId) (b : Nat) (hb : b = X.heap.size) : Calls Tryz.prog 65 #[.int .i64 k, .slice (some ⟨b, 0, none⟩) 3 3] (X.alloc (.cells #[.string ⟨#[]⟩, .string ⟨#[118, 97, 114, 105, 97, 98, 108, 101]⟩, .string ⟨#[115, 112, 97, 110, 110, 101, 100]⟩] t)).drew fun r w' => r = .returned (.string (atW fmtW k)) ∧ (X.alloc (.cells #[.string ⟨#[]⟩, .string ⟨#[118, 97, 114, 105, 97, 98, 108, 101]⟩, .string ⟨#[115, 112, 97, 110, 110, 101, 100]⟩] t)).drew = w' := by
  subst hb
  exact pick_any fmtW k _ 3 _ h0 (by show k < 3; omega) (by decide) (strs_new fmtW X t)
theorem pick_n (k : Nat) (hk : k < 11) (X : World) (t : TypeId) (b : Nat) (hb : b = X.heap.size) : Calls Tryz.prog 65 #[.int .i64 k, .slice (some ⟨b, 0, none⟩) 11 11] (X.alloc (.cells #[.string ⟨#[108, 101, 110, 103, 116, 104]⟩, .string ⟨#[98, 108, 111, 99, 107]⟩, .string ⟨#[107, 101, 121, 97, 116]⟩, .string ⟨#[107, 101, 121, 108, 101, 110, 103, 116, 104]⟩, .string ⟨#[105, 110, 116, 101, 114, 118, 97, 108]⟩, .string ⟨#[97, 114, 101, 97]⟩, .string ⟨#[102, 114, 101, 101, 105, 110, 116, 101, 114, 118, 97, 108]⟩, .string ⟨#[102, 114, 101, 101, 97, 114, 101, 97]⟩, .string ⟨#[98, 97, 115, 101]⟩, .string ⟨#[97, 108, 116, 97, 116]⟩, .string ⟨#[97, 108, 116, 108, 101, 110, 103, 116, 104]⟩] t)) fun r w' => r = .returned (.string (numW.getD k ⟨#[]⟩)) ∧ (X.alloc (.cells #[.string ⟨#[108, 101, 110, 103, 116, 104]⟩, .string ⟨#[98, 108, 111, 99, 107]⟩, .string ⟨#[107, 101, 121, 97, 116]⟩, .string ⟨#[107, 101, 121, 108, 101, 110, 103, 116, 104]⟩, .string ⟨#[105, 110, 116, 101, 114, 118, 97, 108]⟩, .string ⟨#[97, 114, 101, 97]⟩, .string ⟨#[102, 114, 101, 101, 105, 110, 116, 101, 114, 118, 97, 108]⟩, .string ⟨#[102, 114, 101, 101, 97, 114, 101, 97]⟩, .string ⟨#[98, 97, 115, 101]⟩, .string ⟨#[97, 108, 116, 97, 116]⟩, .string ⟨#[97, 108, 116, 108, 101, 110, 103, 116, 104]⟩] t)) = w' := by
  subst hb
  exact pick_any numW k _ 11 _ (by omega) (by show (k : Int) < 11; omega) (by decide) (strs_new numW X t)
theorem atW_size (ps : List ByteArray) (m : Nat) (h : ∀ p ∈ ps, p.size ≤ m) (k : Int) : (atW ps k).size ≤ m := by
  unfold atW
  rw [List.getD_eq_getElem?_getD]
  rcases Nat.lt_or_ge k.toNat ps.length with h1 | h1
  · rw [List.getElem?_eq_getElem h1]; exact h _ (List.getElem_mem h1)
  · rw [List.getElem?_eq_none h1]; exact Nat.zero_le _
theorem pick_A (k : Int) (h0 : 0 ≤ k) (h4 : k ≤ 4) (X : World) (t : TypeId) (b : Nat) (hb : b = X.heap.size) : Calls Tryz.prog 65 #[.int .i64 k, .slice (some ⟨b, 0, none⟩) 5 5] (X.alloc (.cells #[.string ⟨#[100, 97, 116, 97]⟩, .string ⟨#[103, 114, 111, 117, 112]⟩, .string ⟨#[97, 108, 105, 97, 115]⟩, .string ⟨#[99, 97, 116, 97, 108, 111, 103]⟩, .string ⟨#[112, 114, 111, 102, 105, 108, 101]⟩] t)) fun r w' => r = .returned (.string (atW kindsW k)) ∧ X.alloc (.cells #[.string ⟨#[100, 97, 116, 97]⟩, .string ⟨#[103, 114, 111, 117, 112]⟩, .string ⟨#[97, 108, 105, 97, 115]⟩, .string ⟨#[99, 97, 116, 97, 108, 111, 103]⟩, .string ⟨#[112, 114, 111, 102, 105, 108, 101]⟩] t) = w' := by
  subst hb
  exact pick_any kindsW k _ 5 _ h0 (by show k < 5; omega) (by decide) (strs_new kindsW X t)
theorem pick_B (k : Int) (h0 : 0 ≤ k) (h4 : k ≤ 4) (X : World) (t : TypeId) (ob : Obj) (b : Nat) (hb : b = X.heap.size) : Calls Tryz.prog 65 #[.int .i64 k, .slice (some ⟨b, 0, none⟩) 5 5] ((X.alloc (.cells #[.string ⟨#[100, 97, 116, 97]⟩, .string ⟨#[103, 114, 111, 117, 112]⟩, .string ⟨#[97, 108, 105, 97, 115]⟩, .string ⟨#[99, 97, 116, 97, 108, 111, 103]⟩, .string ⟨#[112, 114, 111, 102, 105, 108, 101]⟩] t)).alloc ob) fun r w' => r = .returned (.string (atW kindsW k)) ∧ (X.alloc (.cells #[.string ⟨#[100, 97, 116, 97]⟩, .string ⟨#[103, 114, 111, 117, 112]⟩, .string ⟨#[97, 108, 105, 97, 115]⟩, .string ⟨#[99, 97, 116, 97, 108, 111, 103]⟩, .string ⟨#[112, 114, 111, 102, 105, 108, 101]⟩] t)).alloc ob = w' := by
  subst hb
  refine pick_any kindsW k _ 5 _ h0 (by show k < 5; omega) (by decide) fun j hj => ?_
  have := strs_new kindsW X t j hj
  exact (World.cell?_of_block (a := ⟨X.heap.size, j, none⟩) (heap_alloc_old _ _ (by simp))).trans this
theorem pick_oA (k : Int) (h0 : 0 ≤ k) (h4 : k ≤ 3) (X : World) (t : TypeId) (b : Nat) (hb : b = X.heap.size) : Calls Tryz.prog 65 #[.int .i64 k, .slice (some ⟨b, 0, none⟩) 4 4] (X.alloc (.cells #[.string ⟨#[115, 101, 113, 117, 101, 110, 116, 105, 97, 108]⟩, .string ⟨#[101, 110, 116, 114, 121]⟩, .string ⟨#[114, 101, 108, 97, 116, 105, 118, 101]⟩, .string ⟨#[107, 101, 121, 101, 100]⟩] t)) fun r w' => r = .returned (.string (atW orgW k)) ∧ X.alloc (.cells #[.string ⟨#[115, 101, 113, 117, 101, 110, 116, 105, 97, 108]⟩, .string ⟨#[101, 110, 116, 114, 121]⟩, .string ⟨#[114, 101, 108, 97, 116, 105, 118, 101]⟩, .string ⟨#[107, 101, 121, 101, 100]⟩] t) = w' := by
  subst hb
  exact pick_any orgW k _ 4 _ h0 (by show k < 4; omega) (by decide) (strs_new orgW X t)
theorem pick_fA (k : Int) (h0 : 0 ≤ k) (h4 : k ≤ 2) (X : World) (t : TypeId) (b : Nat) (hb : b = X.heap.size) : Calls Tryz.prog 65 #[.int .i64 k, .slice (some ⟨b, 0, none⟩) 3 3] (X.alloc (.cells #[.string ⟨#[]⟩, .string ⟨#[118, 97, 114, 105, 97, 98, 108, 101]⟩, .string ⟨#[115, 112, 97, 110, 110, 101, 100]⟩] t)) fun r w' => r = .returned (.string (atW fmtW k)) ∧ X.alloc (.cells #[.string ⟨#[]⟩, .string ⟨#[118, 97, 114, 105, 97, 98, 108, 101]⟩, .string ⟨#[115, 112, 97, 110, 110, 101, 100]⟩] t) = w' := by
  subst hb
  exact pick_any fmtW k _ 3 _ h0 (by show k < 3; omega) (by decide) (strs_new fmtW X t)
theorem tx_store {W : World} {base o g : Nat} {X : ByteArray} {v0 : Value} (ho : W.cell? ⟨o, 0, none⟩ = some v0) (hf : W.frozen? ⟨o, 0, none⟩ = false) (hb : base ≤ o) (h : OW W base (.slice (some ⟨g, 0, none⟩) 1 1) [X]) (hne : g ≠ o) : TX (W.setCell ⟨o, 0, none⟩ (.slice (some ⟨g, 0, none⟩) 1 1)) base o g [X] := by
  have hl := block_lt_of_cell ho
  refine ⟨⟨1, World.cell?_setCell_same' _ _ _ (by rw [ho]; rfl), ?_⟩, by simp; exact hf, by simp; exact hl, hb, hne, Nat.zero_lt_one⟩
  exact own_keep h fun x hx => (grown_setCell W ⟨o, 0, none⟩ _).block x (own_base h x hx).2 (fun e => by cases hx; exact hne (Option.some.inj e))
end Go.Proofs.YtdfdjfnfmibpjaaGreatDoor
