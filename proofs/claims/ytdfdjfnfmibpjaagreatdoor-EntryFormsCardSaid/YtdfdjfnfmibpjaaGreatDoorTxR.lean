/- Contracts of the reference's lines, and lists of texts that grow. -/
import Derived.Test.YtdfdjfnfmibpjaaGreatDoorTxP
import Derived.Test.YtdfdjfnfmibpjaaGreatDoorRtC
import Derived.Test.YtdfdjfnfmibpjaaGreatDoorCalE
import Derived.Test.YtdfdjfnfmibpjaaGreatDoorDsR
import Derived.Test.YtdfdjfnfmibpjaaGreatDoorKs
namespace Go.Proofs.YtdfdjfnfmibpjaaGreatDoor
open Go.RowKit
set_option maxHeartbeats 16000000
set_option maxRecDepth 8000
set_option linter.unusedSimpArgs false
theorem tx_own_le {w : World} {base b e size n : Nat} {v : Value} {xs : List Value} (h : w.ownsRow base e size v n xs) (hb : b ≤ base) : w.ownsRow b e size v n xs := by
  refine ⟨h.1, ?_⟩
  rcases h.2 with h0 | ⟨g, cap, cur, rfl, h1, hr⟩
  · exact .inl h0
  · exact .inr ⟨g, cap, cur, rfl, Nat.le_trans hb h1, hr⟩
/-- a list of texts in a row of the call's own -/
def OW (w : World) (base : Nat) (v : Value) (l : List ByteArray) : Prop := w.ownsRow base 9 1 v l.length (l.map Value.string)
theorem OW.nil (w : World) (base : Nat) : OW w base (.slice none 0 0) [] := World.ownsRow_nil w base _ _
theorem OW.one (w : World) (base : Nat) (X : ByteArray) (hb : base ≤ w.heap.size) : OW (w.alloc (.cells #[.string X] 9)) base (.slice (some ⟨w.heap.size, 0, none⟩) 1 1) [X] := World.ownsRow_lit w #[.string X] 1 hb (by unfold maxLen; simp) rfl
theorem OW.below {w w' : World} {base : Nat} {v : Value} {l : List ByteArray} (h : OW w base v l) (hb : Below w.heap.size w w') : OW w' base v l := own_keep h (fun x hx => hb.block x (own_base h x hx).2)
theorem OW.le {w : World} {b base : Nat} {v : Value} {l : List ByteArray} (h : OW w base v l) (hb : b ≤ base) : OW w b v l := tx_own_le h hb
/-- a list that grows, and lists that wait to be appended -/
def SX (base : Nat) (W1 w : World) (out : Value) (ts : List ByteArray) (pend : List (Value × List ByteArray)) : Prop :=
  OW w base out ts ∧ (∀ p ∈ pend, OW w base p.1 p.2 ∧ ∀ q, p.1.ownBlock = some q → out.ownBlock ≠ some q) ∧ Below base W1 w ∧ base ≤ w.heap.size
theorem SX.start {base : Nat} {W1 w : World} {out : Value} {ts : List ByteArray} (h : OW w base out ts) (hb : Below base W1 w) (hz : base ≤ w.heap.size) : SX base W1 w out ts [] := ⟨h, fun p hp => (by cases hp), hb, hz⟩
theorem SX.call {base : Nat} {W1 w w' : World} {out v : Value} {ts l : List ByteArray} {pend : List (Value × List ByteArray)} (h : SX base W1 w out ts pend) (hb : Below w.heap.size w w') (hv : OW w' w.heap.size v l) : SX base W1 w' out ts ((v, l) :: pend) := by
  obtain ⟨h1, h2, h3, h4⟩ := h
  refine ⟨h1.below hb, fun p hp => ?_, h3.trans (hb.mono h4), Nat.le_trans h4 hb.size⟩
  rcases List.mem_cons.1 hp with rfl | hp
  · exact ⟨hv.le h4, fun q hq e => by
      have := (own_base hv q hq).1
      have := (own_base h1 q e).2
      omega⟩
  · exact ⟨(h2 p hp).1.below hb, (h2 p hp).2⟩
theorem SX.below {base : Nat} {W1 w w' : World} {out : Value} {ts : List ByteArray} {pend : List (Value × List ByteArray)} (h : SX base W1 w out ts pend) (hb : Below w.heap.size w w') : SX base W1 w' out ts pend :=
  ⟨h.1.below hb, fun p hp => ⟨(h.2.1 p hp).1.below hb, (h.2.1 p hp).2⟩, h.2.2.1.trans (hb.mono h.2.2.2), Nat.le_trans h.2.2.2 hb.size⟩
theorem SX.app {base : Nat} {W1 w w' : World} {out out' : Value} {ts ts' : List ByteArray} {pend : List (Value × List ByteArray)} (h : SX base W1 w out ts pend) (ho : OW w' base out' ts') (hg : w.grownBy w' out.ownBlock) (hat : out'.ownBlock = out.ownBlock ∨ out'.ownBlock = some w.heap.size) : SX base W1 w' out' ts' pend := by
  obtain ⟨h1, h2, h3, h4⟩ := h
  refine ⟨ho, fun p hp => ?_, h3.grown hg h4 (fun q hq => (own_base h1 q hq).1), Nat.le_trans h4 hg.size⟩
  obtain ⟨k1, k2⟩ := h2 p hp
  refine ⟨own_keep k1 (fun q hq => hg.block q (own_base k1 q hq).2 (fun e => k2 q hq e.symm)), fun q hq e => ?_⟩
  rcases hat with h5 | h5
  · exact k2 q hq (h5 ▸ e)
  · rw [h5] at e
    have := (own_base k1 q hq).2
    have := Option.some.inj e
    omega
theorem SX.done {base : Nat} {W1 w : World} {out : Value} {ts : List ByteArray} {pend : List (Value × List ByteArray)} (h : SX base W1 w out ts pend) : SX base W1 w out ts [] := ⟨h.1, fun p hp => (by cases hp), h.2.2⟩
theorem SX.first {base : Nat} {W1 w w' : World} {v : Value} {l : List ByteArray} (hb : Below w.heap.size w w') (hv : OW w' w.heap.size v l) (h : Below base W1 w) (hz : base ≤ w.heap.size) : SX base W1 w' v l [] := ⟨hv.le hz, fun p hp => (by cases hp), h.trans (hb.mono hz), Nat.le_trans hz hb.size⟩
theorem SX.lit1 {base : Nat} {W1 w : World} {out : Value} {ts : List ByteArray} (h : SX base W1 w out ts []) (X : ByteArray) : SX base W1 (w.alloc (.cells #[.string X] 9)) out ts [(.slice (some ⟨w.heap.size, 0, none⟩) 1 1, [X])] := h.call ((Below.refl _ _).alloc (Nat.le_refl _) _) (OW.one w _ X (Nat.le_refl _))
theorem SX.lit {base : Nat} {W1 w : World} {out : Value} {ts : List ByteArray} (h : SX base W1 w out ts []) (o : Obj) (X : ByteArray) : SX base W1 ((w.alloc o).alloc (.cells #[.string X] 9)) out ts [(.slice (some ⟨w.heap.size + 1, 0, none⟩) 1 1, [X])] := by
  have := (h.below ((Below.refl _ _).alloc (Nat.le_refl _) o)).lit1 X
  rwa [show (w.alloc o).heap.size = w.heap.size + 1 by simp] at this
/-- blocks made beside the list that grows lie as they lay -/
def KP (lo : Nat) (Wk w : World) (out : Value) : Prop := Wk.heap.size ≤ w.heap.size ∧ ∀ b, lo ≤ b → b < Wk.heap.size → w.heap[b]? = Wk.heap[b]? ∧ out.ownBlock ≠ some b
theorem KP.below {lo : Nat} {Wk w w' : World} {out : Value} (h : KP lo Wk w out) (hb : Below w.heap.size w w') : KP lo Wk w' out := ⟨Nat.le_trans h.1 hb.size, fun b h1 h2 => ⟨(hb.block b (Nat.lt_of_lt_of_le h2 h.1)).trans (h.2 b h1 h2).1, (h.2 b h1 h2).2⟩⟩
theorem KP.app {lo : Nat} {Wk w w' : World} {out out' : Value} (h : KP lo Wk w out) (hg : w.grownBy w' out.ownBlock) (hat : out'.ownBlock = out.ownBlock ∨ out'.ownBlock = some w.heap.size) : KP lo Wk w' out' := ⟨Nat.le_trans h.1 hg.size, fun b h1 h2 => by
  obtain ⟨k1, k2⟩ := h.2 b h1 h2
  refine ⟨(hg.block b (Nat.lt_of_lt_of_le h2 h.1) (fun e => k2 e.symm)).trans k1, fun e => ?_⟩
  rcases hat with h5 | h5
  · exact k2 (h5 ▸ e)
  · rw [h5] at e
    have := Option.some.inj e
    have := h.1
    omega⟩
theorem KP.cell {lo : Nat} {Wk w : World} {out : Value} (h : KP lo Wk w out) {b i : Nat} (h1 : lo ≤ b) (h2 : b < Wk.heap.size) : w.cell? ⟨b, i, none⟩ = Wk.cell? ⟨b, i, none⟩ := World.cell?_of_block (a := ⟨b, i, none⟩) (h.2 b h1 h2).1
theorem str_i : Tryz.prog.info? 9 = some ((Tryz.prog.info? 9).getD default) := by kernel_rfl
theorem str_i0 : ((Tryz.prog.info? 9).getD default).zero = some (.string ⟨#[]⟩) := by kernel_rfl
theorem str_i1 : ((Tryz.prog.info? 9).getD default).size = 1 := by kernel_rfl
theorem str_i2 : ((Tryz.prog.info? 9).getD default).bytes = 16 := by kernel_rfl
theorem str_one (l : List ByteArray) : ∀ u ∈ l.map Value.string, u.oneCell' = true := fun u hu => by
  obtain ⟨x, -, rfl⟩ := List.mem_map.1 hu
  rfl
/-- an append to the list that grows, as a step of a region that draws -/
theorem step_appT {ops : Array Oper} {o : Oper} {a : Act} {K : Act → World → Prop} {Q : Exit → Act → World → Prop} {E : Prop} {base : Nat} {W1 w : World} {out sv : Value} {ts l : List ByteArray} {pend : List (Value × List ByteArray)} (hgd : o.guard = none) (s x : Operand)
    (ho : o.op = .call { callee := .builtin .append, args := #[s, x], argTypes := #[33, 33] }) (hS : SX base W1 w out ts pend) (hp : (sv, l) ∈ pend) (hs : a.eval s = out) (hx : a.eval x = sv) (hn : ts.length + l.length ≤ 1000)
    (h : ∀ a' n' c' w', SX base W1 w' (.slice a' n' c') (ts ++ l) pend → w.grownBy w' out.ownBlock → ((Value.slice a' n' c').ownBlock = out.ownBlock ∨ (Value.slice a' n' c').ownBlock = some w.heap.size) → K (a.put o.dst (.slice a' n' c')) w') :
    if Region.wanted o (yielded ops a.tmps) = true then Oper.wp Tryz.prog o a w K Q else E := by
  refine step_appX w hgd s x 33 9 _ _ 1 16 ho Tryz.underlying33 str_i str_i0 str_i1 str_i2 rfl (by decide) base out sv ts.length l.length (ts.map Value.string) (l.map Value.string) hs hS.1 hx (own_cells (hS.2.1 _ hp).1) (str_one l) (by unfold maxLen; omega) (by omega) hS.2.2.2 fun a' c' w' h1 h2 h3 => ?_
  have e : (ts ++ l).length = ts.length + l.length := List.length_append
  rw [← e] at h1 h3 ⊢
  exact h a' _ c' w' (hS.app (by unfold OW; rw [List.map_append]; exact h1) h2 h3) h2 h3
theorem wp_appT {ops : Array Oper} {rest : List Oper} {o : Oper} {a : Act} {Q : Exit → Act → World → Prop} {base : Nat} {W1 w : World} {out sv : Value} {ts l : List ByteArray} {pend : List (Value × List ByteArray)} (hgd : o.guard = none) (s x : Operand)
    (ho : o.op = .call { callee := .builtin .append, args := #[s, x], argTypes := #[33, 33] }) (hS : SX base W1 w out ts pend) (hp : (sv, l) ∈ pend) (hs : a.eval s = out) (hx : a.eval x = sv) (hn : ts.length + l.length ≤ 1000)
    (h : ∀ a' n' c' w', SX base W1 w' (.slice a' n' c') (ts ++ l) pend → w.grownBy w' out.ownBlock → ((Value.slice a' n' c').ownBlock = out.ownBlock ∨ (Value.slice a' n' c').ownBlock = some w.heap.size) → wpList Tryz.prog ops Q rest (a.put o.dst (.slice a' n' c')) w') :
    wpList Tryz.prog ops Q (o :: rest) a w := by
  refine wp_appX w hgd s x 33 9 _ _ 1 16 ho Tryz.underlying33 str_i str_i0 str_i1 str_i2 rfl (by decide) base out sv ts.length l.length (ts.map Value.string) (l.map Value.string) hs hS.1 hx (own_cells (hS.2.1 _ hp).1) (str_one l) (by unfold maxLen; omega) (by omega) hS.2.2.2 fun a' c' w' h1 h2 h3 => ?_
  have e : (ts ++ l).length = ts.length + l.length := List.length_append
  rw [← e] at h1 h3 ⊢
  exact h a' _ c' w' (hS.app (by unfold OW; rw [List.map_append]; exact h1) h2 h3) h2 h3
/-- .. the bound of the lengths read off the lists' form -/
theorem step_appL {ops : Array Oper} {o : Oper} {a : Act} {K : Act → World → Prop} {Q : Exit → Act → World → Prop} {E : Prop} {base : Nat} {W1 w : World} {out sv : Value} {ts l : List ByteArray} {pend : List (Value × List ByteArray)} {k m : Nat} [LenLe ts k] [LenLe l m] (hgd : o.guard = none) (s x : Operand)
    (ho : o.op = .call { callee := .builtin .append, args := #[s, x], argTypes := #[33, 33] }) (hS : SX base W1 w out ts pend) (hp : (sv, l) ∈ pend) (hs : a.eval s = out) (hx : a.eval x = sv)
    (h : ∀ a' n' c' w', SX base W1 w' (.slice a' n' c') (ts ++ l) pend → w.grownBy w' out.ownBlock → ((Value.slice a' n' c').ownBlock = out.ownBlock ∨ (Value.slice a' n' c').ownBlock = some w.heap.size) → K (a.put o.dst (.slice a' n' c')) w') (hkm : k + m ≤ 1000 := by decide) :
    if Region.wanted o (yielded ops a.tmps) = true then Oper.wp Tryz.prog o a w K Q else E :=
  step_appT hgd s x ho hS hp hs hx (Nat.le_trans (Nat.add_le_add LenLe.h LenLe.h) hkm) h
theorem wp_appL {ops : Array Oper} {rest : List Oper} {o : Oper} {a : Act} {Q : Exit → Act → World → Prop} {base : Nat} {W1 w : World} {out sv : Value} {ts l : List ByteArray} {pend : List (Value × List ByteArray)} {k m : Nat} [LenLe ts k] [LenLe l m] (hgd : o.guard = none) (s x : Operand)
    (ho : o.op = .call { callee := .builtin .append, args := #[s, x], argTypes := #[33, 33] }) (hS : SX base W1 w out ts pend) (hp : (sv, l) ∈ pend) (hs : a.eval s = out) (hx : a.eval x = sv)
    (h : ∀ a' n' c' w', SX base W1 w' (.slice a' n' c') (ts ++ l) pend → w.grownBy w' out.ownBlock → ((Value.slice a' n' c').ownBlock = out.ownBlock ∨ (Value.slice a' n' c').ownBlock = some w.heap.size) → wpList Tryz.prog ops Q rest (a.put o.dst (.slice a' n' c')) w') (hkm : k + m ≤ 1000 := by decide) :
    wpList Tryz.prog ops Q (o :: rest) a w :=
  wp_appT hgd s x ho hS hp hs hx (Nat.le_trans (Nat.add_le_add LenLe.h LenLe.h) hkm) h
theorem rdecimal (n : Int) (w : World) (h0 : 1 ≤ n) (h1 : n ≤ 1099511627776) :
    Calls Tryz.prog 155 #[.int .i64 n] w fun r w' => r = .returned (.string ⟨(Lib.itoa n).toArray⟩) ∧ Below w.heap.size w w' := by
  obtain ⟨J, j1, j2⟩ := dec_size n.toNat (by omega)
  have hJ := dec_le j1 (by omega)
  have e := itoa_ld J n.toNat j1 j2
  rw [Int.toNat_of_nonneg (by omega)] at e
  have h := digits_any n.toNat (J + 1) 1 w j2 (by omega) (Or.inr (by simpa using j1)) (by omega)
  rw [Int.toNat_of_nonneg (by omega), ← e] at h
  have H := Lib.hid h
  clear h e
  go_enter Tryz.func155, Tryz.ntmps155
  go_wp2_with (go_at_call 220; (with_reducible refine H.out.mono ?_); rintro _ w1 ⟨rfl, hb⟩)
  go_ret
  exact ⟨rfl, hb⟩
theorem itoa_pos (n : Int) (h0 : 1 ≤ n) (h1 : n ≤ 1099511627776) : 1 ≤ (Lib.itoa n).length ∧ (Lib.itoa n).length ≤ 13 := by
  obtain ⟨J, j1, j2⟩ := dec_size n.toNat (by omega)
  have hJ := dec_le j1 (by omega)
  have e := itoa_ld J n.toNat j1 j2
  rw [Int.toNat_of_nonneg (by omega)] at e
  rw [e, Cal.ld_length]; omega
theorem ln_of (word val : ByteArray) (h : 1 ≤ val.size) : ln word val = [((⟨#[32, 32]⟩ : ByteArray) ++ word ++ ⟨#[32]⟩) ++ val] := by
  unfold ln
  rw [if_neg (by omega)]
  rfl
theorem rline (word : ByteArray) (n : Int) (w : World) (hw : word.size ≤ 100) (h0 : 0 ≤ n) (h1 : n ≤ 1099511627776) :
    Calls Tryz.prog 74 #[.string word, .int .i64 n] w fun r w' => ∃ a m c, r = .returned (.slice a m c) ∧ OW w' w.heap.size (.slice a m c) (ln word (nmB n)) ∧ Below w.heap.size w w' := by
  unfold nmB
  by_cases e : n = 0
  · have t : (n == 0) = true := by rw [e]; rfl
    rw [if_pos e, show ln word ⟨#[]⟩ = [] from rfl]
    clear e
    go_enter Tryz.func74, Tryz.ntmps74
    go_wp2_with fail
    go_ret
    exact ⟨none, 0, 0, rfl, OW.nil w _, Below.refl _ _⟩
  · have t : (n == 0) = false := by rw [beq_eq_false_iff_ne]; exact e
    have hp := itoa_pos n (by omega) h1
    rw [if_neg e, ln_of _ _ (by show 1 ≤ (Lib.itoa n).toArray.size; rw [List.size_toArray]; exact hp.1)]
    have HD := Lib.hid (rdecimal n w (by omega) h1)
    have l0 : (⟨(Lib.itoa n).toArray⟩ : ByteArray).size ≤ 13 := by show (Lib.itoa n).toArray.size ≤ 13; rw [List.size_toArray]; exact hp.2
    generalize (⟨(Lib.itoa n).toArray⟩ : ByteArray) = d at HD l0 ⊢
    have l1 : ¬ 9223372036854775807 < 2 + word.size := by omega
    have l2 : ¬ 9223372036854775807 < 2 + word.size + 1 := by omega
    have l3 : ¬ 9223372036854775807 < 2 + word.size + 1 + d.size := by omega
    clear e hp
    go_enter Tryz.func74, Tryz.ntmps74
    go_wp2_with (go_at_call 155; (with_reducible refine HD.out.mono ?_); rintro _ w1 ⟨rfl, hb⟩)
    go_ret
    exact ⟨_, 1, 1, rfl, OW.one w1 _ _ hb.size, hb.alloc hb.size _⟩
theorem rdateL (word : ByteArray) (n : Int) (w : World) (hw : word.size ≤ 100) (hd : Cal.isDay n = true) :
    Calls Tryz.prog 154 #[.string word, .int .i64 n] w fun r w' => ∃ a m c, r = .returned (.slice a m c) ∧ OW w' w.heap.size (.slice a m c) (ln word (dtB n)) ∧ Below w.heap.size w w' := by
  unfold dtB
  by_cases e : n = 0
  · have t : (n == 0) = true := by rw [e]; rfl
    rw [if_pos e, show ln word ⟨#[]⟩ = [] from rfl]
    clear e hd
    go_enter Tryz.func154, Tryz.ntmps154
    go_wp2_with fail
    go_ret
    exact ⟨none, 0, 0, rfl, OW.nil w _, Below.refl _ _⟩
  · have t : (n == 0) = false := by rw [beq_eq_false_iff_ne]; exact e
    have hp : (Cal.fmt n).length = 10 := by rw [Cal.fmt_yes n hd]; simp [Cal.ld_length]
    rw [if_neg e, ln_of _ _ (by show 1 ≤ (Cal.fmt n).toArray.size; rw [List.size_toArray, hp]; decide)]
    have HD := Lib.hid (refformat_any n w)
    have l0 : (⟨(Cal.fmt n).toArray⟩ : ByteArray).size ≤ 13 := by show (Cal.fmt n).toArray.size ≤ 13; rw [List.size_toArray, hp]; decide
    generalize (⟨(Cal.fmt n).toArray⟩ : ByteArray) = d at HD l0 ⊢
    have l1 : ¬ 9223372036854775807 < 2 + word.size := by omega
    have l2 : ¬ 9223372036854775807 < 2 + word.size + 1 := by omega
    have l3 : ¬ 9223372036854775807 < 2 + word.size + 1 + d.size := by omega
    clear e hp hd
    go_enter Tryz.func154, Tryz.ntmps154
    go_wp2_with (go_at_call 219; (with_reducible refine HD.out.mono ?_); rintro _ w1 ⟨rfl, hb⟩)
    go_ret
    exact ⟨_, 1, 1, rfl, OW.one w1 _ _ hb.size, hb.alloc hb.size _⟩
theorem rsayL (word val : ByteArray) (w : World) (hw : word.size ≤ 100) (hv : val.size ≤ 1000) :
    Calls Tryz.prog 76 #[.string word, .string val] w fun r w' => ∃ a m c, r = .returned (.slice a m c) ∧ OW w' w.heap.size (.slice a m c) (ln word val) ∧ Below w.heap.size w w' := by
  by_cases e : val.size = 0
  · have t : val.toList.isEmpty = true := isEmpty_nil _ e
    rw [show ln word val = [] by unfold ln; rw [if_pos e]]
    clear e
    go_enter Tryz.func76, Tryz.ntmps76
    go_wp2_with fail
    go_ret
    exact ⟨none, 0, 0, rfl, OW.nil w _, Below.refl _ _⟩
  · have t : val.toList.isEmpty = false := isEmpty_of _ (by omega)
    rw [ln_of _ _ (by omega)]
    have l1 : ¬ 9223372036854775807 < 2 + word.size := by omega
    have l2 : ¬ 9223372036854775807 < 2 + word.size + 1 := by omega
    have l3 : ¬ 9223372036854775807 < 2 + word.size + 1 + val.size := by omega
    clear e
    go_enter Tryz.func76, Tryz.ntmps76
    go_wp2_with fail
    go_ret
    exact ⟨_, 1, 1, rfl, OW.one w _ _ (Nat.le_refl _), by exact belA⟩
theorem yes_eq (word : ByteArray) : (((⟨#[32, 32]⟩ : ByteArray) ++ word) ++ ⟨#[32, 121, 101, 115]⟩) = ((⟨#[32, 32]⟩ : ByteArray) ++ word ++ ⟨#[32]⟩) ++ ⟨#[121, 101, 115]⟩ := by
  apply Ds.bl_inj
  unfold Ds.bl
  simp
theorem rflagL (word : ByteArray) (x : Bool) (w : World) (hw : word.size ≤ 100) :
    Calls Tryz.prog 75 #[.string word, .bool x] w fun r w' => ∃ a m c, r = .returned (.slice a m c) ∧ OW w' w.heap.size (.slice a m c) (ln word (ysB x)) ∧ Below w.heap.size w w' := by
  cases x
  · rw [show ln word (ysB false) = [] from rfl]
    go_enter Tryz.func75, Tryz.ntmps75
    go_wp2_with fail
    go_ret
    exact ⟨none, 0, 0, rfl, OW.nil w _, Below.refl _ _⟩
  · rw [show ysB true = ⟨#[121, 101, 115]⟩ from rfl, ln_of _ _ (by decide), ← yes_eq]
    have l1 : ¬ 9223372036854775807 < 2 + word.size := by omega
    have l2 : ¬ 9223372036854775807 < 2 + word.size + 4 := by omega
    go_enter Tryz.func75, Tryz.ntmps75
    go_wp2_with fail
    go_ret
    exact ⟨_, 1, 1, rfl, OW.one w _ _ (Nat.le_refl _), by exact belA⟩
theorem rlevL (n : Int) (w : World) (h0 : 0 ≤ n) (h3 : n ≤ 3) :
    Calls Tryz.prog 77 #[.int .i64 n] w fun r w' => r = .returned (.string (atW levW n)) ∧ Below w.heap.size w w' := by
  rcases (by omega : n = 0 ∨ n = 1 ∨ n = 2 ∨ n = 3) with rfl | rfl | rfl | rfl
  all_goals
    go_enter Tryz.func77, Tryz.ntmps77
    go_wp2_with fail
    go_ret
    exact ⟨rfl, by exact belA⟩
end Go.Proofs.YtdfdjfnfmibpjaaGreatDoor
