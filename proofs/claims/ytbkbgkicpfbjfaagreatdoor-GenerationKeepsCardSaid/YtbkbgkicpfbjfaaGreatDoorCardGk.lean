/- Several texts in one: KeA LaGk CardGk. -/
import Derived.Test.YtbkbgkicpfbjfaaGreatDoorRsG
import Derived.Maps.OwnSet
import Derived.Maps.Views
import Derived.Maps.OwnOps
import Derived.Test.YtbkbgkicpfbjfaaGreatDoorGeU
import Derived.Deep.QuietTactic
import Derived.BigQuiet
import Derived.Test.YtbkbgkicpfbjfaaGreatDoorFrameEn
section
/- What several new generations leave, in plain words; a map from numbers to truth values of the call's own. -/
namespace Go.Proofs.YtbkbgkicpfbjfaaGreatDoor
open Go.RowKit
namespace Ge
theorem foldG_bad (lim : Int) (em : Bool) : ∀ (l : List Int) (m : Int) (now gone : List Int), (foldG lim em l m now gone).1 ≠ 0 → foldG lim em l m now gone = ((foldG lim em l m now gone).1, 0, [], [])
  | [], m, now, gone, h => absurd rfl h
  | n :: r, m, now, gone, h => by
    unfold foldG at h ⊢
    by_cases h1 : n < 1 ∨ 9999 < n
    · rw [if_pos h1]
    · rw [if_neg h1] at h ⊢
      by_cases h2 : n ≤ m
      · rw [if_pos h2]
      · rw [if_neg h2] at h ⊢
        exact foldG_bad lim em r _ _ _ h
theorem foldG_mem (lim : Int) (em : Bool) : ∀ (l : List Int) (m : Int) (now gone : List Int), ∀ x ∈ (foldG lim em l m now gone).2.2.1, x ∈ now ∨ x ∈ l
  | [], m, now, gone, x, h => .inl h
  | n :: r, m, now, gone, x, h => by
    unfold foldG at h
    split at h
    · cases h
    · split at h
      · cases h
      · rcases foldG_mem lim em r _ _ _ x h with h1 | h1
        · unfold stays at h1
          have := List.mem_of_mem_drop h1
          rcases List.mem_append.1 this with h2 | h2
          · exact .inl h2
          · obtain rfl : x = n := by simpa using h2
            exact .inr (by simp)
        · exact .inr (by simp [h1])
theorem foldG_rng (lim : Int) (em : Bool) : ∀ (l : List Int) (m : Int) (now gone : List Int), (foldG lim em l m now gone).1 = 0 → ∀ x ∈ l, 1 ≤ x ∧ x ≤ 9999
  | [], m, now, gone, h, x, hx => by cases hx
  | n :: r, m, now, gone, h, x, hx => by
    unfold foldG at h
    by_cases h1 : n < 1 ∨ 9999 < n
    · rw [if_pos h1] at h; cases h
    · rw [if_neg h1] at h
      by_cases h2 : n ≤ m
      · rw [if_pos h2] at h; cases h
      · rw [if_neg h2] at h
        rcases List.mem_cons.1 hx with rfl | h3
        · omega
        · exact foldG_rng lim em r _ _ _ h x h3
theorem stays_len (lim : Int) (em : Bool) (now : List Int) (n : Int) (hl : 1 ≤ lim) : ((stays lim em now n).length : Int) ≤ lim := by
  unfold stays cut
  simp only [List.length_drop, List.length_append, List.length_singleton]
  split
  · split <;> omega
  · omega
theorem foldG_last (lim : Int) (em : Bool) (hl : 1 ≤ lim) : ∀ (l : List Int) (m : Int) (now gone : List Int), (foldG lim em l m now gone).1 = 0 → l ≠ [] → (∃ pre, (foldG lim em l m now gone).2.2.1 = pre ++ [(foldG lim em l m now gone).2.1]) ∧ l.getLast? = some (foldG lim em l m now gone).2.1 ∧ ((foldG lim em l m now gone).2.2.1.length : Int) ≤ lim
  | [], m, now, gone, h, hn => absurd rfl hn
  | n :: r, m, now, gone, h, _ => by
    unfold foldG at h ⊢
    by_cases h1 : n < 1 ∨ 9999 < n
    · rw [if_pos h1] at h; cases h
    · rw [if_neg h1] at h ⊢
      by_cases h2 : n ≤ m
      · rw [if_pos h2] at h; cases h
      · rw [if_neg h2] at h ⊢
        rcases r with _ | ⟨y, r⟩
        · unfold foldG
          exact ⟨⟨_, (stays_eq lim em now n hl).1⟩, rfl, stays_len lim em now n hl⟩
        · obtain ⟨a, b, c⟩ := foldG_last lim em hl (y :: r) n _ _ h (by simp)
          exact ⟨a, by rw [List.getLast?_cons_cons]; exact b, c⟩
end Ge
theorem foldG_ok (e : En) (l2 : List Int) (g2 : List Gr) : ∀ (l : List Int) (m : Int) (now gone : List Int), okE ({ e with last := m } : En) l2 g2 now = true → (Ge.foldG e.lim e.em l m now gone).1 = 0 → okE ({ e with last := (Ge.foldG e.lim e.em l m now gone).2.1 } : En) l2 g2 (Ge.foldG e.lim e.em l m now gone).2.2.1 = true
  | [], m, now, gone, h, _ => h
  | n :: r, m, now, gone, h, h0 => by
    unfold Ge.foldG at h0 ⊢
    by_cases h1 : n < 1 ∨ 9999 < n
    · rw [if_pos h1] at h0; cases h0
    · rw [if_neg h1] at h0 ⊢
      by_cases h2 : n ≤ m
      · rw [if_pos h2] at h0; cases h0
      · rw [if_neg h2] at h0 ⊢
        exact foldG_ok e l2 g2 r n _ _ (ok_step e l2 g2 now m n h (by omega) (by omega)) h0
theorem fits_rng : ∀ (l : List Int) (b m : Int), Ge.inc b l m = true → ∀ x ∈ l, b < x ∧ x ≤ m
  | [], _, _, _, x, hx => by cases hx
  | n :: r, b, m, h, x, hx => by
    simp only [Ge.inc, Bool.and_eq_true, decide_eq_true_eq] at h
    rcases List.mem_cons.1 hx with rfl | h3
    · omega
    · have := fits_rng r n m h.2 x h3; omega
open Go.Maps
/-- block b is a map that holds true at the numbers of S alone (as far as they are of 64 bits) -/
def KB (w : World) (b n : Nat) (S : Int → Bool) : Prop := ∃ D : DataW Unit, w.ownsMap Tryz.prog 3 (plainElem Tryz.prog 4) b n D ∧ ∀ x, (Lit.int .i64 x).wf = true → D.atKey (.int .i64 x) (.lit (.bool false)) = .lit (.bool (S x))
theorem KB.made (w : World) : KB (w.alloc (.map #[] 0)) w.heap.size 0 (fun _ => false) :=
  ⟨.map [], World.ownsMap_made w _ _ _, fun _ _ => rfl⟩
theorem KB.kept {w w' : World} {b n : Nat} {S : Int → Bool} {row : Option Nat} (h : KB w b n S) (G : w.grownBy w' row) (hr : some b ≠ row) : KB w' b n S := by
  obtain ⟨D, h1, h2⟩ := h
  exact ⟨D, h1.kept G hr, h2⟩
theorem plainElem_bool_inv {e : TypeId} (he : Tryz.prog.underlying e = some .bool) {v : Value} {z : DataW Unit × List MemPlace} (h : plainElem Tryz.prog e v = some z) : ∃ x, v = .bool x ∧ z = (.lit (.bool x), []) := by
  unfold plainElem at h
  rw [he] at h
  cases v <;> simp at h
  exact ⟨_, rfl, h.symm⟩
theorem KB.look {w : World} {b n : Nat} {S : Int → Bool} (h : KB w b n S) (x : Int) (hx : (Lit.int .i64 x).wf = true) : (Instr.lookup 36 (.map (some b)) (.int .i64 x) false).run Tryz.prog w = .ok (.bool (S x)) w := by
  obtain ⟨D, h1, h2⟩ := h
  obtain ⟨v, ps, hrun, hv⟩ := h1.lookup (int_keyed Tryz.underlying3) Tryz.underlying36 (z := .bool false) (by kernel_rfl) (plainElem_bool Tryz.underlying4 false) (keyOf_int_mk Tryz.underlying3 hx)
  obtain ⟨y, rfl, hy⟩ := plainElem_bool_inv Tryz.underlying4 hv
  rw [h2 x hx] at hy
  have e : S x = y := Lit.bool.inj (DataW.lit.inj (congrArg Prod.fst hy))
  rw [e]; exact hrun
theorem wp_kb {ops : Array Oper} {rest : List Oper} {o : Oper} {a : Act} {Q : Exit → Act → World → Prop} (w : World) (hg : o.guard = none) (m x v : Operand) (hop : o.op = Op.mapUpdate 36 m x v) (b n : Nat) (S : Int → Bool) (k : Int)
    (hm : a.eval m = .map (some b)) (h : KB w b n S) (hn : n < maxLen) (hx : a.eval x = .int .i64 k) (hv : a.eval v = .bool true) (hk : (Lit.int .i64 k).wf = true)
    (hK : ∀ w', KB w' b (n + 1) (fun y => (y == k) || S y) → w.grownBy w' (some b) → wpList Tryz.prog ops Q rest (a.put o.dst undef) w') :
    wpList Tryz.prog ops Q (o :: rest) a w := by
  obtain ⟨D, h1, h2⟩ := h
  refine wpList_mapUpdate_own w hg m x v _ hop 3 4 (int_keyed Tryz.underlying3) Tryz.underlying36 (plainElem Tryz.prog 4) b n D hm h1 hn _ _ _ hx hv (keyOf_int_mk Tryz.underlying3 hk) _ _ (plainElem_bool Tryz.underlying4 true) ?_
  intro w' h3 h4
  refine hK w' ⟨_, h3, fun y hy => ?_⟩ h4
  show _ = DataW.lit (Lit.bool ((y == k) || S y))
  by_cases e : y = k
  · subst e
    rw [beq_self_eq_true, Bool.true_or]
    exact atKey_put_same h1.isMap (by simp [WideAt.IsKeyLit]) _ _
  · rw [show (y == k) = false by simpa using e, Bool.false_or, atKey_put_other (fun h => e (by injection h)), h2 y hy]
end Go.Proofs.YtbkbgkicpfbjfaaGreatDoor

end
section
/- The walk of the law GenerationKeeps. -/
namespace Go.Proofs.YtbkbgkicpfbjfaaGreatDoor
open Go.RowKit
set_option maxHeartbeats 1600000
set_option maxRecDepth 8000
namespace Ge
theorem foldG_len (lim : Int) (em : Bool) : ∀ (l : List Int) (m : Int) (now gone : List Int) (z : Nat), now.length ≤ z → (foldG lim em l m now gone).2.2.1.length ≤ z + l.length
  | [], m, now, gone, z, h => h
  | n :: r, m, now, gone, z, h => by
    unfold foldG
    split
    · simp
    · split
      · simp
      · have h1 : (stays lim em now n).length ≤ z + 1 := by
          unfold stays
          simp only [List.length_drop, List.length_append, List.length_singleton]
          omega
        have := foldG_len lim em r n (stays lim em now n) (gone ++ goes lim em now n) (z + 1) h1
        simp only [List.length_cons]
        omega
end Ge
theorem sameE_own (e : En) (l : List Int) (g : List Gr) : sameE e e l l g g = true := by
  unfold sameE datEq
  simp
theorem foldA_bad (e : En) (l2 ex l : List Int) (g2 : List Gr) (h : (foldA e l2 g2 ex l).1 ≠ 0) : foldA e l2 g2 ex l = ((foldA e l2 g2 ex l).1, 0, [], []) := by
  unfold foldA at h ⊢
  split
  · rename_i hok
    rw [if_pos hok] at h
    exact Ge.foldG_bad _ _ _ _ _ _ h
  · rfl
theorem KB.block {w w' : World} {b n : Nat} {S : Int → Bool} (h : KB w b n S) (k : w'.heap[b]? = w.heap[b]?) : KB w' b n S := by
  obtain ⟨D, ⟨es, cl, hb, r⟩, h2⟩ := h
  exact ⟨D, ⟨es, cl, k.trans hb, r⟩, h2⟩
theorem KB.congr {w : World} {b n m : Nat} {S S' : Int → Bool} (h : KB w b n S) (e : S = S') (hn : n ≤ m) : KB w b m S' := by
  subst e
  obtain ⟨D, h1, h2⟩ := h
  exact ⟨D, h1.mono hn, h2⟩
theorem contains_snoc (l : List Int) (k : Nat) (hk : k < l.length) : (fun y => (y == l[k]) || (l.take k).contains y) = fun y => (l.take (k + 1)).contains y := by
  funext y
  rw [List.take_succ_eq_append_getElem hk, List.contains_append, Bool.or_comm]
  congr 1
  rw [Bool.eq_iff_iff]
  simp
/-- what the loops keep -/
def GK (w wx wr : World) (v1 allv : Value) (vals X : Array Value) (now all : List Int) : Prop := row wr w.heap.size = vals ∧ row wr wx.heap.size = X ∧ IS wr v1 now ∧ IS wr allv all ∧ Below w.heap.size w wr ∧ wx.heap.size + 1 ≤ wr.heap.size
theorem GK.store {w wx wr w' : World} {g n c : Nat} {v1 : Value} {vals X : Array Value} {now all : List Int} (h : GK w wx wr v1 (.slice (some ⟨g, 0, none⟩) n c) vals X now all) (hw : w.heap.size ≤ wx.heap.size) (G : wr.grownBy w' (some (wx.heap.size + 1))) (hg : g ≠ wx.heap.size + 1) (hv : 0 < now.length → ∀ x, v1.ownBlock = some x → x < wx.heap.size + 1) : GK w wx w' v1 (.slice (some ⟨g, 0, none⟩) n c) vals X now all := by
  obtain ⟨a, b, i1, i2, B, z⟩ := h
  have kk : ∀ x, x < wx.heap.size + 1 → w'.heap[x]? = wr.heap[x]? := fun x hx => G.block x (by omega) (by intro e; have := Option.some.inj e; omega)
  refine ⟨?_, ?_, ?_, i2.grown G (by intro e; exact hg (Option.some.inj e)), B.grown G B.size (fun k hk => by cases hk; omega), Nat.le_trans z G.size⟩
  · unfold row at a ⊢; rw [kk _ (by omega)]; exact a
  · unfold row at b ⊢; rw [kk _ (by omega)]; exact b
  · obtain ⟨a', c', rfl, hz, hc⟩ := i1
    refine ⟨a', c', rfl, hz, fun h0 => ?_⟩
    obtain ⟨b', o', rfl, hb, p⟩ := hc h0
    exact ⟨b', o', rfl, Nat.lt_of_lt_of_le hb G.size, fun k hk => (World.cell?_of_block (a := ⟨b', o' + k, none⟩) (kk b' (hv h0 b' rfl))).trans (p k hk)⟩
attribute [local go_sem ↓] ldEnt stEnt
attribute [local go_sem] isHead_mk headOf_mk cellsOfV_mk isAggV_mk row_new row_new2 row_new2' row_drew row_drewN vals_size allOne_nil allOne_cons one_int one_bool one_string one_pointer one_slice vals_25 vals_26
theorem law_keeps_few (e : En) (a1 a2 a3 a4 : Option Addr) (n1 c1 n2 c2 n3 c3 n4 c4 : Nat) (w : World) (hm : MaxL w) (hf : (decide (e.name.size ≤ 60) && decide (n2 ≤ 12) && decide (n1 ≤ 8) && decide (n3 ≤ 80) && decide (n4 ≤ 20)) = false) :
    Calls Tryz.prog 4 #[.agg (e.vals (.slice a1 n1 c1) (.slice a2 n2 c2)), .slice a3 n3 c3, .slice a4 n4 c4] w fun r w' => r = .returned (.bool true) ∧ Below w.heap.size w w' := by
  go_enter Tryz.func4, Tryz.ntmps4
  go_wp2_with (first | (go_at_call 15; (with_reducible refine (aw38 _ (hm.below (by (repeat (first | exact Below.refl _ _ | assumption | (refine Below.drew ?_) | (refine Below.alloc ?_ (by first | (simp; done) | (simp; omega) | omega) _) | (refine Below.setCell ?_ (by first | (simp; done) | (simp; omega) | omega) _)))))).mono ?_); rintro _ w1 ⟨rfl, hb⟩; have R := row_below hb (row_new w _ _ _) (by simp [vals_size]); have B := below1 hb; clear hb) | (go_at_call 16; (with_reducible refine (few38 e _ _ _ _ _ _ _ _ _ _ _ _ _).mono ?_); rw [hf]; rintro _ w2 ⟨rfl, hb⟩; have B := bt B hb; clear hb))
  go_ret
  exact ⟨rfl, B⟩
theorem law_keeps_bad (e : En) (a1 a2 : Option Addr) (n1 c1 n2 c2 : Nat) (exv lv : Value) (l2 ex l : List Int) (g2 : List Gr) (w : World) (hm : MaxL w) (h1 : IS w (.slice a1 n1 c1) l2) (h2 : GS w (.slice a2 n2 c2) g2) (h3 : IS w exv ex) (h4 : IS w lv l)
    (hf : (decide (e.name.size ≤ 60) && decide (n2 ≤ 12) && decide (n1 ≤ 8) && decide (ex.length ≤ 80) && decide (l.length ≤ 20)) = true) (hbad : (foldA e l2 g2 ex l).1 ≠ 0) :
    Calls Tryz.prog 4 #[.agg (e.vals (.slice a1 n1 c1) (.slice a2 n2 c2)), exv, lv] w fun r w' => r = .returned (.bool true) ∧ Below w.heap.size w w' := by
  have hf' := hf
  simp only [Bool.and_eq_true, decide_eq_true_eq] at hf'
  obtain ⟨⟨⟨⟨hsz, -⟩, -⟩, hex⟩, hll⟩ := hf'
  obtain ⟨a3, c3, rfl, -⟩ := id h3
  obtain ⟨a4, c4, rfl, -⟩ := id h4
  have hr1 := fun W (b : Below w.heap.size w W) => ge_roll e (.slice a1 n1 c1) (.slice a2 n2 c2) _ _ l2 ex l g2 W (hm.below b) (h1.below b) (h2.below b) (h3.below b) (h4.below b) (by omega) (by omega)
  rw [foldA_bad e l2 ex l g2 hbad] at hr1
  generalize (foldA e l2 g2 ex l).1 = E at hr1 hbad
  have hX : rolled e (.slice a1 n1 c1) (.slice a2 n2 c2) (E, 0, [], []) = zcells 0 ⟨#[]⟩ := by unfold rolled; rw [if_neg hbad]
  rw [hX] at hr1
  simp only at hr1
  have hs := fun W => en_same ({ En.zero with kind := 0, name := ⟨#[]⟩ } : En) { En.zero with kind := 0, name := ⟨#[]⟩ } _ _ _ _ [] [] [] [] W (IS.nil W) (IS.nil W) (GS.nil W) (GS.nil W)
  rw [sameE_own] at hs
  have hs2 : ∀ W, Calls Tryz.prog 21 #[.agg (zcells 0 ⟨#[]⟩), .agg (zlit 0 ⟨#[]⟩)] W fun r w' => r = .returned (.bool true) ∧ Below W.heap.size W w' := fun W => by rw [zlit_eq]; exact hs W
  unfold zlit at hs2
  have hz1 : (zcells 0 ⟨#[]⟩).size = 33 := by rw [← zlit_eq]; rfl
  have hz2 : allOne (zcells 0 ⟨#[]⟩).toList = true := by rw [← zlit_eq]; rfl
  generalize zcells 0 ⟨#[]⟩ = X at hr1 hs2 hz1 hz2
  have q1 : (E != 0) = true := by simpa using hbad
  have H1 := Lib.hid hr1
  have HS := Lib.hid hs2
  clear hr1 hs hs2 hX hbad h1 h2 h3 h4 hex hll
  go_enter Tryz.func4, Tryz.ntmps4
  go_wp2_with (first
    | (go_at_call 15; (with_reducible refine (aw38 _ (hm.below (by (repeat (first | exact Below.refl _ _ | assumption | (refine Below.drew ?_) | (refine Below.alloc ?_ (by first | (simp; done) | (simp; omega) | omega) _) | (refine Below.setCell ?_ (by first | (simp; done) | (simp; omega) | omega) _)))))).mono ?_); rintro _ w1 ⟨rfl, hb⟩; have R := row_below hb (row_new w _ _ _) (by simp [vals_size]); have B := below1 hb; clear hb)
    | (go_at_call 16; (with_reducible refine (few38 e _ _ _ _ _ _ _ _ _ _ _ _ _).mono ?_); rw [hf]; rintro _ w2 ⟨rfl, hb⟩; have R := row_below hb R (by simp [vals_size]); have B := bt B hb; clear hb)
    | (go_at_call 17; (with_reducible refine (H1.out _ B).mono ?_); rintro _ w3 ⟨v1, rfl, ⟨j1, -⟩, hb⟩; obtain ⟨a9, c9, rfl, -⟩ := id j1; have B := bt B hb; have BA := B.alloc B.size (.cells X 27); clear hb)
    | (go_at_call 21; (with_reducible refine (HS.out _).mono ?_); rintro _ w5 ⟨rfl, hb⟩; have B := bt BA hb; clear hb))
  go_ret
  exact ⟨rfl, B⟩
theorem law_keeps_good (e : En) (a1 a2 : Option Addr) (n1 c1 n2 c2 : Nat) (exv lv : Value) (l2 ex l : List Int) (g2 : List Gr) (w : World) (hm : MaxL w) (h1 : IS w (.slice a1 n1 c1) l2) (h2 : GS w (.slice a2 n2 c2) g2) (h3 : IS w exv ex) (h4 : IS w lv l)
    (hf : (decide (e.name.size ≤ 60) && decide (n2 ≤ 12) && decide (n1 ≤ 8) && decide (ex.length ≤ 80) && decide (l.length ≤ 20)) = true) (last : Int) (now gone : List Int) (hF : foldA e l2 g2 ex l = (0, last, now, gone))
    (hoks : okE ({ e with last := last } : En) l2 g2 now = true) (hmem : ∀ x ∈ now, x ∈ ex ++ l) (hrng : ∀ x ∈ ex ++ l, 1 ≤ x ∧ x ≤ 9999) (hnz : now.length ≤ 1000) (hlast : l ≠ [] → (∃ pre, now = pre ++ [last]) ∧ l.getLast? = some last ∧ (now.length : Int) ≤ e.lim) :
    Calls Tryz.prog 4 #[.agg (e.vals (.slice a1 n1 c1) (.slice a2 n2 c2)), exv, lv] w fun r w' => r = .returned (.bool true) ∧ Below w.heap.size w w' := by
  have hf' := hf
  simp only [Bool.and_eq_true, decide_eq_true_eq] at hf'
  obtain ⟨⟨⟨⟨hsz, -⟩, -⟩, hex⟩, hll⟩ := hf'
  obtain ⟨a3, c3, rfl, -⟩ := id h3
  obtain ⟨a4, c4, rfl, -⟩ := id h4
  have hr1 := fun W (b : Below w.heap.size w W) => ge_roll e (.slice a1 n1 c1) (.slice a2 n2 c2) _ _ l2 ex l g2 W (hm.below b) (h1.below b) (h2.below b) (h3.below b) (h4.below b) (by omega) (by omega)
  rw [hF, rolled_good] at hr1
  simp only at hr1
  have hv := fun nv W (b : Below w.heap.size w W) (i : IS W nv now) => ge_valid ({ e with last := last } : En) (.slice a1 n1 c1) (.slice a2 n2 c2) nv l2 now g2 W (hm.below b) (h1.below b) (h2.below b) i
  rw [hoks] at hv
  have hs := fun W (b : Below w.heap.size w W) => en_same e e _ _ _ _ l2 l2 g2 g2 W (h1.below b) (h1.below b) (h2.below b) (h2.below b)
  rw [sameE_own] at hs
  have hx : (({ e with last := last } : En).vals (.slice a1 n1 c1) (.slice a2 n2 c2)).size = 33 := vals_size _ _ _
  have ho : allOne (({ e with last := last } : En).vals (.slice a1 n1 c1) (.slice a2 n2 c2)).toList = true := vals_one _ _ _ rfl rfl
  have v25 : (({ e with last := last } : En).vals (.slice a1 n1 c1) (.slice a2 n2 c2))[25]? = some (.int .i64 e.lim) := vals_25 _ _ _
  have v26 : (({ e with last := last } : En).vals (.slice a1 n1 c1) (.slice a2 n2 c2))[26]? = some (.int .i64 last) := vals_26 _ _ _
  have hback : (({ e with last := last } : En).vals (.slice a1 n1 c1) (.slice a2 n2 c2)).setIfInBounds 26 (.int .i64 e.last) = e.vals (.slice a1 n1 c1) (.slice a2 n2 c2) := by rw [set_26]
  generalize ({ e with last := last } : En).vals (.slice a1 n1 c1) (.slice a2 n2 c2) = X at hr1 hv hx ho v25 v26 hback
  have H1 := Lib.hid hr1
  have HV := Lib.hid hv
  have HS := Lib.hid hs
  have HBk := Lib.hid hback
  have HM := Lib.hid hmem
  have HR := Lib.hid hrng
  have HLa := Lib.hid hlast
  have H3 := Lib.hid (fun W (b : Below w.heap.size w W) => h3.below b)
  have H4 := Lib.hid (fun W (b : Below w.heap.size w W) => h4.below b)
  have hmm := @run_makeMap Tryz.prog
  clear hr1 hv hs hF hoks hmem hrng hlast hback h1 h2 h3 h4
  go_enter Tryz.func4, Tryz.ntmps4
  go_wp2_with (first
    | (go_at_call 15; (with_reducible refine (aw38 _ (hm.below (by (repeat (first | exact Below.refl _ _ | assumption | (refine Below.drew ?_) | (refine Below.alloc ?_ (by first | (simp; done) | (simp; omega) | omega) _) | (refine Below.setCell ?_ (by first | (simp; done) | (simp; omega) | omega) _)))))).mono ?_); rintro _ w1 ⟨rfl, hb⟩; have R := row_below hb (row_new w _ _ _) (by simp [vals_size]); have B := below1 hb; clear hb)
    | (go_at_call 16; (with_reducible refine (few38 e _ _ _ _ _ _ _ _ _ _ _ _ _).mono ?_); rw [hf]; rintro _ w2 ⟨rfl, hb⟩; have R := row_below hb R (by simp [vals_size]); have B := bt B hb; clear hb)
    | (go_at_call 17; (with_reducible refine (H1.out _ B).mono ?_); rintro _ w3 ⟨v1, rfl, ⟨j1, -⟩, hb⟩; obtain ⟨a9, c9, rfl, -⟩ := id j1; have R := row_below hb R (by simp [vals_size]); have R5 := row_keep R (by simp [vals_size]) (Below.refl _ _) (.cells X 27); have B := bt B hb; have BA := B.alloc B.size (.cells X 27); clear hb)
    | (at_builtin; refine wp_appS _ rfl (.tmp 42) (.tmp 43) rfl (w3.heap.size + 1 + 1) (w3.heap.size + 1 + 1) 0 _ [] ex rfl (owns_empty (by simp)) rfl (H3.out _ ((BA.alloc BA.size _).alloc (by have := BA.size; simp at this ⊢; omega) _)) (by simp; omega) (by simp) ?_; simp only [List.nil_append]; intro gA cA w5 hown5 b5; have s5 := b5.size; simp at s5)
    | (at_builtin; refine wp_appS _ rfl (.tmp 44) (.tmp 45) rfl (w3.heap.size + 1 + 1) gA cA _ ex l rfl hown5 rfl (H4.out _ (((BA.alloc BA.size _).alloc (by have := BA.size; simp at this ⊢; omega) _).trans (b5.mono (by have := B.size; omega)))) (by omega) (by omega) ?_; intro gB cB w6 hown6 b6))
  have gB2 := ((NW.owns hown6).2.2 gB rfl).1
  have bx := (below1' b5 (by simp)).trans b6
  have kk6 : ∀ x, x < w3.heap.size + 1 → w6.heap[x]? = (w3.alloc (.cells X 27)).heap[x]? := fun x hx => (bx.block x (by omega)).trans (heap_alloc_old _ _ (by simp; omega))
  have hsz3 := B.size
  have K0 : KB w6 (w3.heap.size + 1) 0 (fun y => ((ex ++ l).take 0).contains y) := by
    have k1 := KB.made (w3.alloc (.cells X 27))
    rw [show (w3.alloc (.cells X 27)).heap.size = w3.heap.size + 1 by simp] at k1
    exact (k1.block (bx.block _ (by omega))).congr (by funext y; simp) (Nat.le_refl _)
  have hz6 : w3.heap.size + 1 + 1 ≤ w6.heap.size := by have := bx.size; simpa using this
  have G0 : GK w w3 w6 (.slice a9 now.length c9) (.slice (some ⟨gB, 0, none⟩) (ex ++ l).length cB) (e.vals (.slice a1 n1 c1) (.slice a2 n2 c2)) X now (ex ++ l) := by
    refine ⟨?_, ?_, ?_, owns_is hown6 (by simp; omega), ((BA.alloc BA.size _).trans (bx.mono (by omega))), by omega⟩
    · have := R5; unfold row at this ⊢; rw [kk6 _ (by omega)]; exact this
    · have := row_new w3 X 27 (0, 0); unfold row at this ⊢; rw [kk6 _ (by omega)]; exact this
    · have j2 := j1.below ((Below.refl _ _).alloc (Nat.le_refl _) (.cells X 27))
      exact j2.below ((Below.refl _ _).trans ⟨bx.os, bx.tape, bx.output, by simp; omega, fun x hx => kk6 x (by simpa using hx)⟩)
  have hv1 : 0 < now.length → ∀ x, (Value.slice a9 now.length c9).ownBlock = some x → x < w3.heap.size + 1 := fun h0 x hx => by
    obtain ⟨a', c', e', -, hc⟩ := j1
    injection e' with e1
    obtain ⟨b', o', e2, hb, -⟩ := hc h0
    rw [e1, e2] at hx
    injection hx with hx
    simp only at hx
    omega
  have HK0 := Lib.hid K0
  have HV1 := Lib.hid hv1
  rw [List.length_append] at G0
  have HG0 := Lib.hid G0
  clear K0 G0 hv1 kk6 bx b5 b6 hown5 hown6 R R5 j1
  have hlq : (ex ++ l).length = ex.length + l.length := List.length_append
  generalize ex ++ l = all at HM HR HK0 HG0 hlq
  have HLQ := Lib.hid hlq
  clear hlq
  go_loopw [48] (fun i wr => ∃ k : Nat, k ≤ ex.length + l.length ∧ i = .int .i64 k ∧ KB wr (w3.heap.size + 1) k (fun y => (all.take k).contains y) ∧ GK w w3 wr (.slice a9 now.length c9) (.slice (some ⟨gB, 0, none⟩) (ex.length + l.length) cB) (e.vals (.slice a1 n1 c1) (.slice a2 n2 c2)) X now all) (fun i _ => ex.length + l.length - (intOf i).toNat)
  case atStart => exact ⟨0, Nat.zero_le _, rfl, HK0.out, HG0.out⟩
  case round =>
    obtain ⟨k, hk, rfl, hK, hG⟩ := hrel
    have HK := Lib.hid hK
    have HG := Lib.hid hG
    clear hK hG
    by_cases hlt : k < ex.length + l.length
    · have hka : k < all.length := by rw [HLQ.out]; exact hlt
      have cA := HG.out.2.2.2.1.cellAt k hka
      rw [Nat.zero_add] at cA
      have hb := HR.out all[k] (List.getElem_mem hka)
      have hwf : (Lit.int .i64 all[k]).wf = true := WalkArith.wf_i64 (by omega)
      have HW := Lib.hid hwf
      clear hwf hb
      go_wp2_with (at_mapUpdate; refine wp_kb _ rfl (.tmp 52) (.tmp 53) _ rfl (w3.heap.size + 1) k _ all[k] rfl HK.out (by unfold maxLen; omega) rfl rfl HW.out ?_; intro w' hk' G; have HK' := Lib.hid (hk'.congr (contains_snoc all k hka) (Nat.le_refl _)); have HG' := Lib.hid (HG.out.store hsz3 G (by omega) HV1.out); clear hk' G)
      go_roundw
      case rel => exact ⟨k + 1, by omega, by go_num, HK'.out, HG'.out⟩
      case measure => simp [intOf]; omega
    · go_wp2_with fail
      go_loop [57] (fun i => ∃ k : Nat, k ≤ now.length ∧ i = .int .i64 k) (fun i => now.length - (intOf i).toNat)
      case atStart => exact ⟨0, Nat.zero_le _, rfl⟩
      case round =>
        obtain ⟨j, hj, rfl⟩ := hrel
        by_cases hjl : j < now.length
        · obtain ⟨nb, no, rfl, hnc⟩ := IS.at HG.out.2.2.1 (by omega)
          have cN := hnc j hjl
          have hin := HM.out now[j] (List.getElem_mem hjl)
          have hb := HR.out now[j] hin
          have hlk := HK.out.look now[j] (WalkArith.wf_i64 (by omega))
          rw [show (all.take k).contains now[j] = true by rw [List.take_of_length_le (by rw [HLQ.out]; omega)]; simpa using hin] at hlk
          clear hnc hin hb
          go_wp2_with fail
          go_round
          case rel => exact ⟨j + 1, by omega, by go_num⟩
          case measure => simp [intOf]; omega
        · by_cases hl0 : l = []
          · have z0 : l.length = 0 := by rw [hl0]; rfl
            have d0 : decide (0 < (l.length : Int)) = false := by rw [decide_eq_false_iff_not]; omega
            have d0' : decide (0 < l.length) = false := by rw [decide_eq_false_iff_not]; omega
            clear z0 hl0
            have RE := HG.out.1
            have RX := HG.out.2.1
            have BW := HG.out.2.2.2.2.1
            have IN := HG.out.2.2.1
            have hbk := HBk.out
            go_wp2_with fail
            go_quiet (fail)
            have RE : row (wr.drewN nq) w.heap.size = _ := RE
            have RX : row (wr.drewN nq) w3.heap.size = X := RX
            have BW := below_drewN BW nq
            have IN : IS (wr.drewN nq) _ now := IN
            generalize wr.drewN nq = W at RE RX BW IN ⊢
            have RXq := fun o => row_keep RX (by rw [hx]; decide) (Below.refl _ _) o
            have REq := fun o => row_keep RE (by simp [vals_size]) (Below.refl _ _) o
            have m26a := fun o => cell_row (REq o) 26 _ (vals_26 e _ _)
            have BWq := Lib.hid (fun (o : Obj) => BW.alloc BW.size o)
            have INq := Lib.hid (fun (o : Obj) => IN.below ((Below.refl _ _).alloc (Nat.le_refl _) o))
            go_wp2_with (first
              | (go_at_call 22; (with_reducible refine (HV.out _ _ (BWq.out _) (INq.out _)).mono ?_); rintro _ w8 ⟨rfl, hb⟩; have R8 := row_below hb (REq _) (by simp [vals_size]); have Rb := row_below hb (row_new _ _ _ _) (by simp [vals_size]); have B8 := bt (BWq.out _) hb; clear hb)
              | (go_at_call 21; (with_reducible refine (HS.out _ B8).mono ?_); rintro _ w9 ⟨rfl, hb⟩; have B9 := bt B8 hb; clear hb))
            go_ret
            exact ⟨rfl, B9⟩
          · have hl1 : 0 < l.length := by rcases l with _ | ⟨x, l⟩; exact absurd rfl hl0; simp
            obtain ⟨⟨pre, hpre⟩, hgl, hle⟩ := HLa.out hl0
            have hnl : now.length = pre.length + 1 := by rw [hpre]; simp
            have hN0 : 0 < now.length := by omega
            obtain ⟨nb, no, rfl, hnc⟩ := IS.at HG.out.2.2.1 hN0
            have cN := hnc (now.length - 1) (by omega)
            have eN : now[now.length - 1]'(by omega) = last := by
              have : now.getLast? = some last := by rw [hpre]; simp
              rw [List.getLast?_eq_getElem?] at this
              rw [List.getElem?_eq_getElem (by omega)] at this
              exact Option.some.inj this
            rw [eN] at cN
            have BW0 := HG.out.2.2.2.2.1
            obtain ⟨lb, lo, rfl, hlc⟩ := IS.at (H4.out _ BW0) hl1
            have cL := hlc (l.length - 1) (by omega)
            have eL : l[l.length - 1]'(by omega) = last := by
              rw [List.getLast?_eq_getElem?] at hgl
              rw [List.getElem?_eq_getElem (by omega)] at hgl
              exact Option.some.inj hgl
            rw [eL] at cL
            have RX0 := HG.out.2.1
            have x25 := cell_row RX0 25 _ v25
            have x26 := cell_row RX0 26 _ v26
            have d0 : decide (0 < (l.length : Int)) = true := by rw [decide_eq_true_eq]; omega
            have d0' : decide (0 < l.length) = true := by rw [decide_eq_true_eq]; omega
            have d1 : decide (e.lim < (now.length : Int)) = false := by rw [decide_eq_false_iff_not]; omega
            have d2 : ((now.length : Int) == 0) = false := by rw [beq_eq_false_iff_ne]; omega
            have e1 : wrap64 ((now.length : Int) - 1) = (now.length : Int) - 1 := by unfold wrap64; omega
            have e2 : wrap64 ((l.length : Int) - 1) = (l.length : Int) - 1 := by unfold wrap64; omega
            have e3 : ((now.length : Int) - 1).toNat = now.length - 1 := by omega
            have e4 : ((l.length : Int) - 1).toNat = l.length - 1 := by omega
            have f1 : (0 : Int) ≤ (now.length : Int) - 1 := by omega
            have f2 : (0 : Int) ≤ (l.length : Int) - 1 := by omega
            have f3 : (now.length : Int) - 1 < (now.length : Int) := by omega
            have f4 : (l.length : Int) - 1 < (l.length : Int) := by omega
            have g1 : (1 : Int) ≤ (now.length : Int) := by omega
            have g2 : (1 : Int) ≤ (l.length : Int) := by omega
            clear hpre hgl hle hnl eN eL hnc hlc hl0
            have RE := HG.out.1
            have RX := HG.out.2.1
            have BW := HG.out.2.2.2.2.1
            have IN := HG.out.2.2.1
            have hbk := HBk.out
            go_wp2_with fail
            go_quiet (fail)
            have RE : row (wr.drewN nq) w.heap.size = _ := RE
            have RX : row (wr.drewN nq) w3.heap.size = X := RX
            have BW := below_drewN BW nq
            have IN : IS (wr.drewN nq) _ now := IN
            generalize wr.drewN nq = W at RE RX BW IN ⊢
            have RXq := fun o => row_keep RX (by rw [hx]; decide) (Below.refl _ _) o
            have REq := fun o => row_keep RE (by simp [vals_size]) (Below.refl _ _) o
            have m26a := fun o => cell_row (REq o) 26 _ (vals_26 e _ _)
            have BWq := Lib.hid (fun (o : Obj) => BW.alloc BW.size o)
            have INq := Lib.hid (fun (o : Obj) => IN.below ((Below.refl _ _).alloc (Nat.le_refl _) o))
            go_wp2_with (first
              | (go_at_call 22; (with_reducible refine (HV.out _ _ (BWq.out _) (INq.out _)).mono ?_); rintro _ w8 ⟨rfl, hb⟩; have R8 := row_below hb (REq _) (by simp [vals_size]); have Rb := row_below hb (row_new _ _ _ _) (by simp [vals_size]); have B8 := bt (BWq.out _) hb; clear hb)
              | (go_at_call 21; (with_reducible refine (HS.out _ B8).mono ?_); rintro _ w9 ⟨rfl, hb⟩; have B9 := bt B8 hb; clear hb))
            go_ret
            exact ⟨rfl, B9⟩
theorem law_keeps_any (e : En) (a1 a2 a3 a4 : Option Addr) (n1 c1 n2 c2 n3 c3 n4 c4 : Nat) (w : World) (hm : MaxL w) (o1 : n1 ≤ 1000 → ∃ l : List Int, l.length = n1 ∧ IS w (.slice a1 n1 c1) l) (o2 : n2 ≤ 1000 → ∃ l : List Gr, l.length = n2 ∧ GS w (.slice a2 n2 c2) l) (o3 : n3 ≤ 1000 → ∃ l : List Int, l.length = n3 ∧ IS w (.slice a3 n3 c3) l) (o4 : n4 ≤ 1000 → ∃ l : List Int, l.length = n4 ∧ IS w (.slice a4 n4 c4) l) :
    Calls Tryz.prog 4 #[.agg (e.vals (.slice a1 n1 c1) (.slice a2 n2 c2)), .slice a3 n3 c3, .slice a4 n4 c4] w fun r w' => r = .returned (.bool true) ∧ Below w.heap.size w w' := by
  cases hf : (decide (e.name.size ≤ 60) && decide (n2 ≤ 12) && decide (n1 ≤ 8) && decide (n3 ≤ 80) && decide (n4 ≤ 20))
  · exact law_keeps_few e a1 a2 a3 a4 n1 c1 n2 c2 n3 c3 n4 c4 w hm hf
  · have hf' := hf
    simp only [Bool.and_eq_true, decide_eq_true_eq] at hf'
    obtain ⟨l2, rfl, h1⟩ := o1 (by omega)
    obtain ⟨g2, rfl, h2⟩ := o2 (by omega)
    obtain ⟨ex, rfl, h3⟩ := o3 (by omega)
    obtain ⟨l, rfl, h4⟩ := o4 (by omega)
    by_cases hbad : (foldA e l2 g2 ex l).1 = 0
    · have hok : okE e l2 g2 ex = true := by
        cases h : okE e l2 g2 ex
        · unfold foldA at hbad; rw [h] at hbad; cases hbad
        · rfl
      obtain ⟨-, q1, q2, q3, q4, -⟩ := ok_bounds e l2 ex g2 hok
      have hFd : foldA e l2 g2 ex l = Ge.foldG e.lim e.em l e.last ex [] := by unfold foldA; rw [if_pos hok]
      rw [hFd] at hbad
      have m1 := Ge.foldG_mem e.lim e.em l e.last ex []
      have m2 := foldG_ok e l2 g2 l e.last ex [] hok hbad
      have m3 := Ge.foldG_last e.lim e.em q1 l e.last ex [] hbad
      have m4 := Ge.foldG_rng e.lim e.em l e.last ex [] hbad
      have m5 := fits_rng ex 0 e.last (by rw [ok_ref] at hok; simp only [Bool.and_eq_true] at hok; exact hok.2)
      refine law_keeps_good e a1 a2 _ c1 _ c2 _ _ l2 ex l g2 w hm h1 h2 h3 h4 hf (Ge.foldG e.lim e.em l e.last ex []).2.1 (Ge.foldG e.lim e.em l e.last ex []).2.2.1 (Ge.foldG e.lim e.em l e.last ex []).2.2.2 ?_ m2 ?_ ?_ ?_ m3
      · rw [hFd, ← hbad]
      · intro x hx; rw [List.mem_append]; exact m1 x hx
      · intro x hx
        rcases List.mem_append.1 hx with hx | hx
        · have := m5 x hx; omega
        · exact m4 x hx
      · exact Nat.le_trans (Ge.foldG_len e.lim e.em l e.last ex [] 100 (by omega)) (by omega)
    · exact law_keeps_bad e a1 a2 _ c1 _ c2 _ _ l2 ex l g2 w hm h1 h2 h3 h4 hf hbad
end Go.Proofs.YtbkbgkicpfbjfaaGreatDoor

end
section
/- The statement GenerationKeeps: the walk, the frame of the row, the card. Conditions: none beyond the statement. -/
namespace Go.Proofs.YtbkbgkicpfbjfaaGreatDoor.generationKeeps
open Go.ChangeShapes Go.WideShapes Go.ChangeAt Go.RowKit Go.Proofs.YtbkbgkicpfbjfaaGreatDoor
open Go.ChangeMaps (open_string)

set_option maxRecDepth 100000 in
theorem contract (H : Type) (enc : TypeId × Value → H) (W : World) (base : Nat) (args : Array Value) (ds gs : List (DataW H)) (before : List MemPlace)
    (hval : ∀ (j : Nat) t v, Tryz.f4.params[j]? = some t → args[j]? = some v → Value.okWide Tryz.prog W .any base t v)
    (hW : DataW.Whole enc Tryz.prog Tryz.f4.params.toList Rows.generationKeepsSpec.vars false W args.toList ds gs before) (_hL : laidMetH Tryz.prog Rows.generationKeepsRow.laid W) (hS : W.ShapedOpen Tryz.prog) :
    Calls Tryz.prog 4 args W fun e W' => ∃ v, e = .returned v ∧ Rows.generationKeepsSpec.post enc Tryz.prog Tryz.f4 false true false false W args v W' := by
  have hW' := hW
  have hlt : ∀ x ∈ before, x.block < W.heap.size := fun x hx => by simpa using hW'.lt x hx
  obtain ⟨p, q, hA0, hV, rfl, hfz, hnd⟩ := hW
  have hA : DataW.TrodAll enc Tryz.prog W 0 (fun _ => true) true Tryz.f4.params.toList args.toList ds p := hA0
  have hK := hA
  rw [Tryz.params4] at hA hval
  obtain ⟨v0, vs0, d0, ds0, p0, q0, hargs, rfl, rfl, h0, r0⟩ := trodAll_cons hA
  obtain ⟨v1, vs1, d1, ds1, p1, q1, rfl, rfl, rfl, h1, r1⟩ := trodAll_cons r0
  obtain ⟨v2, vs2, d2, ds2, p2, q2, rfl, rfl, rfl, h2, r2⟩ := trodAll_cons r1
  obtain ⟨rfl, rfl, rfl⟩ := trodAll_nil r2
  obtain rfl : args = #[v0, v1, v2] := by cases args; simp_all
  obtain ⟨rfl, rfl⟩ := trodVars_none hV
  obtain ⟨e0, a0, n0, c0, x0, m0, k0, rfl, o0, u0⟩ := open_en (hval 0 27 v0 rfl rfl) h0
  obtain ⟨a1, n1, c1, rfl, o1⟩ := open_islice' (hval 1 24 v1 rfl rfl) h1
  obtain ⟨a2, n2, c2, rfl, o2⟩ := open_islice' (hval 2 24 v2 rfl rfl) h2
  refine (law_keeps_any e0 a0 x0 a1 a2 n0 c0 m0 k0 n1 c1 n2 c2 W (max_of hS) o0 u0 o1 o2).mono fun e W' ⟨he, hb⟩ => ?_
  subst he
  exact ⟨_, rfl, _, _, _, [], _, [], hW', trodAll_cons_mk (shut_bool Tryz.underlying4 _) trodAll_mk0, args_below hb (by rw [Tryz.params4]; kernel_rfl) hK (fun x hx => hlt x (by simpa using hx)), rfl, hb.frame _, fun h => by cases h⟩

def zEnt : Value := .agg #[.int .i64 0, .string ⟨#[]⟩, .int .i64 0, .int .i64 0, .int .i64 0, .int .i64 0, .int .i64 0, .int .i64 0, .int .i64 0, .int .i64 0, .int .i64 0, .int .i64 0, .int .i64 0, .int .i64 0, .int .i64 0, .int .i64 0, .bool false, .int .i64 0, .string ⟨#[]⟩, .string ⟨#[]⟩, .int .i64 0, .int .i64 0, .bool false, .slice none 0 0, .int .i64 0, .int .i64 0, .int .i64 0, .bool false, .string ⟨#[]⟩, .string ⟨#[]⟩, .int .i64 0, .int .i64 0, .slice none 0 0]
def dEnt {H : Type} : DataW H := .agg [.lit (.int .i64 0), .lit (.string []), .agg [.lit (.int .i64 0), .lit (.int .i64 0), .lit (.int .i64 0), .lit (.int .i64 0), .lit (.int .i64 0), .lit (.int .i64 0), .lit (.int .i64 0), .lit (.int .i64 0), .lit (.int .i64 0), .lit (.int .i64 0), .lit (.int .i64 0), .lit (.int .i64 0), .lit (.int .i64 0), .lit (.int .i64 0), .lit (.bool false), .lit (.int .i64 0), .lit (.string []), .lit (.string []), .lit (.int .i64 0), .lit (.int .i64 0), .lit (.bool false)], .nil, .lit (.int .i64 0), .lit (.int .i64 0), .lit (.int .i64 0), .lit (.bool false), .lit (.string []), .lit (.string []), .lit (.int .i64 0), .lit (.int .i64 0), .nil]

theorem laid_met (os : Os) : laidMetH Tryz.prog Rows.generationKeepsRow.laid ((World.laidAll Tryz.prog os Rows.generationKeepsRow.laid).forCall (fun _ _ => 0) ⟨#[], #[(zEnt : Value), (.slice none 0 0 : Value), (.slice none 0 0 : Value)], []⟩).memory := by
  rw [MakeChecks.laidMetH_plain _ _ _ (by kernel_rfl)]; exact laidMet_laidAll _ (by kernel_rfl) (by kernel_rfl)
theorem reads (os : Os) {H : Type} (enc : TypeId × Value → H) : ∃ places, DataW.whole enc Tryz.prog ((World.laidAll Tryz.prog os Rows.generationKeepsRow.laid).forCall (fun _ _ => 0) ⟨#[], #[(zEnt : Value), (.slice none 0 0 : Value), (.slice none 0 0 : Value)], []⟩).memory Tryz.f4.params.toList Rows.generationKeepsSpec.vars false #[(zEnt : Value), (.slice none 0 0 : Value), (.slice none 0 0 : Value)].toList 8 = some ([dEnt, .nil, .nil], [], places) :=
  ⟨[], by kernel_rfl⟩

set_option maxRecDepth 100000 in
theorem lifted (os : Os) (started : os.Started) (H : Type) (enc : TypeId × Value → H) (F : Stop.Interp) :
    ReturnsInHanded {} Tryz.checked os 4 .any ((OpenSpec.ofChange Rows.generationKeepsSpec).preRow enc Tryz.prog Tryz.f4 Rows.generationKeepsRow.domain false Rows.generationKeepsRow.laid) (((OpenSpec.ofChange Rows.generationKeepsSpec).at F).post enc Tryz.prog Tryz.f4 false true false false) := by
  obtain ⟨places, hx⟩ := reads os enc
  refine returnsInHanded_of_row (C := Tryz.checked) (s := OpenSpec.ofChange Rows.generationKeepsSpec) ownk started (by kernel_rfl) Tryz.func4
    (witness_lay (enc := enc) (C := Tryz.checked) false #[(zEnt : Value), (.slice none 0 0 : Value), (.slice none 0 0 : Value)] (World.shaped_of_ZipB (by kernel_rfl) (by kernel_rfl)) (by kernel_rfl)
      (OpenSpec.preRow_of_cond 8 hx (by kernel_rfl) (fun k hk => by cases hk) (by kernel_rfl) (laid_met os))) ?_
  intro W base args ds gs before hval hW _ _ _ hL hS _
  exact contract H enc W base args ds gs before hval hW hL hS

theorem said : Rows.GenerationKeepsSaid :=
  OpenClaim.holds_of_cond 4 Tryz.f4 rfl rfl rfl rfl rfl rfl rfl ⟨rfl, rfl, rfl, rfl, rfl⟩ rfl rfl rfl rfl rfl (by kernel_rfl) Tryz.func4 (by kernel_rfl)
    (of_decide_eq_true (by kernel_rfl)) (by unfold Func.isWrapper; first | (rw [if_pos (by decide +kernel)]; kernel_rfl) | (rw [if_neg (by decide +kernel)]; exact ⟨rfl, rfl⟩))
    (fun os started H enc _ F => by rw [OpenClaim.pre_eq_preRow]; exact lifted os started H enc F)

theorem plain (f : FuncId) (fn : Func) (hf : Tryz.pinned.checked.prog.funcNamed Rows.generationKeepsRow.func = some f) (hfn : Tryz.pinned.checked.prog.funcs[f]? = some fn) :
    false = Tryz.pinned.checked.prog.looks [] ∧ ∀ (j : Nat) t, fn.params[j]? = some t → Tryz.pinned.checked.prog.wantsStandIn t = false := by
  obtain rfl : f = 4 := Option.some.inj ((show Tryz.prog.funcNamed Rows.generationKeepsRow.func = some 4 by kernel_rfl).symm.trans hf) |>.symm
  obtain rfl : fn = Tryz.f4 := (Option.some.inj (Tryz.func4.symm.trans hfn)).symm
  refine ⟨by kernel_rfl, fun j t ht => ?_⟩
  rw [Tryz.params4] at ht
  have hm := Array.mem_of_getElem? ht
  have ha : (#[27, 24, 24] : Array TypeId).all (fun t => !Tryz.prog.wantsStandIn t) = true := by kernel_rfl
  have := (Array.all_eq_true_iff_forall_mem.1 ha) t hm
  exact (show Tryz.prog.wantsStandIn t = false by simpa using this)

/-- THE CARD -/
theorem card : Rows.GenerationKeepsCardSaid :=
  Claim7.holds_tied_plain_at .later [] _ _ _ _ said (fun _ h => by cases h) (by kernel_rfl) (fun _ h => by cases h) generationKeeps_row_tie rfl ⟨rfl, rfl⟩ (by kernel_rfl) rfl plain (by kernel_rfl)
end Go.Proofs.YtbkbgkicpfbjfaaGreatDoor.generationKeeps

end
