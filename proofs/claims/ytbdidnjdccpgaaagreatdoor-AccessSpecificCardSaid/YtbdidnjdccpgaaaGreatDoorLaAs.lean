/- The walk of AccessSpecific. Printed by wip/mkas.py. -/
import Derived.Test.YtbdidnjdccpgaaaGreatDoorAwQ
import Derived.Test.YtbdidnjdccpgaaaGreatDoorFewA
import Derived.Test.YtbdidnjdccpgaaaGreatDoorRm
import Derived.Test.YtbdidnjdccpgaaaGreatDoorAz
import Derived.Test.YtbdidnjdccpgaaaGreatDoorKs
namespace Go.Proofs.YtbdidnjdccpgaaaGreatDoor
open Go.RowKit
set_option maxHeartbeats 40000000
set_option maxRecDepth 8000
set_option linter.unusedSimpArgs false
theorem bs_noneC (a : Option Addr) (n c : Nat) (F : Nat → Ef) (name : ByteArray) (w : World) (hm : MaxL w) (hES : ES w a n F) (hn : n ≤ 1000) (hF : ∀ k, k < n → (F k).e.name.size ≤ 60 ∧ (F k).n2 ≤ 1000) (h : best (Ds.bl name) (lst F n) = none) :
    Calls Tryz.prog 31 #[.slice a n c, .string name] w fun r w' => r = .returned (.tuple #[.agg zE, .bool false]) ∧ Below w.heap.size w w' := by
  refine (ac_best a n c F name w hm hES hn hF).mono ?_
  rintro r w' ⟨h1 | ⟨x, a1, c1, gr, h1, -⟩, hb⟩
  · exact ⟨h1.2, hb⟩
  · rw [h] at h1; cases h1
theorem bs_someC (a : Option Addr) (n c : Nat) (F : Nat → Ef) (name : ByteArray) (x : Ef) (w : World) (hm : MaxL w) (hES : ES w a n F) (hn : n ≤ 1000) (hF : ∀ k, k < n → (F k).e.name.size ≤ 60 ∧ (F k).n2 ≤ 1000) (h : best (Ds.bl name) (lst F n) = some x) :
    Calls Tryz.prog 31 #[.slice a n c, .string name] w fun r w' => ∃ (a1 : Option Addr) (c1 : Nat) (a2 : Option Addr) (c2 : Nat), r = .returned (.tuple #[.agg (x.e.vals (.slice a1 x.n1 c1) (.slice a2 x.gs.length c2)), .bool true]) ∧ GS w' (.slice a2 x.gs.length c2) x.gs ∧ Below w.heap.size w w' := by
  refine (ac_best a n c F name w hm hES hn hF).mono ?_
  rintro r w' ⟨h1 | ⟨y, a1, c1, gr, h1, rfl, hg⟩, hb⟩
  · rw [h] at h1; cases h1.1
  · obtain rfl : x = y := Option.some.inj (h.symm.trans h1)
    obtain ⟨a2, c2, rfl, -⟩ := id hg
    exact ⟨a1, c1, a2, c2, rfl, hg, hb⟩
theorem gof {a b : World} (p : Option Nat) (h : Below a.heap.size a b) : a.grownBy b p := ⟨h.os, h.tape, h.output, h.size, fun k hk _ => h.block k hk⟩
theorem KS.look' {w : World} {b n : Nat} {S : ByteArray → Bool} (h : KS w b n S) (x : ByteArray) (hx : x.size ≤ 1000) (y : Bool) (hy : S x = y) : (Instr.lookup 52 (.map (some b)) (.string x) false).run Tryz.prog w = .ok (.bool y) w := by
  rw [← hy]; exact h.look x hx
theorem KS.congr {w : World} {b n : Nat} {S S' : ByteArray → Bool} (h : KS w b n S) (e : ∀ x, S x = S' x) : KS w b n S' := by
  rw [show S' = S from funext fun x => (e x).symm]; exact h
theorem dis_next (nm : List UInt8) (F : Nat → Ef) (k : Nat) : dis nm (lst F (k + 1)) = dstep nm (dis nm (lst F k)) (F k) := by rw [lst_succ, dis_snoc]
theorem dis_len (nm : List UInt8) (F : Nat → Ef) : ∀ k, (dis nm (lst F k)).length ≤ k
  | 0 => Nat.le_refl _
  | k + 1 => by
    have := dis_len nm F k
    rw [dis_next]; unfold dstep
    split
    · rw [List.length_append, List.length_singleton]; omega
    · omega
/-- an entry of the caller's -/
def GEo (W0 : World) (r : Array Value) (x : Ef) : Prop :=
  ∃ (a1 : Option Addr) (c1 : Nat) (a2 : Option Addr) (c2 : Nat), r = x.e.vals (.slice a1 x.n1 c1) (.slice a2 x.n2 c2) ∧ x.n1 ≤ 9223372036854775807 ∧ x.n2 ≤ 1000 ∧ x.gs.length = x.n2 ∧ GS W0 (.slice a2 x.n2 c2) x.gs
/-- a list of such in a row of the call's own -/
structure SO (W0 : World) (base : Nat) (wr : World) (hv : Value) (H : List Ef) (rows : List (Array Value)) : Prop where
  own : wr.ownsRow base 27 33 hv H.length (ec rows)
  len : rows.length = H.length
  sz : ∀ r ∈ rows, r.size = 33
  one : ∀ r ∈ rows, allOne r.toList = true
  el : ∀ (j : Nat) (r : Array Value) (x : Ef), rows[j]? = some r → H[j]? = some x → GEo W0 r x
theorem SO.keep {W0 w w' : World} {base : Nat} {hv : Value} {H : List Ef} {rows : List (Array Value)} (h : SO W0 base w hv H rows) (hk : ∀ b, hv.ownBlock = some b → w'.heap[b]? = w.heap[b]?) : SO W0 base w' hv H rows :=
  ⟨own_keep h.own hk, h.len, h.sz, h.one, h.el⟩
theorem SO.snoc {W0 wr w' : World} {base : Nat} {hv hv' : Value} {H : List Ef} {rows : List (Array Value)} {x : Ef} {r : Array Value} (h : SO W0 base wr hv H rows) (hown : w'.ownsRow base 27 33 hv' (H.length + 1) (ec rows ++ r.toList)) (hz : r.size = 33) (h1 : allOne r.toList = true) (hge : GEo W0 r x) : SO W0 base w' hv' (H ++ [x]) (rows ++ [r]) := by
  refine ⟨?_, by simp [h.len], fun q hq => ?_, fun q hq => ?_, fun j q y hj hy => ?_⟩
  · rw [ec_app, show ec [r] = r.toList from List.append_nil _, List.length_append]; exact hown
  · rcases List.mem_append.1 hq with hq | hq
    · exact h.sz q hq
    · rw [List.mem_singleton] at hq; subst hq; exact hz
  · rcases List.mem_append.1 hq with hq | hq
    · exact h.one q hq
    · rw [List.mem_singleton] at hq; subst hq; exact h1
  · have hrl := h.len
    by_cases hjk : j < H.length
    · rw [List.getElem?_append_left (by omega)] at hj hy
      exact h.el j q y hj hy
    · have hj2 := (List.getElem?_eq_some_iff.1 hj).1
      simp at hj2
      obtain rfl : j = H.length := by omega
      rw [List.getElem?_append_right (by omega), hrl, Nat.sub_self] at hj
      rw [List.getElem?_append_right (by omega), Nat.sub_self] at hy
      simp at hj hy
      subst hj hy
      exact hge
theorem getd_app {α : Type} (l : List α) (k j : Nat) (hk : k ≤ l.length) (x : α) (h : (l.drop k ++ l.take k)[j]? = some x) : l[if j < l.length - k then k + j else j - (l.length - k)]? = some x := by
  by_cases hj : j < l.length - k
  · rw [if_pos hj]
    rw [List.getElem?_append_left (by simp; omega), List.getElem?_drop] at h
    exact h
  · rw [if_neg hj]
    rw [List.getElem?_append_right (by simp; omega), List.length_drop] at h
    have := (List.getElem?_eq_some_iff.1 h).1
    simp at this
    rw [List.getElem?_take_of_lt (by omega)] at h
    exact h
/-- the same rows in another order -/
theorem SO.turned {W0 wr w' : World} {base base' : Nat} {hv hv' : Value} {H : List Ef} {rows : List (Array Value)} (h : SO W0 base wr hv H rows) (k : Nat) (hk : k ≤ H.length) (hown : w'.ownsRow base' 27 33 hv' H.length (ec (rows.drop k) ++ ec (rows.take k))) : SO W0 base' w' hv' (H.drop k ++ H.take k) (rows.drop k ++ rows.take k) := by
  have hl : (H.drop k ++ H.take k).length = H.length := by simp; omega
  refine ⟨by rw [ec_app, hl]; exact hown, by simp [h.len], fun r hr => h.sz r ?_, fun r hr => h.one r ?_, fun j r x h1 h2 => ?_⟩
  · rcases List.mem_append.1 hr with h | h
    · exact List.mem_of_mem_drop h
    · exact List.mem_of_mem_take h
  · rcases List.mem_append.1 hr with h | h
    · exact List.mem_of_mem_drop h
    · exact List.mem_of_mem_take h
  · have h3 := getd_app rows k j (by rw [h.len]; exact hk) r h1
    have h4 := getd_app H k j hk x h2
    rw [h.len] at h3
    exact h.el _ r x h3 h4
theorem SO.es {W0 : World} {base : Nat} {wr : World} {hv : Value} {H : List Ef} {rows : List (Array Value)} (h : SO W0 base wr hv H rows) (hb : Below W0.heap.size W0 wr) (hk : H.length ≤ 1000) :
    ∃ (a : Option Addr) (c : Nat) (G : Nat → Ef), hv = .slice a H.length c ∧ ES wr a H.length G ∧ lst G H.length = H ∧ (∀ j, j < H.length → G j ∈ H ∧ (G j).n2 ≤ 1000) := by
  obtain ⟨a, c, rfl⟩ := owns_sl h.own
  have at_ : ∀ j (hj : j < H.length), ∃ r, rows[j]? = some r ∧ GEo W0 r (H.getD j ⟨En.zero, 0, 0, []⟩) := fun j hj => by
    have h1 : rows[j]? = some (rows[j]'(by have := h.len; omega)) := List.getElem?_eq_getElem _
    have h2 : H[j]? = some (H[j]'(by omega)) := List.getElem?_eq_getElem _
    refine ⟨_, h1, ?_⟩
    rw [List.getD_eq_getElem?_getD, h2]
    exact h.el j _ _ h1 h2
  refine ⟨a, c, fun j => H.getD j ⟨En.zero, 0, 0, []⟩, rfl, ⟨by omega, fun j hj => ?_⟩, ?_, fun j hj => ?_⟩
  · obtain ⟨r, h1, a1, c1, a2, c2, h2, h3, h4, h5, h6⟩ := at_ j hj
    obtain ⟨g, cc, e, -, hlt, hm⟩ := own_mid h.sz h.own j r h1
    injection e with e1
    refine ⟨g, 0, e1, hlt, a1, c1, a2, c2, ?_, h3, Nat.le_trans h4 (by decide), fun _ => ⟨h5, h6.below hb⟩⟩
    rw [Nat.zero_add, hm, h2]
  · apply List.ext_getElem?
    intro j
    unfold lst
    rw [List.getElem?_map]
    by_cases hj : j < H.length
    · rw [List.getElem?_range hj, Option.map_some, List.getD_eq_getElem?_getD, List.getElem?_eq_getElem (by omega)]; rfl
    · rw [List.getElem?_eq_none (by simp; omega), List.getElem?_eq_none (by omega)]; rfl
  · obtain ⟨r, h1, a1, c1, a2, c2, h2, h3, h4, h5, h6⟩ := at_ j hj
    refine ⟨?_, h4⟩
    show H.getD j _ ∈ H
    rw [List.getD_eq_getElem?_getD, List.getElem?_eq_getElem (by omega)]
    exact List.getElem_mem _
/-- the level among such a list -/
theorem SO.level {W0 : World} {base : Nat} {wr : World} {a : Option Addr} {L c : Nat} {H : List Ef} {rows : List (Array Value)} (h : SO W0 base wr (.slice a L c) H rows) (hL : L = H.length) (hb : Below W0.heap.size W0 wr) (hk : H.length ≤ 1000) (hm : MaxL wr) (h60 : ∀ y ∈ H, y.e.name.size ≤ 60) (u name : ByteArray) :
    Calls Tryz.prog 33 #[.slice a L c, .string u, .slice none 0 0, .string name] wr fun r w' => r = .returned (.int .i64 (lvl H u [] name)) ∧ Below wr.heap.size wr w' := by
  subst hL
  obtain ⟨a', c', G, e, hES, hG, hF⟩ := h.es hb hk
  cases e
  have := ac_level a H.length c G u name (.slice none 0 0) [] wr hm hES hk (fun j hj => ⟨h60 _ (hF j hj).1, (hF j hj).2⟩) (SS.nil wr)
  rw [hG] at this
  exact this
theorem own_zeroE {w : World} {q : Nat} (hq : w.heap.size = q) (x : Obj) : ((w.alloc (.cells #[] 27)).alloc x).ownsRow q 27 33 (.slice (some ⟨q, 0, none⟩) 0 0) 0 (ec []) := by
  subst hq
  exact ⟨rfl, .inr ⟨w.heap.size, 0, #[], rfl, Nat.le_refl _, (heap_alloc_old _ _ (by simp)).trans (heap_alloc_new w _), Nat.le_refl _, by unfold maxLen; omega, rfl, rfl⟩⟩
theorem own_zeroE' {w : World} {q : Nat} (hq : w.heap.size = q) : (w.alloc (.cells #[] 27)).ownsRow q 27 33 (.slice (some ⟨q, 0, none⟩) 0 0) 0 [] := by
  subst hq
  exact ⟨rfl, .inr ⟨w.heap.size, 0, #[], rfl, Nat.le_refl _, heap_alloc_new w _, Nat.le_refl _, by unfold maxLen; omega, rfl, rfl⟩⟩
theorem own_some {w : World} {base e size n c : Nat} {a : Option Addr} {xs : List Value} (h : w.ownsRow base e size (.slice a n c) n xs) (hn : 0 < n) : ∃ g, a = some ⟨g, 0, none⟩ ∧ n ≤ c ∧ c ≤ maxLen := by
  rcases h.2 with ⟨h1, h2⟩ | ⟨g, cap, cur, h1, _, _, h3, h4, _⟩
  · omega
  · cases h1; exact ⟨g, rfl, h3, h4⟩
theorem ec_drop : ∀ (l : List (Array Value)) (_ : ∀ r ∈ l, r.size = 33) (k : Nat), ec (l.drop k) = (ec l).drop (k * 33)
  | _, _, 0 => by rw [List.drop_zero, Nat.zero_mul, List.drop_zero]
  | [], _, k + 1 => by rw [List.drop_nil]; exact List.drop_nil.symm
  | r :: l, h, k + 1 => by
    rw [List.drop_succ_cons, ec_drop l (fun x hx => h x (by simp [hx])) k, ec, show (k + 1) * 33 = r.toList.length + k * 33 by rw [Array.length_toList, h r (by simp)]; omega, List.drop_append, show List.drop (r.toList.length + k * 33) r.toList = [] from List.drop_eq_nil_of_le (by omega), List.nil_append, Nat.add_sub_cancel_left]
/-- the tail and the head of a row -/
theorem own_tail {w : World} {base n g c k : Nat} {rows : List (Array Value)} (h : w.ownsRow base 27 33 (.slice (some ⟨g, 0, none⟩) n c) n (ec rows)) (hz : ∀ r ∈ rows, r.size = 33) (hl : rows.length = n) : CS w 33 (.slice (some ⟨g, k * 33, none⟩) (n - k) (c - k)) (n - k) (ec (rows.drop k)) := by
  refine ⟨_, _, rfl, by rw [ec_len _ (fun r hr => hz r (List.mem_of_mem_drop hr)), List.length_drop, hl], fun h0 => ⟨_, rfl, fun j u hu => ?_⟩⟩
  obtain ⟨a, c', e, -, p⟩ := own_cells h
  obtain ⟨ad, e2, q⟩ := p (by omega)
  injection e with e1
  rw [e2] at e1
  cases e1
  rw [ec_drop rows hz, List.getElem?_drop] at hu
  have := q _ u hu
  rw [Addr.add_lit] at this ⊢
  rw [Nat.zero_add] at this
  exact this
theorem own_head {w : World} {base n g c k : Nat} {rows : List (Array Value)} (h : w.ownsRow base 27 33 (.slice (some ⟨g, 0, none⟩) n c) n (ec rows)) (hz : ∀ r ∈ rows, r.size = 33) (hl : rows.length = n) (hk : k ≤ n) : CS w 33 (.slice (some ⟨g, 0, none⟩) k c) k (ec (rows.take k)) := by
  refine ⟨_, _, rfl, by rw [ec_len _ (fun r hr => hz r (List.mem_of_mem_take hr)), List.length_take, hl, Nat.min_eq_left hk], fun h0 => ⟨_, rfl, fun j u hu => ?_⟩⟩
  obtain ⟨a, c', e, -, p⟩ := own_cells h
  obtain ⟨ad, e2, q⟩ := p (by omega)
  injection e with e1
  rw [e2] at e1
  cases e1
  refine q j u ?_
  rw [← List.take_append_drop k rows, ec_app, List.getElem?_append_left (List.getElem?_eq_some_iff.1 hu).1]
  exact hu
/-- what the loop keeps -/
structure SP (W0 wr : World) (nm : List UInt8) (F : Nat → Ef) (k mb : Nat) (hv : Value) (rows : List (Array Value)) (cnt : Nat) : Prop where
  so : SO W0 W0.heap.size wr hv (dis nm (lst F k)) rows
  ks : KS wr mb cnt (fun s => (dis nm (lst F k)).any (fun y => decide (y.e.name = s)))
  ne : hv.ownBlock ≠ some mb
  mb0 : W0.heap.size ≤ mb
  mb1 : mb < wr.heap.size
  c : cnt ≤ k
  bel : Below W0.heap.size W0 wr
theorem SP.start (W0 : World) (nm : List UInt8) (F : Nat → Ef) (q : Nat) (hq : W0.heap.size = q) : SP W0 ((W0.alloc (.cells #[] 27)).alloc (.map #[] 0)) nm F 0 (q + 1) (.slice (some ⟨q, 0, none⟩) 0 0) [] 0 := by
  refine ⟨⟨?_, rfl, (fun _ h => by cases h), (fun _ h => by cases h), (fun _ _ _ h => by simp at h)⟩, ?_, ?_, by omega, by simp; omega, Nat.le_refl _, ((Below.refl _ _).alloc (Nat.le_refl _) _).alloc (by simp) _⟩
  · rw [hq]; exact own_zeroE hq _
  · have := KS.made (W0.alloc (.cells #[] 27))
    rw [show (W0.alloc (.cells #[] 27)).heap.size = q + 1 by simp; omega] at this
    exact this.congr fun _ => rfl
  · simp [Value.ownBlock]
theorem SP.below {W0 wr w' : World} {nm : List UInt8} {F : Nat → Ef} {k mb : Nat} {hv : Value} {rows : List (Array Value)} {cnt : Nat} (h : SP W0 wr nm F k mb hv rows cnt) (hb : Below wr.heap.size wr w') : SP W0 w' nm F k mb hv rows cnt :=
  ⟨h.so.keep (fun x hx => hb.block x (own_base h.so.own x hx).2), h.ks.kept (gof none hb) (by simp), h.ne, h.mb0, Nat.lt_of_lt_of_le h.mb1 hb.size, h.c, h.bel.trans (hb.mono h.bel.size)⟩
theorem SP.skip {W0 wr : World} {nm : List UInt8} {F : Nat → Ef} {k mb : Nat} {hv : Value} {rows : List (Array Value)} {cnt : Nat} (h : SP W0 wr nm F k mb hv rows cnt) (hh : hits nm (F k) = false) : SP W0 wr nm F (k + 1) mb hv rows cnt := by
  have e : dis nm (lst F (k + 1)) = dis nm (lst F k) := by rw [dis_next]; unfold dstep; rw [if_neg (by rw [hh]; simp)]
  exact ⟨by rw [e]; exact h.so, by rw [e]; exact h.ks, h.ne, h.mb0, h.mb1, Nat.le_succ_of_le h.c, h.bel⟩
theorem SP.seen {W0 wr w4 w6 : World} {nm : List UInt8} {F : Nat → Ef} {k mb : Nat} {hv : Value} {rows : List (Array Value)} {cnt n6 : Nat} (h : SP W0 wr nm F k mb hv rows cnt) (hany : (dis nm (lst F k)).any (fun y => decide (y.e.name = (F k).e.name)) = true) (hb : Below wr.heap.size wr w4) (hn : n6 ≤ cnt + 1)
    (hk : KS w6 mb n6 (fun y => decide (y = (F k).e.name) || (dis nm (lst F k)).any (fun z => decide (z.e.name = y)))) (hg : w4.grownBy w6 (some mb)) : SP W0 w6 nm F (k + 1) mb hv rows n6 := by
  have h4 := h.below hb
  have e : dis nm (lst F (k + 1)) = dis nm (lst F k) := by rw [dis_next]; unfold dstep; rw [if_neg (by rw [hany]; simp)]
  refine ⟨?_, ?_, h.ne, h.mb0, Nat.lt_of_lt_of_le h4.mb1 hg.size, by have := h.c; omega, h4.bel.trans (grown_below hg h.mb0 h4.bel.size)⟩
  · rw [e]; exact h4.so.keep (fun x hx => hg.block x (own_base h4.so.own x hx).2 (fun e => h.ne (by rw [hx, Option.some.inj e])))
  · rw [e]
    refine hk.congr fun y => ?_
    by_cases hy : y = (F k).e.name
    · subst hy; rw [hany, Bool.or_true]
    · rw [decide_eq_false hy, Bool.false_or]
theorem SP.took {W0 wr w4 w5 w6 : World} {nm : List UInt8} {F : Nat → Ef} {k mb : Nat} {hv : Value} {rows : List (Array Value)} {cnt n6 : Nat} {r : Array Value} {a5 : Option Addr} {c5 : Nat} {t : TypeId} (h : SP W0 wr nm F k mb hv rows cnt) (hh : hits nm (F k) = true) (hany : (dis nm (lst F k)).any (fun y => decide (y.e.name = (F k).e.name)) = false) (hb : Below wr.heap.size wr w4)
    (hown : w5.ownsRow W0.heap.size 27 33 (.slice a5 ((dis nm (lst F k)).length + 1) c5) ((dis nm (lst F k)).length + 1) (ec rows ++ r.toList)) (hg5 : (w4.alloc (.cells r t)).grownBy w5 hv.ownBlock) (hat : (Value.slice a5 ((dis nm (lst F k)).length + 1) c5).ownBlock = hv.ownBlock ∨ (Value.slice a5 ((dis nm (lst F k)).length + 1) c5).ownBlock = some (w4.alloc (.cells r t)).heap.size)
    (hz : r.size = 33) (h1 : allOne r.toList = true) (hge : GEo W0 r (F k)) (hn : n6 ≤ cnt + 1) (hk : KS w6 mb n6 (fun y => decide (y = (F k).e.name) || (dis nm (lst F k)).any (fun z => decide (z.e.name = y)))) (hg : w5.grownBy w6 (some mb)) : SP W0 w6 nm F (k + 1) mb (.slice a5 ((dis nm (lst F k)).length + 1) c5) (rows ++ [r]) n6 := by
  have h4 := h.below (bt hb ((Below.refl _ _).alloc (Nat.le_refl _) (.cells r t)))
  have e : dis nm (lst F (k + 1)) = dis nm (lst F k) ++ [F k] := by rw [dis_next]; unfold dstep; rw [if_pos ⟨hh, hany⟩]
  have hne : (Value.slice a5 ((dis nm (lst F k)).length + 1) c5).ownBlock ≠ some mb := by
    rcases hat with h2 | h2
    · rw [h2]; exact h.ne
    · rw [h2]; intro e; have := Option.some.inj e; have := h4.mb1; omega
  have b5 : Below W0.heap.size W0 w5 := h4.bel.grown hg5 h4.bel.size (fun q hq => (own_base h4.so.own q hq).1)
  have s5 := h4.so.snoc (x := F k) hown hz h1 hge
  refine ⟨?_, ?_, hne, h.mb0, Nat.lt_of_lt_of_le (Nat.lt_of_lt_of_le h4.mb1 hg5.size) hg.size, by have := h.c; omega, b5.trans (grown_below hg h.mb0 b5.size)⟩
  · rw [e]; exact s5.keep (fun x hx => hg.block x (own_base hown x hx).2 (fun e => hne (by rw [hx, Option.some.inj e])))
  · refine hk.congr fun y => ?_
    rw [e, List.any_append]
    by_cases hy : y = (F k).e.name
    · subst hy; simp
    · rw [decide_eq_false hy, Bool.false_or]
      simp [Ne.symm hy]
theorem geo_of {w W0 : World} {b o : Nat} {x : Ef} (h : EF w b o x) (h12 : x.n2 ≤ 1000) (hb : Below w.heap.size w W0) :
    ∃ (a1 : Option Addr) (c1 : Nat) (a2 : Option Addr) (c2 : Nat), mid W0 b o = x.e.vals (.slice a1 x.n1 c1) (.slice a2 x.n2 c2) ∧ GEo W0 (x.e.vals (.slice a1 x.n1 c1) (.slice a2 x.n2 c2)) x ∧ GS W0 (.slice a2 x.n2 c2) x.gs := by
  obtain ⟨a1, c1, a2, c2, h1, h2, h3, h4⟩ := h
  obtain ⟨h5, h6⟩ := h4 h12
  exact ⟨a1, c1, a2, c2, mid_below hb h1 (by rw [vals_size]; decide), ⟨a1, c1, a2, c2, rfl, h2, h12, h5, h6.below hb⟩, h6.below hb⟩
theorem slc_lo {w : World} {g n c k : Nat} (hk : k < n) (hc : n ≤ c) : (Instr.slice 42 (.slice (some ⟨g, 0, none⟩) n c) (some (.int .i64 (k : Int))) none none).run Tryz.prog w = .ok (.slice (some ⟨g, k * 33, none⟩) (n - k) (c - k)) w := by
  have h1 : ¬ c = k := by omega
  have h3 : (0 : Int) ≤ k := by omega
  have h4 : (k : Int) ≤ n := by omega
  simp only [Instr.slice, Instr.sliceBounds, Sem.run_bind, Sem.run_pure, run_underlying Tryz.underlying42, Result.andThen_ok, run_sliceBound _ _ _ _ _ h3 h4, Option.isSome, Bool.false_eq_true, if_false]
  rw [Tryz.sizeOf27]
  simp only [Result.andThen_ok, Int.toNat_natCast, if_neg h1, Option.map, Addr.add_lit, Nat.zero_add]
theorem slc_hi {w : World} {g n c k : Nat} (hk : k < n) (hc : n ≤ c) : (Instr.slice 42 (.slice (some ⟨g, 0, none⟩) n c) none (some (.int .i64 (k : Int))) none).run Tryz.prog w = .ok (.slice (some ⟨g, 0, none⟩) k c) w := by
  have h1 : ¬ c = 0 := by omega
  have h3 : (0 : Int) ≤ k := by omega
  have h4 : (k : Int) ≤ c := by omega
  simp only [Instr.slice, Instr.sliceBounds, Sem.run_bind, Sem.run_pure, run_underlying Tryz.underlying42, Result.andThen_ok, run_sliceBound _ _ _ _ _ h3 h4, Option.isSome, Bool.false_eq_true, if_false, if_true]
  rw [Tryz.sizeOf27]
  simp only [Result.andThen_ok, Int.toNat_natCast, if_neg h1, Option.map, Addr.add_lit, Nat.zero_mul, Nat.sub_zero, Nat.zero_add]

theorem took_cell {W0 wr w4 w5 : World} {nm : List UInt8} {F : Nat → Ef} {k mb : Nat} {hv : Value} {rows : List (Array Value)} {cnt : Nat} {o : Obj} {v : Value} (h : SP W0 wr nm F k mb hv rows cnt) (hlt : wr.heap.size < w4.heap.size) (hg : (w4.alloc o).grownBy w5 hv.ownBlock) (hN : w4.cell? ⟨wr.heap.size, 1, none⟩ = some v) : w5.cell? ⟨wr.heap.size, 1, none⟩ = some v :=
  (World.cell?_of_block (w := w4.alloc o) (w' := w5) (a := ⟨wr.heap.size, 1, none⟩) (hg.block wr.heap.size (by simp; omega) (fun e => by have := (own_base h.so.own _ e.symm).2; omega))).trans (below_cell (below_al' w4 o) hN)
attribute [local go_sem ↓] ldEnt stEnt stEnt2 stEntRow ldEntM bldEnt
attribute [local go_sem] Held_drew isHead_mk headOf_mk offOf_mk isPtr_mk cellsOfV_mk isAggV_mk row_new row_new2 row_new2' row_drew row_drewN vals_size allOne_nil allOne_cons one_int one_bool one_string one_pointer one_slice one_func vals_0 vals_1
theorem esame_zero (w : World) : Calls Tryz.prog 18 #[.agg zE, .agg (zlit 0 ⟨#[]⟩)] w fun r w' => r = .returned (.bool true) ∧ Below w.heap.size w w' := by
  show Calls Tryz.prog 18 #[.agg zE, .agg zE] w _
  rw [zE_eq]
  have h := en_same En.zero En.zero _ _ _ _ [] [] [] [] w (IS.nil w) (IS.nil w) (GS.nil w) (GS.nil w)
  rw [(sameE_eq _ _ _ _ _ _).2 ⟨rfl, rfl, rfl⟩] at h
  exact h
theorem as_no (a : Option Addr) (n c : Nat) (F : Nat → Ef) (u name : ByteArray) (z : Int) (w : World) (hm : MaxL w) (hT : Tab w) (hES : ES w a n F) (hall : ¬ fewAP F n 0) :
    Calls Tryz.prog 8 #[.slice a n c, .string u, .string name, .int .u8 z] w fun r w' => r = .returned (.bool true) ∧ Below w.heap.size w w' := by
  have HAW := Lib.hid (fun W (b : Below w.heap.size w W) => aw34 W (hm.below b) (hT.below b))
  have HES := Lib.hid hES
  have HALL := Lib.hid hall
  clear hES hall
  go_enter Tryz.func8, Tryz.ntmps8
  go_wp2_with (first
    | (go_at_call 29; (with_reducible refine (HAW.out _ (Below.refl _ _)).mono ?_); rintro _ w1 ⟨rfl, B1⟩)
    | (go_at_call 30; (refine (few34 _ _ _ _ _ _ _ _ (HES.out.below B1)).mono ?_); rintro _ w9 ⟨bb, rfl, hf, hb⟩; have B9 := bt B1 hb; have HF := Lib.hid hf; clear hb hf; cases bb; rotate_left 1; exact absurd (HF.out (by first | rfl | trivial)) HALL.out))
  go_ret
  exact ⟨rfl, B9⟩

theorem as_none (a : Option Addr) (n c : Nat) (F : Nat → Ef) (u name : ByteArray) (z : Int) (w : World) (hm : MaxL w) (hT : Tab w) (hES : ES w a n F) (hf : fewAP F n 0) (ho : best (Ds.bl name) (lst F n) = none) :
    Calls Tryz.prog 8 #[.slice a n c, .string u, .string name, .int .u8 z] w fun r w' => r = .returned (.bool true) ∧ Below w.heap.size w w' := by
  have HAW := Lib.hid (fun W (b : Below w.heap.size w W) => aw34 W (hm.below b) (hT.below b))
  have hn : n ≤ 1000 := by have := hf.1; omega
  have hF : ∀ k, k < n → (F k).e.name.size ≤ 60 ∧ (F k).n2 ≤ 1000 := fun k hk => ⟨(hf.2.2 k hk).1, by have := (hf.2.2 k hk).2.1; omega⟩
  have HB1 := Lib.hid (fun W (b : Below w.heap.size w W) => bs_noneC a n c F name W (hm.below b) (hES.below b) hn hF ho)
  have HNO : Hid (∀ k, k < n → hits (Ds.bl name) (F k) = false) := Lib.hid (fun k hk => best_none _ _ ho _ (List.mem_map.2 ⟨k, List.mem_range.2 hk, rfl⟩))
  have HS : Hid (∀ W, Calls Tryz.prog 18 #[.agg zE, .agg (zlit 0 ⟨#[]⟩)] W fun r w' => r = .returned (.bool true) ∧ Below W.heap.size W w') := Lib.hid (fun W => esame_zero W)
  have z1 : allOne zE.toList = true := by unfold zE zlit; simp [go_sem, allOne_nil, allOne_cons, one_int, one_bool, one_string, one_slice]
  have z2 : zE.size = 33 := rfl
  have HES := Lib.hid hES
  have HF := Lib.hid hF
  clear ho hES hF hf
  have hmm := @run_makeMap Tryz.prog
  go_enter Tryz.func8, Tryz.ntmps8
  go_wp2_with (first
    | (go_at_call 29; (with_reducible refine (HAW.out _ (Below.refl _ _)).mono ?_); rintro _ w1 ⟨rfl, B1⟩)
    | (go_at_call 30; (refine (few34 _ _ _ _ _ _ _ _ (HES.out.below B1)).mono ?_); rintro _ w2 ⟨bb, rfl, -, hb⟩; have B2 := bt B1 hb; clear hb; cases bb)
    | (go_at_call 31; (refine (HB1.out _ B2).mono ?_); rintro _ w3 ⟨rfl, hb⟩; have B3 := bt B2 hb; have R3 := row_new w3 zE 27 (0, 0); have z3 := B3.size; clear hb))
  · go_ret
    exact ⟨rfl, B2⟩
  have BW0 : Below w.heap.size w (w3.alloc (.cells zE 27)) := B3.alloc z3 _
  go_loopw [11, 32] (fun ov i wr => ∃ k : Nat, k ≤ n ∧ i = .int .i64 k ∧ ov = .slice (some ⟨w3.heap.size + 1, 0, none⟩) 0 0 ∧ Below (w3.alloc (.cells zE 27)).heap.size (w3.alloc (.cells zE 27)) wr) (fun _ i _ => n - (intOf i).toNat)
  case atStart => exact ⟨0, Nat.zero_le _, rfl, rfl, by (repeat (first | exact Below.refl _ _ | assumption | (refine Below.drew ?_) | (refine Below.alloc ?_ (by first | (simp; done) | (simp; omega) | omega) _) | (refine Below.setCell ?_ (by first | (simp; done) | (simp; omega) | omega) _)))⟩
  case round =>
    obtain ⟨k, hk, rfl, rfl, hB⟩ := hrel
    have HB := Lib.hid hB
    have Bw := bt BW0 hB
    clear hB
    by_cases hlt : k < n
    · obtain ⟨b, o, rfl, hb, a1, c1, a2, c2, hmid, -, -, hgs⟩ := (HES.out.below Bw).2 k hlt
      obtain ⟨-, hg⟩ := hgs (HF.out k hlt).2
      have HMR := Lib.hid (hm.below Bw)
      have HG := Lib.hid hg
      clear hg hgs

      have hz : (mid wr b (o + k * 33)).size = 33 := by rw [hmid]; exact vals_size _ _ _
      have hone := vals_one (F k).e (.slice a1 (F k).n1 c1) (.slice a2 (F k).n2 c2) rfl rfl
      by_cases hk4 : (F k).e.kind = 4
      rotate_left
      · have q4 : ((F k).e.kind != 4) = true := by rw [bne_iff_ne]; exact hk4
        have HH : Hid (hits (Ds.bl name) (F k) = false) := Lib.hid (by unfold hits; rw [decide_eq_false hk4, Bool.false_and])
        clear hk4
        go_wp2_with fail
        go_roundw
        case rel => exact ⟨k + 1, by omega, by go_num, rfl, bt HB.out (by (repeat (first | exact Below.refl _ _ | assumption | (refine Below.drew ?_) | (refine Below.alloc ?_ (by first | (simp; done) | (simp; omega) | omega) _) | (refine Below.setCell ?_ (by first | (simp; done) | (simp; omega) | omega) _))))⟩
        case measure => simp [intOf]; omega
      have q4 : ((F k).e.kind != 4) = false := by rw [hk4]; rfl
      have R0 := row_new wr ((F k).e.vals (.slice a1 (F k).n1 c1) (.slice a2 (F k).n2 c2)) 27 (0, 0)
      have N0 := cell_row R0 0 _ (vals_0 _ _ _)
      have ha := fun W (B : Below (wr.alloc (.cells ((F k).e.vals (.slice a1 (F k).n1 c1) (.slice a2 (F k).n2 c2)) 27)).heap.size (wr.alloc (.cells ((F k).e.vals (.slice a1 (F k).n1 c1) (.slice a2 (F k).n2 c2)) 27)) W) => below1 B
      have hv := fun W B => va_ef (F k) a1 c1 (.slice a2 (F k).n2 c2) W hk4 (HMR.out.below (ha W B)) (HG.out.below (ha W B))
      have hmt := fun W B => ds_match (F k).e.name name W (HMR.out.below (ha W B))
      have hh4 : hits (Ds.bl name) (F k) = (okQ (F k) && Ds.match_ (Ds.bl (F k).e.name) (Ds.bl name)) := by unfold hits; rw [decide_eq_true hk4, Bool.true_and]
      clear hk4
      cases hq : okQ (F k)
      · rw [hq] at hv hh4
        have HV := Lib.hid hv
        have HH := Lib.hid hh4
        clear hv hmt hh4 hq ha
        go_wp2_with (go_at_call 16; (with_reducible refine (HV.out _ (by (repeat (first | exact Below.refl _ _ | assumption | (refine Below.drew ?_) | (refine Below.alloc ?_ (by first | (simp; done) | (simp; omega) | omega) _) | (refine Below.setCell ?_ (by first | (simp; done) | (simp; omega) | omega) _))))).mono ?_); rintro _ v2 ⟨rfl, hb⟩; have Q1 := row_below hb R0 (by simp [vals_size]); have N1 := cell_row Q1 1 _ (vals_1 _ _ _); have B2 := hb; clear hb)
        go_roundw
        case rel => exact ⟨k + 1, by omega, by go_num, rfl, bt HB.out (below1 B2)⟩
        case measure => simp [intOf]; omega
      rw [hq] at hv hh4
      cases hmm : Ds.match_ (Ds.bl (F k).e.name) (Ds.bl name)
      · rw [hmm] at hmt hh4
        have HV := Lib.hid hv
        have HM := Lib.hid hmt
        have HH := Lib.hid hh4
        clear hv hmt hh4 hq hmm ha
        go_wp2_with (first | (go_at_call 16; (with_reducible refine (HV.out _ (by (repeat (first | exact Below.refl _ _ | assumption | (refine Below.drew ?_) | (refine Below.alloc ?_ (by first | (simp; done) | (simp; omega) | omega) _) | (refine Below.setCell ?_ (by first | (simp; done) | (simp; omega) | omega) _))))).mono ?_); rintro _ v2 ⟨rfl, hb⟩; have Q1 := row_below hb R0 (by simp [vals_size]); have N1 := cell_row Q1 1 _ (vals_1 _ _ _); have B2 := hb; clear hb) | (go_at_call 37; (with_reducible refine (HM.out _ B2).mono ?_); rintro _ v3 ⟨rfl, hb⟩; have Q2 := row_below hb Q1 (by simp [vals_size]); have N2 := cell_row Q2 1 _ (vals_1 _ _ _); have B3 := bt B2 hb; clear hb))
        go_roundw
        case rel => exact ⟨k + 1, by omega, by go_num, rfl, bt HB.out (below1 B3)⟩
        case measure => simp [intOf]; omega
      rw [hmm] at hmt hh4
      exfalso
      have := HNO.out k hlt
      rw [hh4] at this
      cases this
    · have R4 := row_below HB.out R3 (by rw [z2]; decide)
      go_wp2_with (go_at_call 18; (refine (HS.out _).mono ?_); rintro _ w5 ⟨rfl, hb⟩; have B5 := bt Bw hb; clear hb)
      go_ret
      exact ⟨rfl, B5⟩
theorem as_some (a : Option Addr) (n c : Nat) (F : Nat → Ef) (u name : ByteArray) (z : Int) (h0 : 0 ≤ z) (h1 : z ≤ 255) (w : World) (hm : MaxL w) (hT : Tab w) (hES : ES w a n F) (hf : fewAP F n 0) (x : Ef) (ho : best (Ds.bl name) (lst F n) = some x) :
    Calls Tryz.prog 8 #[.slice a n c, .string u, .string name, .int .u8 z] w fun r w' => r = .returned (.bool true) ∧ Below w.heap.size w w' := by
  have HAW := Lib.hid (fun W (b : Below w.heap.size w W) => aw34 W (hm.below b) (hT.below b))
  have hn12 := hf.1
  have hn : n ≤ 1000 := by omega
  have hF : ∀ k, k < n → (F k).e.name.size ≤ 60 ∧ (F k).n2 ≤ 1000 := fun k hk => ⟨(hf.2.2 k hk).1, by have := (hf.2.2 k hk).2.1; omega⟩
  have HB1 := Lib.hid (fun W (b : Below w.heap.size w W) => bs_someC a n c F name x W (hm.below b) (hES.below b) hn hF ho)
  have h60 : ∀ y ∈ lst F n, y.e.name.size ≤ 60 := fun y hy => by
    obtain ⟨k, hk, rfl⟩ := List.mem_map.1 hy
    exact (hF k (List.mem_range.1 hk)).1
  have HX60 := Lib.hid (h60 x (best_hit ho).1)
  have HD60 : Hid (∀ y ∈ dis (Ds.bl name) (lst F n), y.e.name.size ≤ 60) := Lib.hid (fun y hy => h60 y ((dis_facts _ _).1 y hy).1)
  have HBL := Lib.hid (best_le (Ds.bl name) (lst F n) x ho)
  have HXD := Lib.hid ((dis_facts (Ds.bl name) (lst F n)).2.2.2 x ho)
  have hmx := fun W (b : Below w.heap.size w W) => ds_match x.e.name name W (hm.below b)
  rw [(hits_ok (best_hit ho).2).2.2] at hmx
  have HMX := Lib.hid hmx
  have HLV := Lib.hid (fun W (b : Below w.heap.size w W) => ac_level a n c F u name (.slice none 0 0) [] W (hm.below b) (hES.below b) hn hF (SS.nil W))
  have HLT : Hid (∀ (k : Nat) (W0 W : World) (base : Nat) (a' : Option Addr) (L c' : Nat) (rows : List (Array Value)), SO W0 base W (.slice a' L c') ((dis (Ds.bl name) (lst F n)).drop k ++ (dis (Ds.bl name) (lst F n)).take k) rows → L = (dis (Ds.bl name) (lst F n)).length → Below W0.heap.size W0 W → Below w.heap.size w W → Calls Tryz.prog 33 #[.slice a' L c', .string u, .slice none 0 0, .string name] W fun r w' => r = .returned (.int .i64 (lvl (lst F n) u [] name)) ∧ Below W.heap.size W w') := Lib.hid (fun k W0 W base a' L c' rows hs hL hb hw => by
    have hdl := dis_len (Ds.bl name) F n
    have := hs.level (by rw [hL]; simp; omega) hb (by simp; omega) (hm.below hw) (fun y hy => by
      rcases List.mem_append.1 hy with h | h
      · exact HD60.out y (List.mem_of_mem_drop h)
      · exact HD60.out y (List.mem_of_mem_take h)) u name
    rw [lvl_turned] at this
    exact this)
  have HES := Lib.hid hES
  have HF := Lib.hid hF
  clear ho hES hF hf hmx h60 HD60
  have hmm := @run_makeMap Tryz.prog
  go_enter Tryz.func8, Tryz.ntmps8
  go_wp2_with (first
    | (go_at_call 29; (with_reducible refine (HAW.out _ (Below.refl _ _)).mono ?_); rintro _ w1 ⟨rfl, B1⟩)
    | (go_at_call 30; (refine (few34 _ _ _ _ _ _ _ _ (HES.out.below B1)).mono ?_); rintro _ w2 ⟨bb, rfl, -, hb⟩; have B2 := bt B1 hb; clear hb; cases bb)
    | (go_at_call 31; (refine (HB1.out _ B2).mono ?_); rintro _ w3 ⟨b1, k1, b2, k2, rfl, -, hb⟩; have B3 := bt B2 hb; have hone3 := vals_one x.e (.slice b1 x.n1 k1) (.slice b2 x.gs.length k2) rfl rfl; have R3 := row_new w3 (x.e.vals (.slice b1 x.n1 k1) (.slice b2 x.gs.length k2)) 27 (0, 0); have X0 := cell_row R3 1 _ (vals_1 _ _ _); have z3 := B3.size; clear hb))
  · go_ret
    exact ⟨rfl, B2⟩
  have BW0 : Below w.heap.size w (w3.alloc (.cells (x.e.vals (.slice b1 x.n1 k1) (.slice b2 x.gs.length k2)) 27)) := B3.alloc z3 _
  have hq0 : (w3.alloc (.cells (x.e.vals (.slice b1 x.n1 k1) (.slice b2 x.gs.length k2)) 27)).heap.size = w3.heap.size + 1 := by simp
  generalize w3.alloc (.cells (x.e.vals (.slice b1 x.n1 k1) (.slice b2 x.gs.length k2)) 27) = W0 at BW0 hq0 R3 X0 ⊢
  clear hone3 R3
  go_loopw [11, 32] (fun ov i wr => ∃ (k : Nat) (rows : List (Array Value)) (cnt : Nat), k ≤ n ∧ i = .int .i64 k ∧ SP W0 wr (Ds.bl name) F k (w3.heap.size + 1 + 1) ov rows cnt) (fun _ i _ => n - (intOf i).toNat)
  case atStart => exact ⟨0, [], 0, Nat.zero_le _, rfl, SP.start W0 _ F _ hq0⟩
  case round =>
    obtain ⟨k, rows, cnt, hk, rfl, hSP⟩ := hrel
    obtain ⟨va, vc, rfl⟩ := owns_sl hSP.so.own
    have HSP := Lib.hid hSP
    have Bw := bt BW0 hSP.bel
    clear hSP
    by_cases hlt : k < n
    · obtain ⟨b, o, rfl, hb0, hE⟩ := HES.out.2 k hlt
      obtain ⟨a1, c1, a2, c2, hmid0, hge, hgs⟩ := geo_of hE (HF.out k hlt).2 BW0
      have hmid := mid_below HSP.out.bel hmid0 (by rw [vals_size]; decide)
      have hb := Nat.lt_of_lt_of_le hb0 Bw.size
      have HMR := Lib.hid (hm.below Bw)
      have HG := Lib.hid (hgs.below HSP.out.bel)
      have HGE := Lib.hid hge
      have XR := below_cell HSP.out.bel X0
      have hx60 := (HF.out k hlt).1
      have hx60' : (F k).e.name.size ≤ 1000 := by omega
      have hDL : (dis (Ds.bl name) (lst F k)).length ≤ k := dis_len _ F k
      clear hge hgs hmid0 hE hb0

      have hz : (mid wr b (o + k * 33)).size = 33 := by rw [hmid]; exact vals_size _ _ _
      have hone := vals_one (F k).e (.slice a1 (F k).n1 c1) (.slice a2 (F k).n2 c2) rfl rfl
      by_cases hk4 : (F k).e.kind = 4
      rotate_left
      · have q4 : ((F k).e.kind != 4) = true := by rw [bne_iff_ne]; exact hk4
        have HH : Hid (hits (Ds.bl name) (F k) = false) := Lib.hid (by unfold hits; rw [decide_eq_false hk4, Bool.false_and])
        clear hk4
        go_wp2_with fail
        go_roundw
        case rel => exact ⟨k + 1, rows, cnt, by omega, by go_num, (HSP.out.skip HH.out).below (by (repeat (first | exact Below.refl _ _ | assumption | (refine Below.drew ?_) | (refine Below.alloc ?_ (by first | (simp; done) | (simp; omega) | omega) _) | (refine Below.setCell ?_ (by first | (simp; done) | (simp; omega) | omega) _))))⟩
        case measure => simp [intOf]; omega
      have q4 : ((F k).e.kind != 4) = false := by rw [hk4]; rfl
      have R0 := row_new wr ((F k).e.vals (.slice a1 (F k).n1 c1) (.slice a2 (F k).n2 c2)) 27 (0, 0)
      have N0 := cell_row R0 0 _ (vals_0 _ _ _)
      have ha := fun W (B : Below (wr.alloc (.cells ((F k).e.vals (.slice a1 (F k).n1 c1) (.slice a2 (F k).n2 c2)) 27)).heap.size (wr.alloc (.cells ((F k).e.vals (.slice a1 (F k).n1 c1) (.slice a2 (F k).n2 c2)) 27)) W) => below1 B
      have hv := fun W B => va_ef (F k) a1 c1 (.slice a2 (F k).n2 c2) W hk4 (HMR.out.below (ha W B)) (HG.out.below (ha W B))
      have hmt := fun W B => ds_match (F k).e.name name W (HMR.out.below (ha W B))
      have hh4 : hits (Ds.bl name) (F k) = (okQ (F k) && Ds.match_ (Ds.bl (F k).e.name) (Ds.bl name)) := by unfold hits; rw [decide_eq_true hk4, Bool.true_and]
      clear hk4
      cases hq : okQ (F k)
      · rw [hq] at hv hh4
        have HV := Lib.hid hv
        have HH := Lib.hid hh4
        clear hv hmt hh4 hq ha
        go_wp2_with (go_at_call 16; (with_reducible refine (HV.out _ (by (repeat (first | exact Below.refl _ _ | assumption | (refine Below.drew ?_) | (refine Below.alloc ?_ (by first | (simp; done) | (simp; omega) | omega) _) | (refine Below.setCell ?_ (by first | (simp; done) | (simp; omega) | omega) _))))).mono ?_); rintro _ v2 ⟨rfl, hb⟩; have Q1 := row_below hb R0 (by simp [vals_size]); have N1 := cell_row Q1 1 _ (vals_1 _ _ _); have B2 := hb; clear hb)
        go_roundw
        case rel => exact ⟨k + 1, rows, cnt, by omega, by go_num, (HSP.out.skip HH.out).below (below1 B2)⟩
        case measure => simp [intOf]; omega
      rw [hq] at hv hh4
      cases hmm : Ds.match_ (Ds.bl (F k).e.name) (Ds.bl name)
      · rw [hmm] at hmt hh4
        have HV := Lib.hid hv
        have HM := Lib.hid hmt
        have HH := Lib.hid hh4
        clear hv hmt hh4 hq hmm ha
        go_wp2_with (first | (go_at_call 16; (with_reducible refine (HV.out _ (by (repeat (first | exact Below.refl _ _ | assumption | (refine Below.drew ?_) | (refine Below.alloc ?_ (by first | (simp; done) | (simp; omega) | omega) _) | (refine Below.setCell ?_ (by first | (simp; done) | (simp; omega) | omega) _))))).mono ?_); rintro _ v2 ⟨rfl, hb⟩; have Q1 := row_below hb R0 (by simp [vals_size]); have N1 := cell_row Q1 1 _ (vals_1 _ _ _); have B2 := hb; clear hb) | (go_at_call 37; (with_reducible refine (HM.out _ B2).mono ?_); rintro _ v3 ⟨rfl, hb⟩; have Q2 := row_below hb Q1 (by simp [vals_size]); have N2 := cell_row Q2 1 _ (vals_1 _ _ _); have B3 := bt B2 hb; clear hb))
        go_roundw
        case rel => exact ⟨k + 1, rows, cnt, by omega, by go_num, (HSP.out.skip HH.out).below (below1 B3)⟩
        case measure => simp [intOf]; omega
      rw [hmm] at hmt hh4
      have hord := fun W B => ds_order (F k).e.name x.e.name W hx60 HX60.out (HMR.out.below (ha W B))
      have hge0 := HBL.out (F k) (List.mem_map.2 ⟨k, List.mem_range.2 hlt, rfl⟩) hh4
      generalize Ds.order (Ds.bl (F k).e.name) (Ds.bl x.e.name) = od at hord hge0
      have f2 : decide (od < 0) = false := by rw [decide_eq_false_iff_not]; omega
      have HV := Lib.hid hv
      have HM := Lib.hid hmt
      have HO := Lib.hid hord
      have HH := Lib.hid hh4
      clear hv hmt hh4 hq hmm ha hord hge0
      cases hany : (dis (Ds.bl name) (lst F k)).any (fun y => decide (y.e.name = (F k).e.name))
      · have HANY := Lib.hid hany
        clear hany
        go_wp2_with (first | (go_at_call 16; (with_reducible refine (HV.out _ (by (repeat (first | exact Below.refl _ _ | assumption | (refine Below.drew ?_) | (refine Below.alloc ?_ (by first | (simp; done) | (simp; omega) | omega) _) | (refine Below.setCell ?_ (by first | (simp; done) | (simp; omega) | omega) _))))).mono ?_); rintro _ v2 ⟨rfl, hb⟩; have Q1 := row_below hb R0 (by simp [vals_size]); have N1 := cell_row Q1 1 _ (vals_1 _ _ _); have B2 := hb; clear hb) | (go_at_call 37; (with_reducible refine (HM.out _ B2).mono ?_); rintro _ v3 ⟨rfl, hb⟩; have Q2 := row_below hb Q1 (by simp [vals_size]); have N2 := cell_row Q2 1 _ (vals_1 _ _ _); have B3 := bt B2 hb; have X3 := below_cell (below1 B3) XR; clear hb) | (go_at_call 38; (with_reducible refine (HO.out _ B3).mono ?_); rintro _ v4 ⟨rfl, hb⟩; have Q4 := row_below hb Q2 (by simp [vals_size]); have N4 := cell_row Q4 1 _ (vals_1 _ _ _); have B4 := bt B3 hb; have BW4 := below1 B4; have K4 := Lib.hid (HSP.out.below BW4).ks; have L4 := K4.out.look' (F k).e.name hx60' _ HANY.out; clear hb) | (at_builtin; refine wp_appX _ rfl (.tmp 66) (.tmp 68) 42 27 _ _ 33 336 rfl Tryz.underlying42 en_i en_i0 en_i1 en_i2 (vals_size _ _ _) (by decide) W0.heap.size (.slice va (dis (Ds.bl name) (lst F k)).length vc) (.slice (some ⟨v4.heap.size, 0, none⟩) 1 1) (dis (Ds.bl name) (lst F k)).length 1 (ec rows) ((F k).e.vals (.slice a1 (F k).n1 c1) (.slice a2 (F k).n2 c2)).toList rfl (HSP.out.below (bt BW4 (below_al' v4 (.cells ((F k).e.vals (.slice a1 (F k).n1 c1) (.slice a2 (F k).n2 c2)) 27)))).so.own rfl (cs_one rfl (vals_size _ _ _)) (all1 hone) (by unfold maxLen; omega) (by omega) (HSP.out.below (bt BW4 (below_al' v4 (.cells ((F k).e.vals (.slice a1 (F k).n1 c1) (.slice a2 (F k).n2 c2)) 27)))).bel.size ?_; intro a5 c5 w5 hown hg hat; have HOWN := Lib.hid hown; have HGR := Lib.hid hg; have HAT := Lib.hid hat; have K5 := Lib.hid ((HSP.out.below (bt BW4 (below_al' v4 (.cells ((F k).e.vals (.slice a1 (F k).n1 c1) (.slice a2 (F k).n2 c2)) 27)))).ks.kept hg (fun e => HSP.out.ne e.symm)); have N5 := took_cell HSP.out (by have := B4.size; simp at this; omega) hg N4; clear hown hg hat) | (at_mapUpdate; refine wp_ks _ rfl (.tmp 70) (.tmp 72) _ rfl (w3.heap.size + 1 + 1) cnt _ (F k).e.name rfl K5.out (by have := HSP.out.c; unfold maxLen; omega) rfl rfl hx60' ?_; intro w6 n6 hn6 hk6 hg6; have HN6 := Lib.hid hn6; have HK6 := Lib.hid hk6; have HG6 := Lib.hid hg6; clear hn6 hk6 hg6))
        go_roundw
        case rel => exact ⟨k + 1, rows ++ [((F k).e.vals (.slice a1 (F k).n1 c1) (.slice a2 (F k).n2 c2))], n6, by omega, by go_num, HSP.out.took HH.out HANY.out BW4 HOWN.out HGR.out HAT.out (vals_size _ _ _) hone HGE.out HN6.out HK6.out HG6.out⟩
        case measure => simp [intOf]; omega
      · have HANY := Lib.hid hany
        clear hany
        go_wp2_with (first | (go_at_call 16; (with_reducible refine (HV.out _ (by (repeat (first | exact Below.refl _ _ | assumption | (refine Below.drew ?_) | (refine Below.alloc ?_ (by first | (simp; done) | (simp; omega) | omega) _) | (refine Below.setCell ?_ (by first | (simp; done) | (simp; omega) | omega) _))))).mono ?_); rintro _ v2 ⟨rfl, hb⟩; have Q1 := row_below hb R0 (by simp [vals_size]); have N1 := cell_row Q1 1 _ (vals_1 _ _ _); have B2 := hb; clear hb) | (go_at_call 37; (with_reducible refine (HM.out _ B2).mono ?_); rintro _ v3 ⟨rfl, hb⟩; have Q2 := row_below hb Q1 (by simp [vals_size]); have N2 := cell_row Q2 1 _ (vals_1 _ _ _); have B3 := bt B2 hb; have X3 := below_cell (below1 B3) XR; clear hb) | (go_at_call 38; (with_reducible refine (HO.out _ B3).mono ?_); rintro _ v4 ⟨rfl, hb⟩; have Q4 := row_below hb Q2 (by simp [vals_size]); have N4 := cell_row Q4 1 _ (vals_1 _ _ _); have B4 := bt B3 hb; have BW4 := below1 B4; have K4 := Lib.hid (HSP.out.below BW4).ks; have L4 := K4.out.look' (F k).e.name hx60' _ HANY.out; clear hb) | ((at_mapUpdate; refine wp_ks _ rfl (.tmp 70) (.tmp 72) _ rfl (w3.heap.size + 1 + 1) cnt _ (F k).e.name rfl K4.out (by have := HSP.out.c; unfold maxLen; omega) rfl rfl hx60' ?_; intro w6 n6 hn6 hk6 hg6; have HN6 := Lib.hid hn6; have HK6 := Lib.hid hk6; have HG6 := Lib.hid hg6; clear hn6 hk6 hg6)))
        go_roundw
        case rel => exact ⟨k + 1, rows, n6, by omega, by go_num, HSP.out.seen HANY.out BW4 HN6.out HK6.out HG6.out⟩
        case measure => simp [intOf]; omega
    · obtain rfl : k = n := by omega
      have hDL : (dis (Ds.bl name) (lst F k)).length ≤ k := dis_len _ F k
      have hpos : 0 < (dis (Ds.bl name) (lst F k)).length := List.length_pos_of_mem HXD.out
      obtain ⟨g, rfl, hgc, hcm⟩ := own_some HSP.out.so.own hpos
      have XR := below_cell HSP.out.bel X0
      have hlen := HSP.out.so.len
      have hsz := HSP.out.so.sz
      have hbwr := HSP.out.bel
      obtain ⟨zn, rfl⟩ : ∃ zn : Nat, z = zn := ⟨z.toNat, by omega⟩
      have hkk : zn % (dis (Ds.bl name) (lst F k)).length < (dis (Ds.bl name) (lst F k)).length := Nat.mod_lt _ hpos
      have htm : (zn : Int).tmod ((dis (Ds.bl name) (lst F k)).length : Int) = ((zn % (dis (Ds.bl name) (lst F k)).length : Nat) : Int) := (Int.ofNat_tmod _ _).symm
      have hd0 : ((dis (Ds.bl name) (lst F k)).length : Int) ≠ 0 := by omega
      have HN12 := Lib.hid (show (dis (Ds.bl name) (lst F k)).length ≤ 1000 by omega)
      have HOWN := Lib.hid HSP.out.so.own
      have HSO := Lib.hid HSP.out.so
      generalize hDD : dis (Ds.bl name) (lst F k) = D at *
      generalize zn % D.length = kk at hkk htm
      go_upto_region 21 with fail
      refine wp_region_held_drew (S := fun w' => Below wr.heap.size wr w') (by kernel_rfl) ?_ (fun hHeld => ?_)
      · exact Below.drew (Below.refl _ _)
      (refine rg_y (i := 1) (some 90) (v := ?_) rfl rfl (by kernel_rfl) (by kernel_rfl) (by kernel_rfl) (fun _ _ _ h => h) (by kernel_rfl) ?_ (by assumption) ?_; rotate_left 1; focus (intro w hSw; (try dsimp only at hSw); (first | (go_simp; done) | (go_simp; with_reducible rfl))); (try simp only [Act.put, List.setIfInBounds_toArray, List.set_cons_zero, List.set_cons_succ]))
      (refine rg_y (i := 2) (some 91) (v := ?_) rfl rfl (by kernel_rfl) (by kernel_rfl) (by kernel_rfl) (fun _ _ _ h => h) (by kernel_rfl) ?_ (by assumption) ?_; rotate_left 1; focus (intro w hSw; (try dsimp only at hSw); (first | (go_simp; done) | (go_simp; with_reducible rfl))); (try simp only [Act.put, List.setIfInBounds_toArray, List.set_cons_zero, List.set_cons_succ]))
      refine rg_y (i := 3) (some 92) (v := .slice (some ⟨g, kk * 33, none⟩) (D.length - kk) (vc - kk)) rfl rfl (by kernel_rfl) (by kernel_rfl) (by kernel_rfl) (fun _ _ _ h => h) (by kernel_rfl) (fun w hSw => ?_) (by assumption) ?_
      · have sl := slc_lo (w := w) (g := g) hkk hgc
        go_simp
      (try simp only [Act.put, List.setIfInBounds_toArray, List.set_cons_zero, List.set_cons_succ])
      (refine rg_y (i := 5) (some 94) (v := ?_) rfl rfl (by kernel_rfl) (by kernel_rfl) (by kernel_rfl) (fun _ _ _ h => h) (by kernel_rfl) ?_ (by assumption) ?_; rotate_left 1; focus (intro w hSw; (try dsimp only at hSw); (first | (go_simp; done) | (go_simp; with_reducible rfl))); (try simp only [Act.put, List.setIfInBounds_toArray, List.set_cons_zero, List.set_cons_succ]))
      (refine rg_y (i := 6) (some 95) (v := ?_) rfl rfl (by kernel_rfl) (by kernel_rfl) (by kernel_rfl) (fun _ _ _ h => h) (by kernel_rfl) ?_ (by assumption) ?_; rotate_left 1; focus (intro w hSw; (try dsimp only at hSw); (first | (go_simp; done) | (go_simp; with_reducible rfl))); (try simp only [Act.put, List.setIfInBounds_toArray, List.set_cons_zero, List.set_cons_succ]))
      refine rg_y (i := 7) (some 96) (v := .slice (some ⟨g, 0, none⟩) kk vc) rfl rfl (by kernel_rfl) (by kernel_rfl) (by kernel_rfl) (fun _ _ _ h => h) (by kernel_rfl) (fun w hSw => ?_) (by assumption) ?_
      · have sl := slc_hi (w := w) (g := g) hkk hgc
        go_simp
      (try simp only [Act.put, List.setIfInBounds_toArray, List.set_cons_zero, List.set_cons_succ])
      (refine wpAnyH_ready (rs := [0]) (by kernel_rfl) (by simp) ?_; refine AllReadyH.cons (o := _) rfl (fun K hK => ?_) AllReadyH.nil)
      go_simp
      have hbA : Below wr.heap.size wr (wr.drew.alloc (.cells #[] 27)) := hHeld.alloc (by simp) _
      refine hK.out _ _ hbA (fun hHeld => ?_)
      (clear hK K; (try simp only [Act.put, List.setIfInBounds_toArray, List.set_cons_zero, List.set_cons_succ]))
      (refine wpAnyH_ready (rs := [4]) (by kernel_rfl) (by simp) ?_; refine AllReadyH.cons (o := _) rfl (fun K hK => ?_) AllReadyH.nil)
      refine step_appX _ rfl (.tmp 89) (.tmp 92) 42 27 _ _ 33 336 (by rfl) Tryz.underlying42 en_i en_i0 en_i1 en_i2 (vals_size En.zero (.slice none 0 0) (.slice none 0 0)) (by decide) wr.heap.size (.slice (some ⟨wr.heap.size, 0, none⟩) 0 0) (.slice (some ⟨g, kk * 33, none⟩) (D.length - kk) (vc - kk)) 0 (D.length - kk) [] (ec (rows.drop kk)) (by simp [Act.eval]) (own_zeroE' (w := wr.drew) rfl) (by simp [Act.eval]) ((own_tail HOWN.out hsz hlen).below hbA) (ec_one _ (fun r hr => hsz r (List.mem_of_mem_drop hr)) (fun r hr => HSO.out.one r (List.mem_of_mem_drop hr))) (by unfold maxLen; have := HN12.out; omega) (by have := HN12.out; omega) (by simp) ?_
      intro a5 c5 w5 hown5 hg5 _
      have hb5 : Below wr.heap.size wr w5 := hbA.grown hg5 (by simp) (fun q hq => by cases hq; exact Nat.le_refl _)
      refine hK.out _ _ hb5 (fun hHeld => ?_)
      (clear hK K; (try simp only [Act.put, List.setIfInBounds_toArray, List.set_cons_zero, List.set_cons_succ]))
      (refine wpAnyH_ready (rs := [8]) (by kernel_rfl) (by simp) ?_; refine AllReadyH.cons (o := _) rfl (fun K hK => ?_) AllReadyH.nil)
      refine step_appX _ rfl (.tmp 93) (.tmp 96) 42 27 _ _ 33 336 (by rfl) Tryz.underlying42 en_i en_i0 en_i1 en_i2 (vals_size En.zero (.slice none 0 0) (.slice none 0 0)) (by decide) wr.heap.size (.slice a5 (0 + (D.length - kk)) c5) (.slice (some ⟨g, 0, none⟩) kk vc) (0 + (D.length - kk)) kk _ (ec (rows.take kk)) (by simp [Act.eval]) hown5 (by simp [Act.eval]) ((own_head HOWN.out hsz hlen (Nat.le_of_lt hkk)).below hb5) (ec_one _ (fun r hr => hsz r (List.mem_of_mem_take hr)) (fun r hr => HSO.out.one r (List.mem_of_mem_take hr))) (by unfold maxLen; have := HN12.out; omega) (by have := HN12.out; omega) hb5.size ?_
      intro a6 c6 w6 hown6 hg6 _
      have hb6 : Below wr.heap.size wr w6 := hb5.grown hg6 hb5.size (fun q hq => (own_base hown5 q hq).1)
      generalize hL : 0 + (D.length - kk) + kk = L at hown6 ⊢
      obtain rfl : L = D.length := by omega
      have S6 := HSO.out.turned kk (Nat.le_of_lt hkk) (by simpa using hown6)
      have B6 := Below.trans Bw (hb6.mono Bw.size)
      have B06 := Below.trans hbwr (hb6.mono hbwr.size)
      have X6 := below_cell hb6 XR
      refine hK.out _ _ hb6 (fun hHeld => ?_)
      (clear hK K; (try simp only [Act.put, List.setIfInBounds_toArray, List.set_cons_zero, List.set_cons_succ]))
      (refine rg_y (i := 9) (some 16) (v := ?_) rfl rfl (by kernel_rfl) (by kernel_rfl) (by kernel_rfl) (fun _ _ _ h => h) (by kernel_rfl) ?_ (by assumption) ?_; rotate_left 1; focus (intro w hSw; (try dsimp only at hSw); (first | (go_simp; done) | (go_simp; with_reducible rfl))); (try simp only [Act.put, List.setIfInBounds_toArray, List.set_cons_zero, List.set_cons_succ]))
      refine wpAnyH_done (by kernel_rfl) ?_ _
      have HS6 := Lib.hid S6
      clear hown5 hown6 hg5 hg6 hHeld hb5 hb6 hbA S6 HOWN HSO HSP
      generalize lvl (lst F k) u [] name = A at HLV HLT
      go_wp2_with (first
        | (go_at_call 37; (with_reducible refine (HMX.out _ B6).mono ?_); rintro _ w7 ⟨rfl, hb⟩; have S7 := Lib.hid (HS6.out.keep (fun x hx => hb.block x (own_base HS6.out.own x hx).2)); have B7 := bt B6 hb; have B07 := Below.trans B06 (hb.mono B06.size); clear hb)
        | (go_at_call 33; (with_reducible refine (HLV.out _ B8).mono ?_); rintro _ w9 ⟨rfl, hb⟩; have B9 := bt B8 hb; clear hb)
        | (go_at_call 33; (refine (HLT.out kk W0 _ _ _ _ _ _ S7.out rfl B07 B7).mono ?_); rintro _ w8 ⟨rfl, hb⟩; have B8 := bt B7 hb; clear hb))
      go_ret
      exact ⟨ret_bool (by simp), B9⟩
theorem law_specific (a : Option Addr) (n c : Nat) (F : Nat → Ef) (u name : ByteArray) (z : Int) (hb : IntKind.u8.min ≤ z ∧ z ≤ IntKind.u8.max) (w : World) (hm : MaxL w) (hT : Tab w) (hES : ES w a n F) :
    Calls Tryz.prog 8 #[.slice a n c, .string u, .string name, .int .u8 z] w fun r w' => r = .returned (.bool true) ∧ Below w.heap.size w w' := by
  rw [show IntKind.u8.min = 0 from rfl, show IntKind.u8.max = 255 from rfl] at hb
  by_cases hf : fewAP F n 0
  · cases ho : best (Ds.bl name) (lst F n) with
    | none => exact as_none a n c F u name z w hm hT hES hf ho
    | some x => exact as_some a n c F u name z hb.1 hb.2 w hm hT hES hf x ho
  · exact as_no a n c F u name z w hm hT hES hf
end Go.Proofs.YtbdidnjdccpgaaaGreatDoor
