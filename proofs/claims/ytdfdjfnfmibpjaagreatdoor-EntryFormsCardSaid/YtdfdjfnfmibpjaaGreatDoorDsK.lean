/- Several texts in one: DsL DsK. -/
import Derived.Test.YtdfdjfnfmibpjaaGreatDoorDs
import Derived.Test.YtdfdjfnfmibpjaaGreatDoorCal
section
/- Laws of names in plain words: order, matching, pieces. No program in sight. -/
namespace Go.Proofs.YtdfdjfnfmibpjaaGreatDoor.Ds
open Lib (compareBytes)
theorem cmp_cons (x : UInt8) (a b : List UInt8) : compareBytes (x :: a) (x :: b) = compareBytes a b := by
  rw [compareBytes]; simp [UInt8.lt_irrefl]
theorem cmp_self (a : List UInt8) : compareBytes a a = 0 := by
  induction a with
  | nil => rfl
  | cons x a ih => rw [cmp_cons, ih]
theorem cmp_app (p a b : List UInt8) : compareBytes (p ++ a) (p ++ b) = compareBytes a b := by
  induction p with
  | nil => rfl
  | cons x p ih => rw [List.cons_append, List.cons_append, cmp_cons, ih]
theorem u8_tri (x y : UInt8) : x < y ∨ x = y ∨ y < x := by
  rcases Nat.lt_trichotomy x.toNat y.toNat with h | h | h
  · exact .inl (UInt8.lt_iff_toNat_lt.2 h)
  · exact .inr (.inl (UInt8.toNat_inj.1 h))
  · exact .inr (.inr (UInt8.lt_iff_toNat_lt.2 h))
theorem cmp_lt (x y : UInt8) (a b : List UInt8) (h : x < y) : compareBytes (x :: a) (y :: b) = -1 := by rw [compareBytes]; simp [h]
theorem cmp_gt (x y : UInt8) (a b : List UInt8) (h : y < x) : compareBytes (x :: a) (y :: b) = 1 := by
  have : ¬ x < y := fun h' => absurd (UInt8.lt_trans h h') (UInt8.lt_irrefl y)
  rw [compareBytes]; simp [h, this]
theorem cmp_val : ∀ a b : List UInt8, compareBytes a b = -1 ∨ compareBytes a b = 0 ∨ compareBytes a b = 1
  | [], [] => by simp [compareBytes]
  | [], _ :: _ => by simp [compareBytes]
  | _ :: _, [] => by simp [compareBytes]
  | x :: a, y :: b => by
    rcases u8_tri x y with h | h | h
    · rw [cmp_lt _ _ _ _ h]; simp
    · subst h; rw [cmp_cons]; exact cmp_val a b
    · rw [cmp_gt _ _ _ _ h]; simp
theorem cmp_zero : ∀ a b : List UInt8, compareBytes a b = 0 ↔ a = b
  | [], [] => by simp [compareBytes]
  | [], _ :: _ => by simp [compareBytes]
  | _ :: _, [] => by simp [compareBytes]
  | x :: a, y :: b => by
    rcases u8_tri x y with h | h | h
    · rw [cmp_lt _ _ _ _ h]
      have : x ≠ y := fun e => UInt8.lt_irrefl y (e ▸ h)
      simp [this]
    · subst h; rw [cmp_cons, cmp_zero a b]; simp
    · rw [cmp_gt _ _ _ _ h]
      have : x ≠ y := fun e => UInt8.lt_irrefl y (e ▸ h)
      simp [this]
theorem cmp_neg : ∀ a b : List UInt8, compareBytes b a = - compareBytes a b
  | [], [] => by simp [compareBytes]
  | [], _ :: _ => by simp [compareBytes]
  | _ :: _, [] => by simp [compareBytes]
  | x :: a, y :: b => by
    rcases u8_tri x y with h | h | h
    · rw [cmp_lt _ _ _ _ h, cmp_gt _ _ _ _ h]; rfl
    · subst h; rw [cmp_cons, cmp_cons, cmp_neg a b]
    · rw [cmp_lt _ _ _ _ h, cmp_gt _ _ _ _ h]
theorem cmp_trans : ∀ a b c : List UInt8, compareBytes a b ≤ 0 → compareBytes b c ≤ 0 → compareBytes a c ≤ 0
  | [], b, [], _, _ => by simp [compareBytes]
  | [], b, _ :: _, _, _ => by simp [compareBytes]
  | _ :: _, [], c, h, _ => by simp [compareBytes] at h
  | _ :: _, _ :: _, [], _, h => by simp [compareBytes] at h
  | x :: a, y :: b, z :: c, h, k => by
    rcases u8_tri x y with h1 | h1 | h1
    · rcases u8_tri y z with h2 | h2 | h2
      · rw [cmp_lt _ _ _ _ (UInt8.lt_trans h1 h2)]; simp
      · subst h2; rw [cmp_lt _ _ _ _ h1]; simp
      · rw [cmp_gt _ _ _ _ h2] at k; simp at k
    · subst h1
      rcases u8_tri x z with h2 | h2 | h2
      · rw [cmp_lt _ _ _ _ h2]; simp
      · subst h2; rw [cmp_cons] at h k ⊢; exact cmp_trans a b c h k
      · rw [cmp_gt _ _ _ _ h2] at k; simp at k
    · rw [cmp_gt _ _ _ _ h1] at h; simp at h
/-! pieces -/
theorem pieces_dot (a b : List UInt8) : pieces (a ++ 46 :: b) = pieces a ++ pieces b := by
  induction a with
  | nil => simp [pieces]
  | cons c r ih =>
    simp only [List.cons_append, pieces, ih]
    split
    · rfl
    · cases e : pieces r with
      | nil => exact absurd e (pieces_ne r)
      | cons p ps => simp
theorem pieces_plain (q : List UInt8) (h : 46 ∉ q) : pieces q = [q] := by
  induction q with
  | nil => rfl
  | cons c r ih =>
    simp only [List.mem_cons, not_or] at h
    rw [pieces, if_neg (fun e => h.1 e.symm), ih h.2]
theorem pieces_nodot (s : List UInt8) : ∀ q ∈ pieces s, 46 ∉ q := by
  induction s with
  | nil => simp [pieces]
  | cons c r ih =>
    intro q hq
    simp only [pieces] at hq
    split at hq
    · rcases List.mem_cons.1 hq with rfl | hq
      · simp
      · exact ih q hq
    · rename_i hc
      cases e : pieces r with
      | nil => exact absurd e (pieces_ne r)
      | cons p ps =>
        rw [e] at hq ih
        simp only at hq
        rcases List.mem_cons.1 hq with rfl | hq
        · simp only [List.mem_cons, not_or]
          exact ⟨fun h => hc h.symm, ih p (by simp)⟩
        · exact ih q (by simp [hq])
theorem pieces_joined (L : List (List UInt8)) (h : L ≠ []) (hq : ∀ q ∈ L, 46 ∉ q) : pieces (Lib.join L [46]) = L := by
  induction L with
  | nil => exact absurd rfl h
  | cons a r ih =>
    cases r with
    | nil => rw [Lib.join_one, pieces_plain a (hq a (by simp))]
    | cons b r =>
      rw [join_cons2, List.append_assoc, List.singleton_append, pieces_dot, pieces_plain a (hq a (by simp)), ih (by simp) (fun q h => hq q (by simp [h]))]
      rfl
/-! bytes of names and patterns -/
theorem pl_bd (c : UInt8) (h : pl c = true) : c.toNat ≤ 90 ∧ c ≠ 46 ∧ c ≠ 42 := by
  simp only [pl, up, dg, Bool.or_eq_true, Bool.and_eq_true, decide_eq_true_eq] at h
  exact ⟨by omega, fun e => by subst e; simp at h, fun e => by subst e; simp at h⟩
theorem up_pl (c : UInt8) (h : up c = true) : pl c = true := by simp [pl, h]
theorem pls_bd (c : UInt8) (h : pls c = true) : c.toNat ≤ 90 ∧ c ≠ 46 := by
  simp only [pls, pl, up, dg, Bool.or_eq_true, Bool.and_eq_true, decide_eq_true_eq] at h
  exact ⟨by omega, fun e => by subst e; simp at h⟩
theorem ups_pls (c : UInt8) (h : ups c = true) : pls c = true := by
  simp only [ups, Bool.or_eq_true] at h
  rcases h with h | h <;> simp [pls, pl, h]
theorem qual_all (F G : UInt8 → Bool) (hFG : ∀ c, F c = true → G c = true) (q : List UInt8) (h : qual F G q = true) : ∀ c ∈ q, G c = true := by
  cases q with
  | nil => simp
  | cons x r =>
    simp only [qual, Bool.and_eq_true, decide_eq_true_eq, List.all_eq_true] at h
    intro c hc
    rcases List.mem_cons.1 hc with rfl | hc
    · exact hFG _ h.1.2
    · exact h.2 c hc
theorem nameQ_pl (q : List UInt8) (h : nameQ q = true) : ∀ c ∈ q, pl c = true := qual_all up pl up_pl q h
theorem patQ_pls (q : List UInt8) (h : patQ q = true) : ∀ c ∈ q, pls c = true := by
  unfold patQ at h
  simp only [Bool.or_eq_true, Bool.and_eq_true, decide_eq_true_eq] at h
  rcases h with rfl | h
  · intro c hc; simp at hc; subst hc; rfl
  · exact qual_all ups pls ups_pls q h.1
theorem nameQ_patQ (q : List UInt8) (h : nameQ q = true) : patQ q = true := by
  have hp := nameQ_pl q h
  have hs : ss q = false := by
    rw [Bool.eq_false_iff]
    intro e
    obtain ⟨j, h1, h2, _⟩ := (ss_iff q).1 e
    have hj : j < q.length := by omega
    rw [List.getD_eq_getElem?_getD, List.getElem?_eq_getElem hj, Option.getD_some] at h2
    exact (pl_bd _ (hp _ (List.getElem_mem hj))).2.2 (UInt8.toNat_inj.1 h2)
  unfold patQ
  rw [hs]
  unfold nameQ at h
  cases q with
  | nil => simp [qual] at h
  | cons x r =>
    simp only [qual, Bool.and_eq_true, decide_eq_true_eq, List.all_eq_true] at h
    simp only [qual, Bool.not_false, Bool.and_true, Bool.or_eq_true, Bool.and_eq_true, decide_eq_true_eq, List.all_eq_true]
    exact .inr ⟨⟨h.1.1, by simp [ups, h.1.2]⟩, fun c hc => by simp [pls, h.2 c hc]⟩
theorem name_parts (s : List UInt8) : name s = true ↔ (1 ≤ s.length ∧ s.length ≤ 31) ∧ ∀ q ∈ pieces s, nameQ q = true := by
  simp [name, and_assoc]
theorem pat_parts (s : List UInt8) : pat s = true ↔ (1 ≤ s.length ∧ s.length ≤ 31) ∧ ∀ q ∈ pieces s, patQ q = true := by
  simp [pat, and_assoc]
theorem name_pat (s : List UInt8) (h : name s = true) : pat s = true := by
  rw [name_parts] at h; rw [pat_parts]
  exact ⟨h.1, fun q hq => nameQ_patQ q (h.2 q hq)⟩
theorem nameQ_ne (q : List UInt8) (h : nameQ q = true) : q ≠ [] := by rintro rfl; simp [nameQ, qual] at h
theorem patQ_ne (q : List UInt8) (h : patQ q = true) : q ≠ [] := by rintro rfl; simp [patQ, qual] at h
theorem nameQ_nostar (q : List UInt8) (h : nameQ q = true) : 42 ∉ q := fun hm => (pl_bd _ (nameQ_pl q h _ hm)).2.2 rfl
theorem nameQ_nodot (q : List UInt8) (h : nameQ q = true) : 46 ∉ q := fun hm => (pl_bd _ (nameQ_pl q h _ hm)).2.1 rfl
theorem patQ_nodot (q : List UInt8) (h : patQ q = true) : 46 ∉ q := fun hm => (pls_bd _ (patQ_pls q h _ hm)).2 rfl
theorem nameQ_ne2 (q : List UInt8) (h : nameQ q = true) : q ≠ [42, 42] := by rintro rfl; exact nameQ_nostar _ h (by simp)
/-! the key of a pattern -/
theorem keyQ_nodot (q : List UInt8) (h : 46 ∉ q) : 46 ∉ keyQ q := by
  unfold keyQ
  split
  · simp
  · intro hm
    rw [List.mem_map] at hm
    obtain ⟨c, hc, e⟩ := hm
    split at e
    · simp at e
    · subst e; exact h hc
theorem pieces_key (p : List UInt8) : pieces (key p) = (pieces p).map keyQ := by
  unfold key
  refine pieces_joined _ (by simp [pieces_ne]) ?_
  intro q hq
  rw [List.mem_map] at hq
  obtain ⟨r, hr, rfl⟩ := hq
  exact keyQ_nodot r (pieces_nodot p r hr)
theorem k254 (c d : UInt8) (hc : c.toNat ≤ 90) (hd : d.toNat ≤ 90) (h : (if c = 42 then 254 else c) = (if d = 42 then (254 : UInt8) else d)) : c = d := by
  split at h <;> split at h
  · rename_i a b; rw [a, b]
  · subst h; simp at hd
  · subst h; simp at hc
  · exact h
theorem map_inj (q r : List UInt8) (hq : ∀ c ∈ q, c.toNat ≤ 90) (hr : ∀ c ∈ r, c.toNat ≤ 90) (h : (q.map fun c => if c = 42 then (254 : UInt8) else c) = r.map fun c => if c = 42 then 254 else c) : q = r := by
  induction q generalizing r with
  | nil => cases r <;> simp at h ⊢
  | cons c q ih =>
    cases r with
    | nil => simp at h
    | cons d r =>
      simp only [List.map_cons, List.cons.injEq] at h
      rw [k254 c d (hq c (by simp)) (hr d (by simp)) h.1, ih r (fun c hc => hq c (by simp [hc])) (fun c hc => hr c (by simp [hc])) h.2]
theorem keyQ_inj (q r : List UInt8) (hq : patQ q = true) (hr : patQ r = true) (h : keyQ q = keyQ r) : q = r := by
  have bq : ∀ c ∈ q, c.toNat ≤ 90 := fun c hc => (pls_bd c (patQ_pls q hq c hc)).1
  have br : ∀ c ∈ r, c.toNat ≤ 90 := fun c hc => (pls_bd c (patQ_pls r hr c hc)).1
  have no : ∀ s : List UInt8, (∀ c ∈ s, c.toNat ≤ 90) → (s.map fun c => if c = 42 then (254 : UInt8) else c) ≠ [255] := by
    intro s hs e
    have : (255 : UInt8) ∈ s.map fun c => if c = 42 then (254 : UInt8) else c := by rw [e]; simp
    rw [List.mem_map] at this
    obtain ⟨c, hc, e⟩ := this
    split at e
    · simp at e
    · subst e; have := hs _ hc; simp at this
  unfold keyQ at h
  split at h <;> split at h
  · rename_i a b; rw [a, b]
  · exact absurd h.symm (no r br)
  · exact absurd h (no q bq)
  · exact map_inj q r bq br h
theorem map_keyQ_inj : ∀ (P Q : List (List UInt8)), (∀ q ∈ P, patQ q = true) → (∀ q ∈ Q, patQ q = true) → P.map keyQ = Q.map keyQ → P = Q
  | [], [], _, _, _ => rfl
  | [], _ :: _, _, _, h => by simp at h
  | _ :: _, [], _, _, h => by simp at h
  | a :: P, b :: Q, hP, hQ, h => by
    simp only [List.map_cons, List.cons.injEq] at h
    rw [keyQ_inj a b (hP a (by simp)) (hQ b (by simp)) h.1, map_keyQ_inj P Q (fun q hq => hP q (by simp [hq])) (fun q hq => hQ q (by simp [hq])) h.2]
theorem key_inj (a b : List UInt8) (ha : pat a = true) (hb : pat b = true) (h : key a = key b) : a = b := by
  rw [pat_parts] at ha hb
  have h' := congrArg pieces h
  rw [pieces_key, pieces_key] at h'
  rw [← join_pieces a, ← join_pieces b, map_keyQ_inj _ _ ha.2 hb.2 h']
/-- the reference's order -/
theorem order_ref (a b : List UInt8) : (if pat a = true ∧ pat b = true ∧ a ≠ b then (if compareBytes (key a) (key b) < 0 then -1 else 1) else 0) = order a b := by
  unfold order
  by_cases ha : pat a = true
  · by_cases hb : pat b = true
    · rw [ha, hb]
      by_cases e : a = b
      · subst e; simp [cmp_self]
      · have hk : compareBytes (key a) (key b) ≠ 0 := fun h => e (key_inj a b ha hb ((cmp_zero _ _).1 h))
        rcases cmp_val (key a) (key b) with h | h | h
        · simp [h, e]
        · exact absurd h hk
        · simp [h, e]
    · simp [hb]
  · simp [ha]
/-! names match themselves alone -/
theorem mt_eq {α : Type} [DecidableEq α] (star : α → Bool) (one : α → α → Bool) : ∀ (p l : List α), (∀ a ∈ p, star a = false) → (∀ a ∈ p, ∀ b, one a b = decide (a = b)) → mt star one p l = decide (p = l)
  | [], [], _, _ => by simp [mt]
  | [], _ :: _, _, _ => by simp [mt]
  | a :: p, [], h, _ => by simp [mt, h a (by simp)]
  | a :: p, b :: l, h, ho => by
    rw [mt, h a (by simp), ho a (by simp) b, mt_eq star one p l (fun a ha => h a (by simp [ha])) (fun a ha => ho a (by simp [ha]))]
    rw [Bool.eq_iff_iff]; simp
theorem mtQ_eq (q s : List UInt8) (h : 42 ∉ q) : mtQ q s = decide (q = s) :=
  mt_eq _ _ q s (fun a ha => by simp; rintro rfl; exact h ha) (fun _ _ _ => rfl)
theorem mtP_eq (P L : List (List UInt8)) (h : ∀ q ∈ P, nameQ q = true) : mtP P L = decide (P = L) :=
  mt_eq _ _ P L (fun q hq => by simpa using nameQ_ne2 q (h q hq)) (fun q hq s => mtQ_eq q s (nameQ_nostar q (h q hq)))
theorem match_self (a b : List UInt8) (ha : name a = true) (hb : name b = true) : match_ a b = decide (a = b) := by
  unfold match_
  rw [name_pat a ha, hb, mtP_eq _ _ ((name_parts a).1 ha).2, Bool.eq_iff_iff]
  simp only [Bool.true_and, decide_eq_true_eq]
  constructor
  · intro h; rw [← join_pieces a, ← join_pieces b, h]
  · rintro rfl; rfl
theorem match_all (a : List UInt8) (ha : name a = true) : match_ [42, 42] a = true := by
  unfold match_
  rw [ha]
  have : mtP (pieces [42, 42]) (pieces a) = true := (mt_iff _ _ _ _).2 (M_star _ (by simp) _)
  rw [this]; decide
/-! a part of a pattern is replaced -/
theorem M_set {α β : Type} {star : α → Bool} {one : α → β → Bool} {P L} (h : M star one P L) : ∀ (k : Nat) (hk : k < P.length) (x : α), star P[k] = false → star x = false → (∀ b, one P[k] b = true → one x b = true) → M star one (P.set k x) L := by
  induction h with
  | nil => intro k hk; simp at hk
  | @skip a p l h1 _ ih =>
    intro k hk x h2 h3 h4
    cases k with
    | zero => rw [List.getElem_cons_zero, h1] at h2; cases h2
    | succ k => exact .skip h1 (ih k (by simpa using hk) x h2 h3 h4)
  | @eat a p b l h1 _ ih =>
    intro k hk x h2 h3 h4
    cases k with
    | zero => rw [List.getElem_cons_zero, h1] at h2; cases h2
    | succ k => exact .eat h1 (ih (k + 1) hk x h2 h3 h4)
  | @one a p b l h1 h2 h3 ih =>
    intro k hk x h4 h5 h6
    cases k with
    | zero => exact .one h5 (h6 b h2) h3
    | succ k => exact .one h1 h2 (ih k (by simpa using hk) x h4 h5 h6)
theorem mtQ_star (b : List UInt8) : mtQ [42] b = true := (mt_iff _ _ _ _).2 (M_star _ (by simp) _)
theorem mtQ_part (w b : List UInt8) (i j : Nat) (hij : i ≤ j) (h : mtQ w b = true) : mtQ (w.take i ++ 42 :: w.drop j) b = true := by
  have h' := (mt_iff _ _ _ _).1 h
  rw [← List.take_append_drop i w, show w.drop i = (w.drop i).take (j - i) ++ w.drop j by
    conv => lhs; rw [← List.take_append_drop (j - i) (w.drop i)]
    rw [List.drop_drop, Nat.add_sub_cancel' hij]] at h'
  obtain ⟨l1, l2, rfl, h1, h2⟩ := M_split _ _ _ h'
  obtain ⟨l3, l4, rfl, h3, h4⟩ := M_split _ _ _ h2
  refine (mt_iff _ _ _ _).2 (M_append h1 ?_)
  exact M_append (p := [42]) (M_star 42 (by simp) l3) h4
theorem join_set (x : List UInt8) : ∀ (L : List (List UInt8)) (k : Nat) (hk : k < L.length), x.length ≤ L[k].length → (Lib.join (L.set k x) [46]).length ≤ (Lib.join L [46]).length
  | [], k, hk, _ => by simp at hk
  | [a], k, hk, h => by
    have : k = 0 := by simpa using hk
    subst this
    simpa [Lib.join_one] using h
  | a :: b :: r, 0, hk, h => by
    rw [List.getElem_cons_zero] at h
    rw [List.set_cons_zero, join_cons2, join_cons2]
    simp only [List.length_append]; omega
  | a :: b :: r, k + 1, hk, h => by
    have := join_set x (b :: r) k (by simpa using hk) h
    rw [List.set_cons_succ, join_cons2]
    cases e : (b :: r).set k x with
    | nil => have := congrArg List.length e; simp at this
    | cons c s =>
      rw [e] at this
      rw [join_cons2]
      simp only [List.length_append]; omega
theorem join_len_pos (L : List (List UInt8)) (h : L ≠ []) (hq : ∀ q ∈ L, q ≠ []) : 1 ≤ (Lib.join L [46]).length := by
  cases L with
  | nil => exact absurd rfl h
  | cons a r =>
    have ha := hq a (by simp)
    have : 1 ≤ a.length := by cases a with | nil => exact absurd rfl ha | cons _ _ => simp
    cases r with
    | nil => rw [Lib.join_one]; exact this
    | cons b r => rw [join_cons2]; simp only [List.length_append]; omega
theorem set_pieces (p x : List UInt8) (k : Nat) (hx : 46 ∉ x) : pieces (Lib.join ((pieces p).set k x) [46]) = (pieces p).set k x := by
  refine pieces_joined _ ?_ ?_
  · intro e
    have := congrArg List.length e
    have h2 := pieces_ne p
    rw [List.length_set] at this
    exact h2 (List.eq_nil_of_length_eq_zero (by simpa using this))
  · intro q hq
    rcases List.mem_or_eq_of_mem_set hq with h | rfl
    · exact pieces_nodot p q h
    · exact hx
theorem match_parts (p s : List UInt8) : match_ p s = true ↔ pat p = true ∧ name s = true ∧ mtP (pieces p) (pieces s) = true := by
  simp [match_, and_assoc]
/-- a qualifier of a pattern becomes a star -/
theorem star_whole (p s : List UInt8) (k : Nat) (hk : k < (pieces p).length) (h : match_ p s = true) (hs : (pieces p)[k] ≠ [42, 42]) : match_ (Lib.join ((pieces p).set k [42]) [46]) s = true := by
  rw [match_parts] at h ⊢
  obtain ⟨h1, h2, h3⟩ := h
  have hp := (pat_parts p).1 h1
  have hset : ∀ q ∈ (pieces p).set k [42], patQ q = true := by
    intro q hq
    rcases List.mem_or_eq_of_mem_set hq with h | rfl
    · exact hp.2 q h
    · decide
  have hne : (pieces p).set k [42] ≠ [] := by
    intro e
    have := congrArg List.length e
    rw [List.length_set] at this
    simp at this; exact pieces_ne p this
  refine ⟨?_, h2, ?_⟩
  · rw [pat_parts, set_pieces p [42] k (by simp)]
    refine ⟨⟨join_len_pos _ hne (fun q hq => patQ_ne q (hset q hq)), ?_⟩, hset⟩
    have hl := join_set [42] (pieces p) k hk (by
      have := patQ_ne _ (hp.2 _ (List.getElem_mem hk))
      cases e : (pieces p)[k] with
      | nil => exact absurd e this
      | cons _ _ => simp)
    rw [join_pieces] at hl
    omega
  · rw [set_pieces p [42] k (by simp)]
    exact (mt_iff _ _ _ _).2 (M_set ((mt_iff _ _ _ _).1 h3) k hk [42] (by simpa using hs) (by simp) (fun b _ => mtQ_star b))
/-- a part of a qualifier becomes a star -/
theorem star_part (p s : List UInt8) (k i j : Nat) (hk : k < (pieces p).length) (hij : i ≤ j) (h : match_ p s = true) (hs : (pieces p)[k] ≠ [42, 42])
    (hp : pat (Lib.join ((pieces p).set k ((pieces p)[k].take i ++ 42 :: (pieces p)[k].drop j)) [46]) = true) (hn : (pieces p)[k].take i ++ 42 :: (pieces p)[k].drop j ≠ [42, 42]) :
    match_ (Lib.join ((pieces p).set k ((pieces p)[k].take i ++ 42 :: (pieces p)[k].drop j)) [46]) s = true := by
  rw [match_parts] at h ⊢
  obtain ⟨h1, h2, h3⟩ := h
  refine ⟨hp, h2, ?_⟩
  have hd := pieces_nodot p _ (List.getElem_mem hk)
  have hnd : 46 ∉ (pieces p)[k].take i ++ 42 :: (pieces p)[k].drop j := by
    rw [List.mem_append, List.mem_cons]
    rintro (h | h | h)
    · exact hd (List.mem_of_mem_take h)
    · simp at h
    · exact hd (List.mem_of_mem_drop h)
  rw [set_pieces p _ k hnd]
  exact (mt_iff _ _ _ _).2 (M_set ((mt_iff _ _ _ _).1 h3) k hk _ (by simpa using hs) (by simpa using hn) (fun b hb => mtQ_part _ b i j hij hb))
end Go.Proofs.YtdfdjfnfmibpjaaGreatDoor.Ds

end
section
/- Laws of names in plain words: a name stands before the patterns that it matches; patterns below; generations; parts. -/
namespace Go.Proofs.YtdfdjfnfmibpjaaGreatDoor.Ds
open Lib (compareBytes)
/-- the parts behind full stops -/
def tj : List (List UInt8) → List UInt8
  | [] => []
  | x :: r => 46 :: (x ++ tj r)
theorem tj_join (L : List (List UInt8)) (h : L ≠ []) : tj L = 46 :: Lib.join L [46] := by
  induction L with
  | nil => exact absurd rfl h
  | cons a r ih =>
    cases r with
    | nil => simp [tj, Lib.join_one]
    | cons b r => rw [tj, ih (by simp), join_cons2]; simp
/-- a rest: nothing, or a full stop first -/
def Rest (R : List UInt8) : Prop := R = [] ∨ ∃ r, R = 46 :: r
theorem tj_rest (L : List (List UInt8)) : Rest (tj L) := by
  cases L with
  | nil => exact .inl rfl
  | cons a r => exact .inr ⟨_, rfl⟩
def k1 (c : UInt8) : UInt8 := if c = 42 then 254 else c
theorem lt254 (c : UInt8) (h : c.toNat ≤ 90) : c < 254 := UInt8.lt_iff_toNat_lt.2 (by show c.toNat < 254; omega)
theorem lt255 (c : UInt8) (h : c.toNat ≤ 90) : c < 255 := UInt8.lt_iff_toNat_lt.2 (by show c.toNat < 255; omega)
theorem low_lt (s R : List UInt8) (hs : ∀ c ∈ s, c.toNat ≤ 90) (hR : Rest R) (m : UInt8) (hm : ∀ c : UInt8, c.toNat ≤ 90 → c < m) (T : List UInt8) : compareBytes (s ++ R) (m :: T) = -1 := by
  cases s with
  | cons c s => rw [List.cons_append]; exact cmp_lt _ _ _ _ (hm c (hs c (by simp)))
  | nil =>
    rcases hR with rfl | ⟨r, rfl⟩
    · rfl
    · exact cmp_lt _ _ _ _ (hm 46 (by simp))
theorem lexQ {q s : List UInt8} (h : M (fun c : UInt8 => decide (c = 42)) (fun c d => decide (c = d)) q s) (hs : ∀ c ∈ s, c.toNat ≤ 90) (R R' : List UInt8) (hR : Rest R) :
    (q = s ∧ q.map k1 = s) ∨ compareBytes (s ++ R) (q.map k1 ++ R') = -1 := by
  induction h with
  | nil => exact .inl ⟨rfl, rfl⟩
  | @skip a p l h1 _ ih =>
    have : a = 42 := by simpa using h1
    subst this
    exact .inr (low_lt _ _ hs hR 254 lt254 _)
  | @eat a p b l h1 _ ih =>
    have : a = 42 := by simpa using h1
    subst this
    exact .inr (low_lt _ _ hs hR 254 lt254 _)
  | @one a p b l h1 h2 _ ih =>
    have e : a = b := by simpa using h2
    subst e
    have h1' : ¬ a = 42 := by simpa using h1
    rcases ih (fun c hc => hs c (by simp [hc])) with ⟨e, e'⟩ | h
    · refine .inl ⟨by rw [e], ?_⟩
      rw [List.map_cons, e', k1, if_neg h1']
    · refine .inr ?_
      rw [List.map_cons, k1, if_neg h1', List.cons_append, List.cons_append, cmp_cons]
      exact h
theorem keyQ_map (q : List UInt8) (h : q ≠ [42, 42]) : keyQ q = q.map k1 := by unfold keyQ; rw [if_neg h]; rfl
theorem lexP {P L : List (List UInt8)} (h : M (fun q : List UInt8 => decide (q = [42, 42])) mtQ P L) (hL : ∀ s ∈ L, ∀ c ∈ s, c.toNat ≤ 90) :
    P = L ∨ compareBytes (tj L) (tj (P.map keyQ)) = -1 := by
  induction h with
  | nil => exact .inl rfl
  | @skip a p l h1 _ ih =>
    have : a = [42, 42] := by simpa using h1
    subst this
    right
    rw [List.map_cons, tj, show keyQ [42, 42] = [255] from rfl]
    cases l with
    | nil => rfl
    | cons b l =>
      rw [tj, cmp_cons]
      exact low_lt b (tj l) (hL b (by simp)) (tj_rest l) 255 lt255 _
  | @eat a p b l h1 _ ih =>
    have : a = [42, 42] := by simpa using h1
    subst this
    right
    rw [List.map_cons, tj, show keyQ [42, 42] = [255] from rfl, tj, cmp_cons]
    exact low_lt b (tj l) (hL b (by simp)) (tj_rest l) 255 lt255 _
  | @one a p b l h1 h2 _ ih =>
    have h1' : ¬ a = [42, 42] := by simpa using h1
    have hq := (mt_iff _ _ _ _).1 h2
    rw [List.map_cons, tj, tj, cmp_cons, keyQ_map a h1']
    rcases lexQ hq (hL b (by simp)) (tj l) (tj (p.map keyQ)) (tj_rest l) with ⟨e, e'⟩ | h
    · rw [e', cmp_app, e]
      rcases ih (fun s hs => hL s (by simp [hs])) with h | h
      · exact .inl (by rw [h])
      · exact .inr h
    · exact .inr h
theorem name_key (a : List UInt8) (h : name a = true) : key a = a := by
  unfold key
  have : (pieces a).map keyQ = pieces a := by
    conv => rhs; rw [← List.map_id (pieces a)]
    refine List.map_congr_left fun q hq => ?_
    have hn := ((name_parts a).1 h).2 q hq
    rw [keyQ_map q (nameQ_ne2 q hn)]
    show q.map k1 = q
    conv => rhs; rw [← List.map_id q]
    refine List.map_congr_left fun c hc => ?_
    unfold k1
    rw [if_neg (pl_bd c (nameQ_pl q hn c hc)).2.2]; rfl
  rw [this, join_pieces]
/-- a name stands before every other pattern that it matches -/
theorem order_match (a b : List UInt8) (h : match_ b a = true) (ha : pat a = true) (hne : a ≠ b) : order a b = -1 := by
  obtain ⟨hb, hn, hm⟩ := (match_parts b a).1 h
  unfold order
  rw [ha, hb]
  simp only [Bool.and_self, if_true]
  have hL : ∀ s ∈ pieces a, ∀ c ∈ s, c.toNat ≤ 90 := fun s hs c hc => (pl_bd c (nameQ_pl s (((name_parts a).1 hn).2 s hs) c hc)).1
  rcases lexP ((mt_iff _ _ _ _).1 hm) hL with h | h
  · exact absurd (by rw [← join_pieces a, ← join_pieces b, h]) hne
  · rw [tj_join _ (pieces_ne a), tj_join _ (by simp [pieces_ne]), cmp_cons, join_pieces] at h
    rw [name_key a hn]; exact h
theorem order_val (a b : List UInt8) : order a b = -1 ∨ order a b = 0 ∨ order a b = 1 := by
  unfold order; split
  · exact cmp_val _ _
  · simp
theorem order_neg (a b : List UInt8) : order b a = - order a b := by
  unfold order
  rw [Bool.and_comm]
  split
  · exact cmp_neg _ _
  · rfl
theorem order_zero (a b : List UInt8) (ha : pat a = true) (hb : pat b = true) : order a b = 0 ↔ a = b := by
  unfold order
  rw [ha, hb]
  simp only [Bool.and_self, if_true]
  rw [cmp_zero]
  exact ⟨key_inj a b ha hb, fun e => by rw [e]⟩
theorem order_trans (a b c : List UInt8) (ha : pat a = true) (hb : pat b = true) (hc : pat c = true) (h : order a b ≤ 0) (k : order b c ≤ 0) : order a c ≤ 0 := by
  unfold order at *
  rw [ha, hb] at h
  rw [hb, hc] at k
  rw [ha, hc]
  simp only [Bool.and_self, if_true] at *
  exact cmp_trans _ _ _ h k
theorem order_bad (a b : List UInt8) (h : ¬ (pat a = true ∧ pat b = true)) : order a b = 0 := by
  unfold order; rw [if_neg (by simpa [Bool.and_eq_true] using h)]
/-! below -/
theorem first_take (s : List UInt8) (n : Nat) (hs : name s = true) (h0 : 0 < n) : name (first n s) = true ∧ pieces (first n s) = (pieces s).take n := by
  have hp := (name_parts s).1 hs
  have hf : first n s = Lib.join ((pieces s).take n) [46] := by unfold first; rw [hs]; simp
  have hne : (pieces s).take n ≠ [] := by
    intro e
    rw [List.take_eq_nil_iff] at e
    rcases e with e | e
    · omega
    · exact pieces_ne s e
  have hq : ∀ q ∈ (pieces s).take n, nameQ q = true := fun q h => hp.2 q (List.mem_of_mem_take h)
  have e := pieces_joined _ hne (fun q h => nameQ_nodot q (hq q h))
  rw [hf, name_parts, e]
  have hl := join_take (pieces s) [46] n
  rw [join_pieces] at hl
  exact ⟨⟨⟨join_len_pos _ hne (fun q h => nameQ_ne q (hq q h)), by omega⟩, hq⟩, rfl⟩
theorem first_all (s : List UInt8) (hs : name s = true) : first (pieces s).length s = s := by
  unfold first; rw [hs]; simp [join_pieces]
theorem pieces_stars (p : List UInt8) : pieces (p ++ [46, 42, 42]) = pieces p ++ [[42, 42]] := pieces_dot p [42, 42]
theorem M_nil_any {α β : Type} {star : α → Bool} {one : α → β → Bool} {P : List α} (h : M star one P []) (hP : P ≠ []) (L : List β) : M star one P L := by
  generalize e : ([] : List β) = l at h
  cases h with
  | nil => exact absurd rfl hP
  | @skip a p l h1 h2 => 
    subst e
    clear hP
    have key : ∀ L : List β, M star one (a :: p) L := by
      intro L
      induction L with
      | nil => exact .skip h1 h2
      | cons b L ih => exact .eat h1 ih
    exact key L
  | eat h1 h2 => cases e
  | one h1 h2 h3 => cases e
theorem match_below (p s : List UInt8) (hp : pat p = true) (hl : p.length ≤ 28) (hs : name s = true) :
    match_ (p ++ [46, 42, 42]) s = (List.range (pieces s).length).any fun n => match_ p (first ((n : Int) + 1) s) := by
  have hps := (pat_parts p).1 hp
  rw [Bool.eq_iff_iff, match_parts, List.any_eq_true, pieces_stars]
  constructor
  · rintro ⟨_, _, h⟩
    obtain ⟨l1, l2, e, h1, h2⟩ := M_split _ _ _ ((mt_iff _ _ _ _).1 h)
    have hlen : 0 < (pieces s).length := List.length_pos_iff.2 (pieces_ne s)
    have key : ∀ n : Nat, 0 < n → n ≤ (pieces s).length → M (fun q : List UInt8 => decide (q = [42, 42])) mtQ (pieces p) ((pieces s).take n) → ∃ x, x ∈ List.range (pieces s).length ∧ match_ p (first ((x : Int) + 1) s) = true := by
      intro n h0 hn hm
      refine ⟨n - 1, by simp; omega, ?_⟩
      obtain ⟨f1, f2⟩ := first_take s n hs h0
      have en : ((n - 1 : Nat) : Int) + 1 = n := by omega
      rw [en, match_parts, f2]
      exact ⟨hp, f1, (mt_iff _ _ _ _).2 hm⟩
    cases l1 with
    | nil => exact key 1 (by omega) (by omega) (M_nil_any h1 (pieces_ne p) _)
    | cons b l1 =>
      refine key (b :: l1).length (by simp) (by rw [e]; simp) ?_
      rw [e, List.take_left']
      · exact h1
      · rfl
  · rintro ⟨n, hn, h⟩
    obtain ⟨f1, f2⟩ := first_take s (n + 1) hs (by omega)
    have en : ((n : Int) + 1) = ((n + 1 : Nat) : Int) := by omega
    rw [en, match_parts, f2] at h
    obtain ⟨_, _, h3⟩ := h
    refine ⟨?_, hs, ?_⟩
    · rw [pat_parts, pieces_stars]
      refine ⟨by simp; omega, ?_⟩
      intro q hq
      rw [List.mem_append] at hq
      rcases hq with h | h
      · exact hps.2 q h
      · simp at h; subst h; decide
    · have h4 := M_append ((mt_iff _ _ _ _).1 h3) (M_star (star := fun q : List UInt8 => decide (q = [42, 42])) (one := mtQ) [42, 42] (by simp) ((pieces s).drop (n + 1)))
      rw [List.take_append_drop] at h4
      exact (mt_iff _ _ _ _).2 h4
/-! parts -/
theorem name_dot (a b : List UInt8) : name (a ++ 46 :: b) = true ↔ ((∀ q ∈ pieces a, nameQ q = true) ∧ ∀ q ∈ pieces b, nameQ q = true) ∧ (a ++ 46 :: b).length ≤ 31 := by
  rw [name_parts, pieces_dot]
  constructor
  · rintro ⟨⟨_, h2⟩, h3⟩
    exact ⟨⟨fun q hq => h3 q (by simp [hq]), fun q hq => h3 q (by simp [hq])⟩, h2⟩
  · rintro ⟨⟨h1, h2⟩, h3⟩
    refine ⟨⟨by simp; omega, h3⟩, fun q hq => ?_⟩
    rcases List.mem_append.1 hq with h | h
    · exact h1 q h
    · exact h2 q h
theorem pieces_pos (a : List UInt8) (h : ∀ q ∈ pieces a, nameQ q = true) : 1 ≤ a.length := by
  have := join_len_pos (pieces a) (pieces_ne a) (fun q hq => nameQ_ne q (h q hq))
  rwa [join_pieces] at this
/-- two names joined -/
theorem parts_yes (a b : List UInt8) (ha : name a = true) (hb : name b = true) : name (a ++ 46 :: b) = decide ((a ++ 46 :: b).length ≤ 31) := by
  rw [Bool.eq_iff_iff, name_dot, decide_eq_true_eq]
  exact ⟨fun h => h.2, fun h => ⟨⟨((name_parts a).1 ha).2, ((name_parts b).1 hb).2⟩, h⟩⟩
theorem parts_no (a b : List UInt8) (h : ¬ (name a = true ∧ name b = true)) : name (a ++ 46 :: b) = false := by
  rw [Bool.eq_false_iff]
  intro hn
  obtain ⟨⟨h1, h2⟩, h3⟩ := (name_dot a b).1 hn
  have pa := pieces_pos a h1
  have pb := pieces_pos b h2
  simp only [List.length_append, List.length_cons] at h3
  exact h ⟨(name_parts a).2 ⟨⟨pa, by omega⟩, h1⟩, (name_parts b).2 ⟨⟨pb, by omega⟩, h2⟩⟩
theorem name_empty : name [] = false := by decide
theorem parts_two (a b : List UInt8) : name (a ++ 46 :: 46 :: b) = false := by
  have := parts_no a (46 :: b) (by
    rintro ⟨_, h⟩
    have := parts_no [] b (by rw [name_empty]; simp)
    rw [List.nil_append] at this
    rw [this] at h; cases h)
  exact this
theorem parts_end (a : List UInt8) : name (a ++ [46]) = false := parts_no a [] (by rw [name_empty]; simp)
theorem parts_start (a : List UInt8) : name (46 :: a) = false := parts_no [] a (by rw [name_empty]; simp)
/-- lower-case letters -/
def lower (c : UInt8) : UInt8 := if up c = true then c + 32 else c
theorem lower_notup (c : UInt8) : up (lower c) = false := by
  unfold lower
  split
  · rename_i h
    simp only [up, Bool.and_eq_true, decide_eq_true_eq] at h
    have : (c + 32).toNat = c.toNat + 32 := by rw [UInt8.toNat_add]; show (c.toNat + 32) % 256 = _; omega
    simp only [up, this, Bool.and_eq_false_iff, decide_eq_false_iff_not]
    omega
  · rename_i h; simpa using h
theorem name_up (s : List UInt8) (h : name s = true) : ∃ c r, s = c :: r ∧ up c = true := by
  cases s with
  | nil => cases h
  | cons c r =>
    refine ⟨c, r, rfl, ?_⟩
    have hp := ((name_parts _).1 h).2
    simp only [pieces] at hp
    split at hp
    · have := hp [] (by simp); simp [nameQ, qual] at this
    · cases e : pieces r with
      | nil => exact absurd e (pieces_ne r)
      | cons p ps =>
        rw [e] at hp
        have := hp (c :: p) (by simp)
        simp only [nameQ, qual, Bool.and_eq_true] at this
        exact this.1.2
theorem name_lower (a : List UInt8) (ha : name a = true) : name (a.map lower) = false := by
  rw [Bool.eq_false_iff]
  intro h
  obtain ⟨c, r, e, hc⟩ := name_up _ h
  cases a with
  | nil => simp at e
  | cons d a =>
    simp only [List.map_cons, List.cons.injEq] at e
    rw [← e.1, lower_notup] at hc; cases hc
/-! generations -/
def gq (n : Nat) : List UInt8 := 71 :: (Cal.ld n 4 ++ [86, 48, 48])
def genName (g : List UInt8) (n : Nat) : List UInt8 := g ++ 46 :: gq n
theorem ld_dg (n j : Nat) : ∀ c ∈ Cal.ld n j, dg c = true := by
  induction j with
  | zero => simp [Cal.ld]
  | succ j ih =>
    intro c hc
    rw [Cal.ld] at hc
    rcases List.mem_cons.1 hc with rfl | hc
    · have h : n / 10 ^ j % 10 < 10 := Nat.mod_lt _ (by decide)
      have : (UInt8.ofNat (48 + n / 10 ^ j % 10)).toNat = 48 + n / 10 ^ j % 10 := by rw [UInt8.toNat_ofNat']; omega
      simp only [dg, this, Bool.and_eq_true, decide_eq_true_eq]; omega
    · exact ih c hc
theorem gq_len (n : Nat) : (gq n).length = 8 := by simp [gq, Cal.ld_length]
theorem gq_name (n : Nat) : nameQ (gq n) = true := by
  unfold nameQ gq
  simp only [qual, List.length_append, Cal.ld_length, List.all_append, Bool.and_eq_true, decide_eq_true_eq, List.all_eq_true]
  refine ⟨⟨by simp, by decide⟩, fun c hc => by simp [pl, ld_dg n 4 c hc], by decide⟩
theorem ld_val (n j : Nat) (a : Nat) : (Cal.ld n j).foldl (fun n c => 10 * n + (c.toNat - 48)) a = a * 10 ^ j + n % 10 ^ j := by
  induction j generalizing a with
  | zero => simp [Cal.ld, Nat.mod_one]
  | succ j ih =>
    have h : n / 10 ^ j % 10 < 10 := Nat.mod_lt _ (by decide)
    have e : (UInt8.ofNat (48 + n / 10 ^ j % 10)).toNat - 48 = n / 10 ^ j % 10 := by rw [UInt8.toNat_ofNat']; omega
    rw [Cal.ld, List.foldl_cons, ih, e, Nat.pow_succ, Nat.mod_mul, Nat.add_mul]
    have : 10 * a * 10 ^ j = a * (10 ^ j * 10) := by rw [Nat.mul_comm 10 a, Nat.mul_assoc, Nat.mul_comm 10]
    rw [this, Nat.mul_comm (n / 10 ^ j % 10)]
    omega
theorem gq_num (n : Nat) (h : n ≤ 9999) : num (gq n) = n := by
  have hl := Cal.ld_length n 4
  have hm : mid (gq n) = Cal.ld n 4 := by
    unfold mid gq
    rw [List.drop_succ_cons, List.drop_zero, List.take_left' hl]
  have hd : (gq n).drop 5 = [86, 48, 48] := by
    unfold gq
    rw [List.drop_succ_cons, List.drop_left' hl]
  have hr : rest dg (mid (gq n)) 0 = true := by
    unfold rest
    rw [List.drop_zero, hm, List.all_eq_true]; exact ld_dg n 4
  unfold num
  rw [if_pos ⟨gq_len n, rfl, hd, hr⟩]
  unfold nv
  rw [hm, List.take_of_length_le (by omega), ld_val]
  simp; omega
theorem gen_pieces (g : List UInt8) (n : Nat) : pieces (genName g n) = pieces g ++ [gq n] := by
  unfold genName
  rw [pieces_dot, pieces_plain (gq n) (nameQ_nodot _ (gq_name n))]
theorem group_parts (g : List UInt8) : group g = true ↔ name g = true ∧ g.length ≤ 22 ∧ ∀ q ∈ pieces g, num q = 0 := by
  simp [group, and_assoc]
theorem gen_name (g : List UInt8) (n : Nat) (h : group g = true) : name (genName g n) = true := by
  obtain ⟨h1, h2, _⟩ := (group_parts g).1 h
  have hp := (name_parts g).1 h1
  rw [name_parts, gen_pieces]
  refine ⟨by unfold genName; rw [List.length_append, List.length_cons, gq_len]; omega, fun q hq => ?_⟩
  rcases List.mem_append.1 hq with h | h
  · exact hp.2 q h
  · simp at h; subst h; exact gq_name n
theorem gen_nogroup (g : List UInt8) (n : Nat) (h0 : 0 < n) (h : n ≤ 9999) : group (genName g n) = false := by
  rw [Bool.eq_false_iff]
  intro hg
  have := ((group_parts _).1 hg).2.2 (gq n) (by rw [gen_pieces]; simp)
  rw [gq_num n h] at this; omega
theorem gen_front (g : List UInt8) (n : Nat) : front (genName g n) = g := by
  unfold front
  rw [gen_pieces, List.dropLast_concat, join_pieces]
theorem gen_last (g : List UInt8) (n : Nat) : last (genName g n) = gq n := by
  unfold last
  rw [gen_pieces]; simp
theorem gen_gen (g : List UInt8) (n : Nat) (h : group g = true) (h0 : 0 < n) (h9 : n ≤ 9999) : gen (genName g n) = true := by
  unfold gen
  rw [gen_front, gen_last, gq_num n h9, h]
  simp; omega
theorem gen_match (g : List UInt8) (n : Nat) (h : group g = true) : match_ (g ++ [46, 71, 42, 86, 48, 48]) (genName g n) = true := by
  obtain ⟨h1, h2, _⟩ := (group_parts g).1 h
  have hp := (name_parts g).1 h1
  have e : pieces (g ++ [46, 71, 42, 86, 48, 48]) = pieces g ++ [[71, 42, 86, 48, 48]] := pieces_dot g [71, 42, 86, 48, 48]
  rw [match_parts]
  refine ⟨?_, gen_name g n h, ?_⟩
  · rw [pat_parts, e]
    refine ⟨by simp; omega, fun q hq => ?_⟩
    rcases List.mem_append.1 hq with h | h
    · exact nameQ_patQ q (hp.2 q h)
    · simp at h; subst h; decide
  · rw [e, gen_pieces]
    refine (mt_iff _ _ _ _).2 (M_append ((mt_iff _ _ _ _).1 (?_ : mtP (pieces g) (pieces g) = true)) (.one (by decide) ?_ .nil))
    · rw [mtP_eq _ _ hp.2]; simp
    · refine (mt_iff _ _ _ _).2 (.one (by decide) (by decide) ?_)
      refine M_append (p := [42]) (p' := [86, 48, 48]) (M_star 42 (by decide) (Cal.ld n 4)) ?_
      exact .one (by decide) (by decide) (.one (by decide) (by decide) (.one (by decide) (by decide) .nil))
theorem ld_cmp (n m j : Nat) (t : List UInt8) : compareBytes (Cal.ld n j ++ t) (Cal.ld m j ++ t) = if n % 10 ^ j < m % 10 ^ j then -1 else if m % 10 ^ j < n % 10 ^ j then 1 else 0 := by
  induction j with
  | zero => simp [Cal.ld, cmp_self, Nat.mod_one]
  | succ j ih =>
    have dn : n / 10 ^ j % 10 < 10 := Nat.mod_lt _ (by decide)
    have dm : m / 10 ^ j % 10 < 10 := Nat.mod_lt _ (by decide)
    have en : (UInt8.ofNat (48 + n / 10 ^ j % 10)).toNat = 48 + n / 10 ^ j % 10 := by rw [UInt8.toNat_ofNat']; omega
    have em : (UInt8.ofNat (48 + m / 10 ^ j % 10)).toNat = 48 + m / 10 ^ j % 10 := by rw [UInt8.toNat_ofNat']; omega
    have pp : 0 < 10 ^ j := Nat.pow_pos (by decide)
    have rn : n % 10 ^ j < 10 ^ j := Nat.mod_lt _ pp
    have rm : m % 10 ^ j < 10 ^ j := Nat.mod_lt _ pp
    have sn : n % 10 ^ (j + 1) = n % 10 ^ j + 10 ^ j * (n / 10 ^ j % 10) := by rw [Nat.pow_succ, Nat.mod_mul]
    have sm : m % 10 ^ (j + 1) = m % 10 ^ j + 10 ^ j * (m / 10 ^ j % 10) := by rw [Nat.pow_succ, Nat.mod_mul]
    rw [sn, sm, Cal.ld, Cal.ld, List.cons_append, List.cons_append]
    generalize n / 10 ^ j % 10 = d at *
    generalize m / 10 ^ j % 10 = e at *
    rcases Nat.lt_trichotomy d e with h | h | h
    · rw [cmp_lt _ _ _ _ (UInt8.lt_iff_toNat_lt.2 (by rw [en, em]; omega)), if_pos]
      have : 10 ^ j * (d + 1) ≤ 10 ^ j * e := Nat.mul_le_mul_left _ h
      rw [Nat.mul_add, Nat.mul_one] at this; omega
    · subst h
      rw [cmp_cons, ih]
      simp only [Nat.add_lt_add_iff_right]
    · have : 10 ^ j * (e + 1) ≤ 10 ^ j * d := Nat.mul_le_mul_left _ h
      rw [Nat.mul_add, Nat.mul_one] at this
      rw [cmp_gt _ _ _ _ (UInt8.lt_iff_toNat_lt.2 (by rw [en, em]; omega)), if_neg (by omega), if_pos (by omega)]
theorem gen_cmp (g : List UInt8) (n m : Nat) (hn : n ≤ 9999) (hm : m ≤ 9999) : compareBytes (genName g n) (genName g m) = if n < m then -1 else if m < n then 1 else 0 := by
  unfold genName gq
  rw [cmp_app, cmp_cons, cmp_cons, ld_cmp]
  rw [Nat.mod_eq_of_lt (show n < 10 ^ 4 by omega), Nat.mod_eq_of_lt (show m < 10 ^ 4 by omega)]
theorem gen_inj (g : List UInt8) (n m : Nat) (hn : n ≤ 9999) (hm : m ≤ 9999) : genName g n = genName g m ↔ n = m := by
  rw [← cmp_zero, gen_cmp g n m hn hm]
  split
  · simp; omega
  · split
    · simp; omega
    · simp; omega
end Go.Proofs.YtdfdjfnfmibpjaaGreatDoor.Ds

end
