/- Laws of names in plain words: order, matching, pieces. No program in sight. -/
import Derived.Test.YtdboejjognfmfaaDoorDsN
import Derived.Test.YtdboejjognfmfaaDoorCal
namespace Go.Proofs.YtdboejjognfmfaaDoor.Ds
open Lib (compareBytes)
theorem cmp_cons (x : UInt8) (a b : List UInt8) : compareBytes (x :: a) (x :: b) = compareBytes a b := by
  rw [compareBytes]; simp [UInt8.lt_irrefl]
theorem cmp_self (a : List UInt8) : compareBytes a a = 0 := by
  induction a with
  | nil => rfl
  | cons x a ih => rw [cmp_cons, ih]
theorem cmp_app (p a b : List UInt8) : compareBytes (p ++ a) (p ++ b) = compareBytes a b := by
  induction p with
  | nil => rfl
  | cons x p ih => rw [List.cons_append, List.cons_append, cmp_cons, ih]
theorem u8_tri (x y : UInt8) : x < y ∨ x = y ∨ y < x := by
  rcases Nat.lt_trichotomy x.toNat y.toNat with h | h | h
  · exact .inl (UInt8.lt_iff_toNat_lt.2 h)
  · exact .inr (.inl (UInt8.toNat_inj.1 h))
  · exact .inr (.inr (UInt8.lt_iff_toNat_lt.2 h))
theorem cmp_lt (x y : UInt8) (a b : List UInt8) (h : x < y) : compareBytes (x :: a) (y :: b) = -1 := by rw [compareBytes]; simp [h]
theorem cmp_gt (x y : UInt8) (a b : List UInt8) (h : y < x) : compareBytes (x :: a) (y :: b) = 1 := by
  have : ¬ x < y := fun h' => absurd (UInt8.lt_trans h h') (UInt8.lt_irrefl y)
  rw [compareBytes]; simp [h, this]
theorem cmp_val : ∀ a b : List UInt8, compareBytes a b = -1 ∨ compareBytes a b = 0 ∨ compareBytes a b = 1
  | [], [] => by simp [compareBytes]
  | [], _ :: _ => by simp [compareBytes]
  | _ :: _, [] => by simp [compareBytes]
  | x :: a, y :: b => by
    rcases u8_tri x y with h | h | h
    · rw [cmp_lt _ _ _ _ h]; simp
    · subst h; rw [cmp_cons]; exact cmp_val a b
    · rw [cmp_gt _ _ _ _ h]; simp
theorem cmp_zero : ∀ a b : List UInt8, compareBytes a b = 0 ↔ a = b
  | [], [] => by simp [compareBytes]
  | [], _ :: _ => by simp [compareBytes]
  | _ :: _, [] => by simp [compareBytes]
  | x :: a, y :: b => by
    rcases u8_tri x y with h | h | h
    · rw [cmp_lt _ _ _ _ h]
      have : x ≠ y := fun e => UInt8.lt_irrefl y (e ▸ h)
      simp [this]
    · subst h; rw [cmp_cons, cmp_zero a b]; simp
    · rw [cmp_gt _ _ _ _ h]
      have : x ≠ y := fun e => UInt8.lt_irrefl y (e ▸ h)
      simp [this]
theorem cmp_neg : ∀ a b : List UInt8, compareBytes b a = - compareBytes a b
  | [], [] => by simp [compareBytes]
  | [], _ :: _ => by simp [compareBytes]
  | _ :: _, [] => by simp [compareBytes]
  | x :: a, y :: b => by
    rcases u8_tri x y with h | h | h
    · rw [cmp_lt _ _ _ _ h, cmp_gt _ _ _ _ h]; rfl
    · subst h; rw [cmp_cons, cmp_cons, cmp_neg a b]
    · rw [cmp_lt _ _ _ _ h, cmp_gt _ _ _ _ h]
theorem cmp_trans : ∀ a b c : List UInt8, compareBytes a b ≤ 0 → compareBytes b c ≤ 0 → compareBytes a c ≤ 0
  | [], b, [], _, _ => by simp [compareBytes]
  | [], b, _ :: _, _, _ => by simp [compareBytes]
  | _ :: _, [], c, h, _ => by simp [compareBytes] at h
  | _ :: _, _ :: _, [], _, h => by simp [compareBytes] at h
  | x :: a, y :: b, z :: c, h, k => by
    rcases u8_tri x y with h1 | h1 | h1
    · rcases u8_tri y z with h2 | h2 | h2
      · rw [cmp_lt _ _ _ _ (UInt8.lt_trans h1 h2)]; simp
      · subst h2; rw [cmp_lt _ _ _ _ h1]; simp
      · rw [cmp_gt _ _ _ _ h2] at k; simp at k
    · subst h1
      rcases u8_tri x z with h2 | h2 | h2
      · rw [cmp_lt _ _ _ _ h2]; simp
      · subst h2; rw [cmp_cons] at h k ⊢; exact cmp_trans a b c h k
      · rw [cmp_gt _ _ _ _ h2] at k; simp at k
    · rw [cmp_gt _ _ _ _ h1] at h; simp at h
/-! pieces -/
theorem pieces_dot (a b : List UInt8) : pieces (a ++ 46 :: b) = pieces a ++ pieces b := by
  induction a with
  | nil => simp [pieces]
  | cons c r ih =>
    simp only [List.cons_append, pieces, ih]
    split
    · rfl
    · cases e : pieces r with
      | nil => exact absurd e (pieces_ne r)
      | cons p ps => simp
theorem pieces_plain (q : List UInt8) (h : 46 ∉ q) : pieces q = [q] := by
  induction q with
  | nil => rfl
  | cons c r ih =>
    simp only [List.mem_cons, not_or] at h
    rw [pieces, if_neg (fun e => h.1 e.symm), ih h.2]
theorem pieces_nodot (s : List UInt8) : ∀ q ∈ pieces s, 46 ∉ q := by
  induction s with
  | nil => simp [pieces]
  | cons c r ih =>
    intro q hq
    simp only [pieces] at hq
    split at hq
    · rcases List.mem_cons.1 hq with rfl | hq
      · simp
      · exact ih q hq
    · rename_i hc
      cases e : pieces r with
      | nil => exact absurd e (pieces_ne r)
      | cons p ps =>
        rw [e] at hq ih
        simp only at hq
        rcases List.mem_cons.1 hq with rfl | hq
        · simp only [List.mem_cons, not_or]
          exact ⟨fun h => hc h.symm, ih p (by simp)⟩
        · exact ih q (by simp [hq])
theorem pieces_joined (L : List (List UInt8)) (h : L ≠ []) (hq : ∀ q ∈ L, 46 ∉ q) : pieces (Lib.join L [46]) = L := by
  induction L with
  | nil => exact absurd rfl h
  | cons a r ih =>
    cases r with
    | nil => rw [Lib.join_one, pieces_plain a (hq a (by simp))]
    | cons b r =>
      rw [join_cons2, List.append_assoc, List.singleton_append, pieces_dot, pieces_plain a (hq a (by simp)), ih (by simp) (fun q h => hq q (by simp [h]))]
      rfl
/-! bytes of names and patterns -/
theorem pl_bd (c : UInt8) (h : pl c = true) : c.toNat ≤ 90 ∧ c ≠ 46 ∧ c ≠ 42 := by
  simp only [pl, up, dg, Bool.or_eq_true, Bool.and_eq_true, decide_eq_true_eq] at h
  exact ⟨by omega, fun e => by subst e; simp at h, fun e => by subst e; simp at h⟩
theorem up_pl (c : UInt8) (h : up c = true) : pl c = true := by simp [pl, h]
theorem pls_bd (c : UInt8) (h : pls c = true) : c.toNat ≤ 90 ∧ c ≠ 46 := by
  simp only [pls, pl, up, dg, Bool.or_eq_true, Bool.and_eq_true, decide_eq_true_eq] at h
  exact ⟨by omega, fun e => by subst e; simp at h⟩
theorem ups_pls (c : UInt8) (h : ups c = true) : pls c = true := by
  simp only [ups, Bool.or_eq_true] at h
  rcases h with h | h <;> simp [pls, pl, h]
theorem qual_all (F G : UInt8 → Bool) (hFG : ∀ c, F c = true → G c = true) (q : List UInt8) (h : qual F G q = true) : ∀ c ∈ q, G c = true := by
  cases q with
  | nil => simp
  | cons x r =>
    simp only [qual, Bool.and_eq_true, decide_eq_true_eq, List.all_eq_true] at h
    intro c hc
    rcases List.mem_cons.1 hc with rfl | hc
    · exact hFG _ h.1.2
    · exact h.2 c hc
theorem nameQ_pl (q : List UInt8) (h : nameQ q = true) : ∀ c ∈ q, pl c = true := qual_all up pl up_pl q h
theorem patQ_pls (q : List UInt8) (h : patQ q = true) : ∀ c ∈ q, pls c = true := by
  unfold patQ at h
  simp only [Bool.or_eq_true, Bool.and_eq_true, decide_eq_true_eq] at h
  rcases h with rfl | h
  · intro c hc; simp at hc; subst hc; rfl
  · exact qual_all ups pls ups_pls q h.1
theorem nameQ_patQ (q : List UInt8) (h : nameQ q = true) : patQ q = true := by
  have hp := nameQ_pl q h
  have hs : ss q = false := by
    rw [Bool.eq_false_iff]
    intro e
    obtain ⟨j, h1, h2, _⟩ := (ss_iff q).1 e
    have hj : j < q.length := by omega
    rw [List.getD_eq_getElem?_getD, List.getElem?_eq_getElem hj, Option.getD_some] at h2
    exact (pl_bd _ (hp _ (List.getElem_mem hj))).2.2 (UInt8.toNat_inj.1 h2)
  unfold patQ
  rw [hs]
  unfold nameQ at h
  cases q with
  | nil => simp [qual] at h
  | cons x r =>
    simp only [qual, Bool.and_eq_true, decide_eq_true_eq, List.all_eq_true] at h
    simp only [qual, Bool.not_false, Bool.and_true, Bool.or_eq_true, Bool.and_eq_true, decide_eq_true_eq, List.all_eq_true]
    exact .inr ⟨⟨h.1.1, by simp [ups, h.1.2]⟩, fun c hc => by simp [pls, h.2 c hc]⟩
theorem name_parts (s : List UInt8) : name s = true ↔ (1 ≤ s.length ∧ s.length ≤ 31) ∧ ∀ q ∈ pieces s, nameQ q = true := by
  simp [name, and_assoc]
theorem pat_parts (s : List UInt8) : pat s = true ↔ (1 ≤ s.length ∧ s.length ≤ 31) ∧ ∀ q ∈ pieces s, patQ q = true := by
  simp [pat, and_assoc]
theorem name_pat (s : List UInt8) (h : name s = true) : pat s = true := by
  rw [name_parts] at h; rw [pat_parts]
  exact ⟨h.1, fun q hq => nameQ_patQ q (h.2 q hq)⟩
theorem nameQ_ne (q : List UInt8) (h : nameQ q = true) : q ≠ [] := by rintro rfl; simp [nameQ, qual] at h
theorem patQ_ne (q : List UInt8) (h : patQ q = true) : q ≠ [] := by rintro rfl; simp [patQ, qual] at h
theorem nameQ_nostar (q : List UInt8) (h : nameQ q = true) : 42 ∉ q := fun hm => (pl_bd _ (nameQ_pl q h _ hm)).2.2 rfl
theorem nameQ_nodot (q : List UInt8) (h : nameQ q = true) : 46 ∉ q := fun hm => (pl_bd _ (nameQ_pl q h _ hm)).2.1 rfl
theorem patQ_nodot (q : List UInt8) (h : patQ q = true) : 46 ∉ q := fun hm => (pls_bd _ (patQ_pls q h _ hm)).2 rfl
theorem nameQ_ne2 (q : List UInt8) (h : nameQ q = true) : q ≠ [42, 42] := by rintro rfl; exact nameQ_nostar _ h (by simp)
/-! the key of a pattern -/
theorem keyQ_nodot (q : List UInt8) (h : 46 ∉ q) : 46 ∉ keyQ q := by
  unfold keyQ
  split
  · simp
  · intro hm
    rw [List.mem_map] at hm
    obtain ⟨c, hc, e⟩ := hm
    split at e
    · simp at e
    · subst e; exact h hc
theorem pieces_key (p : List UInt8) : pieces (key p) = (pieces p).map keyQ := by
  unfold key
  refine pieces_joined _ (by simp [pieces_ne]) ?_
  intro q hq
  rw [List.mem_map] at hq
  obtain ⟨r, hr, rfl⟩ := hq
  exact keyQ_nodot r (pieces_nodot p r hr)
theorem k254 (c d : UInt8) (hc : c.toNat ≤ 90) (hd : d.toNat ≤ 90) (h : (if c = 42 then 254 else c) = (if d = 42 then (254 : UInt8) else d)) : c = d := by
  split at h <;> split at h
  · rename_i a b; rw [a, b]
  · subst h; simp at hd
  · subst h; simp at hc
  · exact h
theorem map_inj (q r : List UInt8) (hq : ∀ c ∈ q, c.toNat ≤ 90) (hr : ∀ c ∈ r, c.toNat ≤ 90) (h : (q.map fun c => if c = 42 then (254 : UInt8) else c) = r.map fun c => if c = 42 then 254 else c) : q = r := by
  induction q generalizing r with
  | nil => cases r <;> simp at h ⊢
  | cons c q ih =>
    cases r with
    | nil => simp at h
    | cons d r =>
      simp only [List.map_cons, List.cons.injEq] at h
      rw [k254 c d (hq c (by simp)) (hr d (by simp)) h.1, ih r (fun c hc => hq c (by simp [hc])) (fun c hc => hr c (by simp [hc])) h.2]
theorem keyQ_inj (q r : List UInt8) (hq : patQ q = true) (hr : patQ r = true) (h : keyQ q = keyQ r) : q = r := by
  have bq : ∀ c ∈ q, c.toNat ≤ 90 := fun c hc => (pls_bd c (patQ_pls q hq c hc)).1
  have br : ∀ c ∈ r, c.toNat ≤ 90 := fun c hc => (pls_bd c (patQ_pls r hr c hc)).1
  have no : ∀ s : List UInt8, (∀ c ∈ s, c.toNat ≤ 90) → (s.map fun c => if c = 42 then (254 : UInt8) else c) ≠ [255] := by
    intro s hs e
    have : (255 : UInt8) ∈ s.map fun c => if c = 42 then (254 : UInt8) else c := by rw [e]; simp
    rw [List.mem_map] at this
    obtain ⟨c, hc, e⟩ := this
    split at e
    · simp at e
    · subst e; have := hs _ hc; simp at this
  unfold keyQ at h
  split at h <;> split at h
  · rename_i a b; rw [a, b]
  · exact absurd h.symm (no r br)
  · exact absurd h (no q bq)
  · exact map_inj q r bq br h
theorem map_keyQ_inj : ∀ (P Q : List (List UInt8)), (∀ q ∈ P, patQ q = true) → (∀ q ∈ Q, patQ q = true) → P.map keyQ = Q.map keyQ → P = Q
  | [], [], _, _, _ => rfl
  | [], _ :: _, _, _, h => by simp at h
  | _ :: _, [], _, _, h => by simp at h
  | a :: P, b :: Q, hP, hQ, h => by
    simp only [List.map_cons, List.cons.injEq] at h
    rw [keyQ_inj a b (hP a (by simp)) (hQ b (by simp)) h.1, map_keyQ_inj P Q (fun q hq => hP q (by simp [hq])) (fun q hq => hQ q (by simp [hq])) h.2]
theorem key_inj (a b : List UInt8) (ha : pat a = true) (hb : pat b = true) (h : key a = key b) : a = b := by
  rw [pat_parts] at ha hb
  have h' := congrArg pieces h
  rw [pieces_key, pieces_key] at h'
  rw [← join_pieces a, ← join_pieces b, map_keyQ_inj _ _ ha.2 hb.2 h']
/-- the reference's order -/
theorem order_ref (a b : List UInt8) : (if pat a = true ∧ pat b = true ∧ a ≠ b then (if compareBytes (key a) (key b) < 0 then -1 else 1) else 0) = order a b := by
  unfold order
  by_cases ha : pat a = true
  · by_cases hb : pat b = true
    · rw [ha, hb]
      by_cases e : a = b
      · subst e; simp [cmp_self]
      · have hk : compareBytes (key a) (key b) ≠ 0 := fun h => e (key_inj a b ha hb ((cmp_zero _ _).1 h))
        rcases cmp_val (key a) (key b) with h | h | h
        · simp [h, e]
        · exact absurd h hk
        · simp [h, e]
    · simp [hb]
  · simp [ha]
/-! names match themselves alone -/
theorem mt_eq {α : Type} [DecidableEq α] (star : α → Bool) (one : α → α → Bool) : ∀ (p l : List α), (∀ a ∈ p, star a = false) → (∀ a ∈ p, ∀ b, one a b = decide (a = b)) → mt star one p l = decide (p = l)
  | [], [], _, _ => by simp [mt]
  | [], _ :: _, _, _ => by simp [mt]
  | a :: p, [], h, _ => by simp [mt, h a (by simp)]
  | a :: p, b :: l, h, ho => by
    rw [mt, h a (by simp), ho a (by simp) b, mt_eq star one p l (fun a ha => h a (by simp [ha])) (fun a ha => ho a (by simp [ha]))]
    rw [Bool.eq_iff_iff]; simp
theorem mtQ_eq (q s : List UInt8) (h : 42 ∉ q) : mtQ q s = decide (q = s) :=
  mt_eq _ _ q s (fun a ha => by simp; rintro rfl; exact h ha) (fun _ _ _ => rfl)
theorem mtP_eq (P L : List (List UInt8)) (h : ∀ q ∈ P, nameQ q = true) : mtP P L = decide (P = L) :=
  mt_eq _ _ P L (fun q hq => by simpa using nameQ_ne2 q (h q hq)) (fun q hq s => mtQ_eq q s (nameQ_nostar q (h q hq)))
theorem match_self (a b : List UInt8) (ha : name a = true) (hb : name b = true) : match_ a b = decide (a = b) := by
  unfold match_
  rw [name_pat a ha, hb, mtP_eq _ _ ((name_parts a).1 ha).2, Bool.eq_iff_iff]
  simp only [Bool.true_and, decide_eq_true_eq]
  constructor
  · intro h; rw [← join_pieces a, ← join_pieces b, h]
  · rintro rfl; rfl
theorem match_all (a : List UInt8) (ha : name a = true) : match_ [42, 42] a = true := by
  unfold match_
  rw [ha]
  have : mtP (pieces [42, 42]) (pieces a) = true := (mt_iff _ _ _ _).2 (M_star _ (by simp) _)
  rw [this]; decide
/-! a part of a pattern is replaced -/
theorem M_set {α β : Type} {star : α → Bool} {one : α → β → Bool} {P L} (h : M star one P L) : ∀ (k : Nat) (hk : k < P.length) (x : α), star P[k] = false → star x = false → (∀ b, one P[k] b = true → one x b = true) → M star one (P.set k x) L := by
  induction h with
  | nil => intro k hk; simp at hk
  | @skip a p l h1 _ ih =>
    intro k hk x h2 h3 h4
    cases k with
    | zero => rw [List.getElem_cons_zero, h1] at h2; cases h2
    | succ k => exact .skip h1 (ih k (by simpa using hk) x h2 h3 h4)
  | @eat a p b l h1 _ ih =>
    intro k hk x h2 h3 h4
    cases k with
    | zero => rw [List.getElem_cons_zero, h1] at h2; cases h2
    | succ k => exact .eat h1 (ih (k + 1) hk x h2 h3 h4)
  | @one a p b l h1 h2 h3 ih =>
    intro k hk x h4 h5 h6
    cases k with
    | zero => exact .one h5 (h6 b h2) h3
    | succ k => exact .one h1 h2 (ih k (by simpa using hk) x h4 h5 h6)
theorem mtQ_star (b : List UInt8) : mtQ [42] b = true := (mt_iff _ _ _ _).2 (M_star _ (by simp) _)
theorem mtQ_part (w b : List UInt8) (i j : Nat) (hij : i ≤ j) (h : mtQ w b = true) : mtQ (w.take i ++ 42 :: w.drop j) b = true := by
  have h' := (mt_iff _ _ _ _).1 h
  rw [← List.take_append_drop i w, show w.drop i = (w.drop i).take (j - i) ++ w.drop j by
    conv => lhs; rw [← List.take_append_drop (j - i) (w.drop i)]
    rw [List.drop_drop, Nat.add_sub_cancel' hij]] at h'
  obtain ⟨l1, l2, rfl, h1, h2⟩ := M_split _ _ _ h'
  obtain ⟨l3, l4, rfl, h3, h4⟩ := M_split _ _ _ h2
  refine (mt_iff _ _ _ _).2 (M_append h1 ?_)
  exact M_append (p := [42]) (M_star 42 (by simp) l3) h4
theorem join_set (x : List UInt8) : ∀ (L : List (List UInt8)) (k : Nat) (hk : k < L.length), x.length ≤ L[k].length → (Lib.join (L.set k x) [46]).length ≤ (Lib.join L [46]).length
  | [], k, hk, _ => by simp at hk
  | [a], k, hk, h => by
    have : k = 0 := by simpa using hk
    subst this
    simpa [Lib.join_one] using h
  | a :: b :: r, 0, hk, h => by
    rw [List.getElem_cons_zero] at h
    rw [List.set_cons_zero, join_cons2, join_cons2]
    simp only [List.length_append]; omega
  | a :: b :: r, k + 1, hk, h => by
    have := join_set x (b :: r) k (by simpa using hk) h
    rw [List.set_cons_succ, join_cons2]
    cases e : (b :: r).set k x with
    | nil => have := congrArg List.length e; simp at this
    | cons c s =>
      rw [e] at this
      rw [join_cons2]
      simp only [List.length_append]; omega
theorem join_len_pos (L : List (List UInt8)) (h : L ≠ []) (hq : ∀ q ∈ L, q ≠ []) : 1 ≤ (Lib.join L [46]).length := by
  cases L with
  | nil => exact absurd rfl h
  | cons a r =>
    have ha := hq a (by simp)
    have : 1 ≤ a.length := by cases a with | nil => exact absurd rfl ha | cons _ _ => simp
    cases r with
    | nil => rw [Lib.join_one]; exact this
    | cons b r => rw [join_cons2]; simp only [List.length_append]; omega
theorem set_pieces (p x : List UInt8) (k : Nat) (hx : 46 ∉ x) : pieces (Lib.join ((pieces p).set k x) [46]) = (pieces p).set k x := by
  refine pieces_joined _ ?_ ?_
  · intro e
    have := congrArg List.length e
    have h2 := pieces_ne p
    rw [List.length_set] at this
    exact h2 (List.eq_nil_of_length_eq_zero (by simpa using this))
  · intro q hq
    rcases List.mem_or_eq_of_mem_set hq with h | rfl
    · exact pieces_nodot p q h
    · exact hx
theorem match_parts (p s : List UInt8) : match_ p s = true ↔ pat p = true ∧ name s = true ∧ mtP (pieces p) (pieces s) = true := by
  simp [match_, and_assoc]
/-- a qualifier of a pattern becomes a star -/
theorem star_whole (p s : List UInt8) (k : Nat) (hk : k < (pieces p).length) (h : match_ p s = true) (hs : (pieces p)[k] ≠ [42, 42]) : match_ (Lib.join ((pieces p).set k [42]) [46]) s = true := by
  rw [match_parts] at h ⊢
  obtain ⟨h1, h2, h3⟩ := h
  have hp := (pat_parts p).1 h1
  have hset : ∀ q ∈ (pieces p).set k [42], patQ q = true := by
    intro q hq
    rcases List.mem_or_eq_of_mem_set hq with h | rfl
    · exact hp.2 q h
    · decide
  have hne : (pieces p).set k [42] ≠ [] := by
    intro e
    have := congrArg List.length e
    rw [List.length_set] at this
    simp at this; exact pieces_ne p this
  refine ⟨?_, h2, ?_⟩
  · rw [pat_parts, set_pieces p [42] k (by simp)]
    refine ⟨⟨join_len_pos _ hne (fun q hq => patQ_ne q (hset q hq)), ?_⟩, hset⟩
    have hl := join_set [42] (pieces p) k hk (by
      have := patQ_ne _ (hp.2 _ (List.getElem_mem hk))
      cases e : (pieces p)[k] with
      | nil => exact absurd e this
      | cons _ _ => simp)
    rw [join_pieces] at hl
    omega
  · rw [set_pieces p [42] k (by simp)]
    exact (mt_iff _ _ _ _).2 (M_set ((mt_iff _ _ _ _).1 h3) k hk [42] (by simpa using hs) (by simp) (fun b _ => mtQ_star b))
/-- a part of a qualifier becomes a star -/
theorem star_part (p s : List UInt8) (k i j : Nat) (hk : k < (pieces p).length) (hij : i ≤ j) (h : match_ p s = true) (hs : (pieces p)[k] ≠ [42, 42])
    (hp : pat (Lib.join ((pieces p).set k ((pieces p)[k].take i ++ 42 :: (pieces p)[k].drop j)) [46]) = true) (hn : (pieces p)[k].take i ++ 42 :: (pieces p)[k].drop j ≠ [42, 42]) :
    match_ (Lib.join ((pieces p).set k ((pieces p)[k].take i ++ 42 :: (pieces p)[k].drop j)) [46]) s = true := by
  rw [match_parts] at h ⊢
  obtain ⟨h1, h2, h3⟩ := h
  refine ⟨hp, h2, ?_⟩
  have hd := pieces_nodot p _ (List.getElem_mem hk)
  have hnd : 46 ∉ (pieces p)[k].take i ++ 42 :: (pieces p)[k].drop j := by
    rw [List.mem_append, List.mem_cons]
    rintro (h | h | h)
    · exact hd (List.mem_of_mem_take h)
    · simp at h
    · exact hd (List.mem_of_mem_drop h)
  rw [set_pieces p _ k hnd]
  exact (mt_iff _ _ _ _).2 (M_set ((mt_iff _ _ _ _).1 h3) k hk _ (by simpa using hs) (by simpa using hn) (fun b hb => mtQ_part _ b i j hij hb))
end Go.Proofs.YtdboejjognfmfaaDoor.Ds
