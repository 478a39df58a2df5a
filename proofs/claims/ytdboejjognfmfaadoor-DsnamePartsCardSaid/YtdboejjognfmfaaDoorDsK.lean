/- Laws of names in plain words: a name stands before the patterns that it matches; patterns below; generations; parts. -/
import Derived.Test.YtdboejjognfmfaaDoorDsL
namespace Go.Proofs.YtdboejjognfmfaaDoor.Ds
open Lib (compareBytes)
/-- the parts behind full stops -/
def tj : List (List UInt8) → List UInt8
  | [] => []
  | x :: r => 46 :: (x ++ tj r)
theorem tj_join (L : List (List UInt8)) (h : L ≠ []) : tj L = 46 :: Lib.join L [46] := by
  induction L with
  | nil => exact absurd rfl h
  | cons a r ih =>
    cases r with
    | nil => simp [tj, Lib.join_one]
    | cons b r => rw [tj, ih (by simp), join_cons2]; simp
/-- a rest: nothing, or a full stop first -/
def Rest (R : List UInt8) : Prop := R = [] ∨ ∃ r, R = 46 :: r
theorem tj_rest (L : List (List UInt8)) : Rest (tj L) := by
  cases L with
  | nil => exact .inl rfl
  | cons a r => exact .inr ⟨_, rfl⟩
def k1 (c : UInt8) : UInt8 := if c = 42 then 254 else c
theorem lt254 (c : UInt8) (h : c.toNat ≤ 90) : c < 254 := UInt8.lt_iff_toNat_lt.2 (by show c.toNat < 254; omega)
theorem lt255 (c : UInt8) (h : c.toNat ≤ 90) : c < 255 := UInt8.lt_iff_toNat_lt.2 (by show c.toNat < 255; omega)
theorem low_lt (s R : List UInt8) (hs : ∀ c ∈ s, c.toNat ≤ 90) (hR : Rest R) (m : UInt8) (hm : ∀ c : UInt8, c.toNat ≤ 90 → c < m) (T : List UInt8) : compareBytes (s ++ R) (m :: T) = -1 := by
  cases s with
  | cons c s => rw [List.cons_append]; exact cmp_lt _ _ _ _ (hm c (hs c (by simp)))
  | nil =>
    rcases hR with rfl | ⟨r, rfl⟩
    · rfl
    · exact cmp_lt _ _ _ _ (hm 46 (by simp))
theorem lexQ {q s : List UInt8} (h : M (fun c : UInt8 => decide (c = 42)) (fun c d => decide (c = d)) q s) (hs : ∀ c ∈ s, c.toNat ≤ 90) (R R' : List UInt8) (hR : Rest R) :
    (q = s ∧ q.map k1 = s) ∨ compareBytes (s ++ R) (q.map k1 ++ R') = -1 := by
  induction h with
  | nil => exact .inl ⟨rfl, rfl⟩
  | @skip a p l h1 _ ih =>
    have : a = 42 := by simpa using h1
    subst this
    exact .inr (low_lt _ _ hs hR 254 lt254 _)
  | @eat a p b l h1 _ ih =>
    have : a = 42 := by simpa using h1
    subst this
    exact .inr (low_lt _ _ hs hR 254 lt254 _)
  | @one a p b l h1 h2 _ ih =>
    have e : a = b := by simpa using h2
    subst e
    have h1' : ¬ a = 42 := by simpa using h1
    rcases ih (fun c hc => hs c (by simp [hc])) with ⟨e, e'⟩ | h
    · refine .inl ⟨by rw [e], ?_⟩
      rw [List.map_cons, e', k1, if_neg h1']
    · refine .inr ?_
      rw [List.map_cons, k1, if_neg h1', List.cons_append, List.cons_append, cmp_cons]
      exact h
theorem keyQ_map (q : List UInt8) (h : q ≠ [42, 42]) : keyQ q = q.map k1 := by unfold keyQ; rw [if_neg h]; rfl
theorem lexP {P L : List (List UInt8)} (h : M (fun q : List UInt8 => decide (q = [42, 42])) mtQ P L) (hL : ∀ s ∈ L, ∀ c ∈ s, c.toNat ≤ 90) :
    P = L ∨ compareBytes (tj L) (tj (P.map keyQ)) = -1 := by
  induction h with
  | nil => exact .inl rfl
  | @skip a p l h1 _ ih =>
    have : a = [42, 42] := by simpa using h1
    subst this
    right
    rw [List.map_cons, tj, show keyQ [42, 42] = [255] from rfl]
    cases l with
    | nil => rfl
    | cons b l =>
      rw [tj, cmp_cons]
      exact low_lt b (tj l) (hL b (by simp)) (tj_rest l) 255 lt255 _
  | @eat a p b l h1 _ ih =>
    have : a = [42, 42] := by simpa using h1
    subst this
    right
    rw [List.map_cons, tj, show keyQ [42, 42] = [255] from rfl, tj, cmp_cons]
    exact low_lt b (tj l) (hL b (by simp)) (tj_rest l) 255 lt255 _
  | @one a p b l h1 h2 _ ih =>
    have h1' : ¬ a = [42, 42] := by simpa using h1
    have hq := (mt_iff _ _ _ _).1 h2
    rw [List.map_cons, tj, tj, cmp_cons, keyQ_map a h1']
    rcases lexQ hq (hL b (by simp)) (tj l) (tj (p.map keyQ)) (tj_rest l) with ⟨e, e'⟩ | h
    · rw [e', cmp_app, e]
      rcases ih (fun s hs => hL s (by simp [hs])) with h | h
      · exact .inl (by rw [h])
      · exact .inr h
    · exact .inr h
theorem name_key (a : List UInt8) (h : name a = true) : key a = a := by
  unfold key
  have : (pieces a).map keyQ = pieces a := by
    conv => rhs; rw [← List.map_id (pieces a)]
    refine List.map_congr_left fun q hq => ?_
    have hn := ((name_parts a).1 h).2 q hq
    rw [keyQ_map q (nameQ_ne2 q hn)]
    show q.map k1 = q
    conv => rhs; rw [← List.map_id q]
    refine List.map_congr_left fun c hc => ?_
    unfold k1
    rw [if_neg (pl_bd c (nameQ_pl q hn c hc)).2.2]; rfl
  rw [this, join_pieces]
/-- a name stands before every other pattern that it matches -/
theorem order_match (a b : List UInt8) (h : match_ b a = true) (ha : pat a = true) (hne : a ≠ b) : order a b = -1 := by
  obtain ⟨hb, hn, hm⟩ := (match_parts b a).1 h
  unfold order
  rw [ha, hb]
  simp only [Bool.and_self, if_true]
  have hL : ∀ s ∈ pieces a, ∀ c ∈ s, c.toNat ≤ 90 := fun s hs c hc => (pl_bd c (nameQ_pl s (((name_parts a).1 hn).2 s hs) c hc)).1
  rcases lexP ((mt_iff _ _ _ _).1 hm) hL with h | h
  · exact absurd (by rw [← join_pieces a, ← join_pieces b, h]) hne
  · rw [tj_join _ (pieces_ne a), tj_join _ (by simp [pieces_ne]), cmp_cons, join_pieces] at h
    rw [name_key a hn]; exact h
theorem order_val (a b : List UInt8) : order a b = -1 ∨ order a b = 0 ∨ order a b = 1 := by
  unfold order; split
  · exact cmp_val _ _
  · simp
theorem order_neg (a b : List UInt8) : order b a = - order a b := by
  unfold order
  rw [Bool.and_comm]
  split
  · exact cmp_neg _ _
  · rfl
theorem order_zero (a b : List UInt8) (ha : pat a = true) (hb : pat b = true) : order a b = 0 ↔ a = b := by
  unfold order
  rw [ha, hb]
  simp only [Bool.and_self, if_true]
  rw [cmp_zero]
  exact ⟨key_inj a b ha hb, fun e => by rw [e]⟩
theorem order_trans (a b c : List UInt8) (ha : pat a = true) (hb : pat b = true) (hc : pat c = true) (h : order a b ≤ 0) (k : order b c ≤ 0) : order a c ≤ 0 := by
  unfold order at *
  rw [ha, hb] at h
  rw [hb, hc] at k
  rw [ha, hc]
  simp only [Bool.and_self, if_true] at *
  exact cmp_trans _ _ _ h k
theorem order_bad (a b : List UInt8) (h : ¬ (pat a = true ∧ pat b = true)) : order a b = 0 := by
  unfold order; rw [if_neg (by simpa [Bool.and_eq_true] using h)]
/-! below -/
theorem first_take (s : List UInt8) (n : Nat) (hs : name s = true) (h0 : 0 < n) : name (first n s) = true ∧ pieces (first n s) = (pieces s).take n := by
  have hp := (name_parts s).1 hs
  have hf : first n s = Lib.join ((pieces s).take n) [46] := by unfold first; rw [hs]; simp
  have hne : (pieces s).take n ≠ [] := by
    intro e
    rw [List.take_eq_nil_iff] at e
    rcases e with e | e
    · omega
    · exact pieces_ne s e
  have hq : ∀ q ∈ (pieces s).take n, nameQ q = true := fun q h => hp.2 q (List.mem_of_mem_take h)
  have e := pieces_joined _ hne (fun q h => nameQ_nodot q (hq q h))
  rw [hf, name_parts, e]
  have hl := join_take (pieces s) [46] n
  rw [join_pieces] at hl
  exact ⟨⟨⟨join_len_pos _ hne (fun q h => nameQ_ne q (hq q h)), by omega⟩, hq⟩, rfl⟩
theorem first_all (s : List UInt8) (hs : name s = true) : first (pieces s).length s = s := by
  unfold first; rw [hs]; simp [join_pieces]
theorem pieces_stars (p : List UInt8) : pieces (p ++ [46, 42, 42]) = pieces p ++ [[42, 42]] := pieces_dot p [42, 42]
theorem M_nil_any {α β : Type} {star : α → Bool} {one : α → β → Bool} {P : List α} (h : M star one P []) (hP : P ≠ []) (L : List β) : M star one P L := by
  generalize e : ([] : List β) = l at h
  cases h with
  | nil => exact absurd rfl hP
  | @skip a p l h1 h2 => 
    subst e
    clear hP
    have key : ∀ L : List β, M star one (a :: p) L := by
      intro L
      induction L with
      | nil => exact .skip h1 h2
      | cons b L ih => exact .eat h1 ih
    exact key L
  | eat h1 h2 => cases e
  | one h1 h2 h3 => cases e
theorem match_below (p s : List UInt8) (hp : pat p = true) (hl : p.length ≤ 28) (hs : name s = true) :
    match_ (p ++ [46, 42, 42]) s = (List.range (pieces s).length).any fun n => match_ p (first ((n : Int) + 1) s) := by
  have hps := (pat_parts p).1 hp
  rw [Bool.eq_iff_iff, match_parts, List.any_eq_true, pieces_stars]
  constructor
  · rintro ⟨_, _, h⟩
    obtain ⟨l1, l2, e, h1, h2⟩ := M_split _ _ _ ((mt_iff _ _ _ _).1 h)
    have hlen : 0 < (pieces s).length := List.length_pos_iff.2 (pieces_ne s)
    have key : ∀ n : Nat, 0 < n → n ≤ (pieces s).length → M (fun q : List UInt8 => decide (q = [42, 42])) mtQ (pieces p) ((pieces s).take n) → ∃ x, x ∈ List.range (pieces s).length ∧ match_ p (first ((x : Int) + 1) s) = true := by
      intro n h0 hn hm
      refine ⟨n - 1, by simp; omega, ?_⟩
      obtain ⟨f1, f2⟩ := first_take s n hs h0
      have en : ((n - 1 : Nat) : Int) + 1 = n := by omega
      rw [en, match_parts, f2]
      exact ⟨hp, f1, (mt_iff _ _ _ _).2 hm⟩
    cases l1 with
    | nil => exact key 1 (by omega) (by omega) (M_nil_any h1 (pieces_ne p) _)
    | cons b l1 =>
      refine key (b :: l1).length (by simp) (by rw [e]; simp) ?_
      rw [e, List.take_left']
      · exact h1
      · rfl
  · rintro ⟨n, hn, h⟩
    obtain ⟨f1, f2⟩ := first_take s (n + 1) hs (by omega)
    have en : ((n : Int) + 1) = ((n + 1 : Nat) : Int) := by omega
    rw [en, match_parts, f2] at h
    obtain ⟨_, _, h3⟩ := h
    refine ⟨?_, hs, ?_⟩
    · rw [pat_parts, pieces_stars]
      refine ⟨by simp; omega, ?_⟩
      intro q hq
      rw [List.mem_append] at hq
      rcases hq with h | h
      · exact hps.2 q h
      · simp at h; subst h; decide
    · have h4 := M_append ((mt_iff _ _ _ _).1 h3) (M_star (star := fun q : List UInt8 => decide (q = [42, 42])) (one := mtQ) [42, 42] (by simp) ((pieces s).drop (n + 1)))
      rw [List.take_append_drop] at h4
      exact (mt_iff _ _ _ _).2 h4
/-! parts -/
theorem name_dot (a b : List UInt8) : name (a ++ 46 :: b) = true ↔ ((∀ q ∈ pieces a, nameQ q = true) ∧ ∀ q ∈ pieces b, nameQ q = true) ∧ (a ++ 46 :: b).length ≤ 31 := by
  rw [name_parts, pieces_dot]
  constructor
  · rintro ⟨⟨_, h2⟩, h3⟩
    exact ⟨⟨fun q hq => h3 q (by simp [hq]), fun q hq => h3 q (by simp [hq])⟩, h2⟩
  · rintro ⟨⟨h1, h2⟩, h3⟩
    refine ⟨⟨by simp; omega, h3⟩, fun q hq => ?_⟩
    rcases List.mem_append.1 hq with h | h
    · exact h1 q h
    · exact h2 q h
theorem pieces_pos (a : List UInt8) (h : ∀ q ∈ pieces a, nameQ q = true) : 1 ≤ a.length := by
  have := join_len_pos (pieces a) (pieces_ne a) (fun q hq => nameQ_ne q (h q hq))
  rwa [join_pieces] at this
/-- two names joined -/
theorem parts_yes (a b : List UInt8) (ha : name a = true) (hb : name b = true) : name (a ++ 46 :: b) = decide ((a ++ 46 :: b).length ≤ 31) := by
  rw [Bool.eq_iff_iff, name_dot, decide_eq_true_eq]
  exact ⟨fun h => h.2, fun h => ⟨⟨((name_parts a).1 ha).2, ((name_parts b).1 hb).2⟩, h⟩⟩
theorem parts_no (a b : List UInt8) (h : ¬ (name a = true ∧ name b = true)) : name (a ++ 46 :: b) = false := by
  rw [Bool.eq_false_iff]
  intro hn
  obtain ⟨⟨h1, h2⟩, h3⟩ := (name_dot a b).1 hn
  have pa := pieces_pos a h1
  have pb := pieces_pos b h2
  simp only [List.length_append, List.length_cons] at h3
  exact h ⟨(name_parts a).2 ⟨⟨pa, by omega⟩, h1⟩, (name_parts b).2 ⟨⟨pb, by omega⟩, h2⟩⟩
theorem name_empty : name [] = false := by decide
theorem parts_two (a b : List UInt8) : name (a ++ 46 :: 46 :: b) = false := by
  have := parts_no a (46 :: b) (by
    rintro ⟨_, h⟩
    have := parts_no [] b (by rw [name_empty]; simp)
    rw [List.nil_append] at this
    rw [this] at h; cases h)
  exact this
theorem parts_end (a : List UInt8) : name (a ++ [46]) = false := parts_no a [] (by rw [name_empty]; simp)
theorem parts_start (a : List UInt8) : name (46 :: a) = false := parts_no [] a (by rw [name_empty]; simp)
/-- lower-case letters -/
def lower (c : UInt8) : UInt8 := if up c = true then c + 32 else c
theorem lower_notup (c : UInt8) : up (lower c) = false := by
  unfold lower
  split
  · rename_i h
    simp only [up, Bool.and_eq_true, decide_eq_true_eq] at h
    have : (c + 32).toNat = c.toNat + 32 := by rw [UInt8.toNat_add]; show (c.toNat + 32) % 256 = _; omega
    simp only [up, this, Bool.and_eq_false_iff, decide_eq_false_iff_not]
    omega
  · rename_i h; simpa using h
theorem name_up (s : List UInt8) (h : name s = true) : ∃ c r, s = c :: r ∧ up c = true := by
  cases s with
  | nil => cases h
  | cons c r =>
    refine ⟨c, r, rfl, ?_⟩
    have hp := ((name_parts _).1 h).2
    simp only [pieces] at hp
    split at hp
    · have := hp [] (by simp); simp [nameQ, qual] at this
    · cases e : pieces r with
      | nil => exact absurd e (pieces_ne r)
      | cons p ps =>
        rw [e] at hp
        have := hp (c :: p) (by simp)
        simp only [nameQ, qual, Bool.and_eq_true] at this
        exact this.1.2
theorem name_lower (a : List UInt8) (ha : name a = true) : name (a.map lower) = false := by
  rw [Bool.eq_false_iff]
  intro h
  obtain ⟨c, r, e, hc⟩ := name_up _ h
  cases a with
  | nil => simp at e
  | cons d a =>
    simp only [List.map_cons, List.cons.injEq] at e
    rw [← e.1, lower_notup] at hc; cases hc
/-! generations -/
def gq (n : Nat) : List UInt8 := 71 :: (Cal.ld n 4 ++ [86, 48, 48])
def genName (g : List UInt8) (n : Nat) : List UInt8 := g ++ 46 :: gq n
theorem ld_dg (n j : Nat) : ∀ c ∈ Cal.ld n j, dg c = true := by
  induction j with
  | zero => simp [Cal.ld]
  | succ j ih =>
    intro c hc
    rw [Cal.ld] at hc
    rcases List.mem_cons.1 hc with rfl | hc
    · have h : n / 10 ^ j % 10 < 10 := Nat.mod_lt _ (by decide)
      have : (UInt8.ofNat (48 + n / 10 ^ j % 10)).toNat = 48 + n / 10 ^ j % 10 := by rw [UInt8.toNat_ofNat']; omega
      simp only [dg, this, Bool.and_eq_true, decide_eq_true_eq]; omega
    · exact ih c hc
theorem gq_len (n : Nat) : (gq n).length = 8 := by simp [gq, Cal.ld_length]
theorem gq_name (n : Nat) : nameQ (gq n) = true := by
  unfold nameQ gq
  simp only [qual, List.length_append, Cal.ld_length, List.all_append, Bool.and_eq_true, decide_eq_true_eq, List.all_eq_true]
  refine ⟨⟨by simp, by decide⟩, fun c hc => by simp [pl, ld_dg n 4 c hc], by decide⟩
theorem ld_val (n j : Nat) (a : Nat) : (Cal.ld n j).foldl (fun n c => 10 * n + (c.toNat - 48)) a = a * 10 ^ j + n % 10 ^ j := by
  induction j generalizing a with
  | zero => simp [Cal.ld, Nat.mod_one]
  | succ j ih =>
    have h : n / 10 ^ j % 10 < 10 := Nat.mod_lt _ (by decide)
    have e : (UInt8.ofNat (48 + n / 10 ^ j % 10)).toNat - 48 = n / 10 ^ j % 10 := by rw [UInt8.toNat_ofNat']; omega
    rw [Cal.ld, List.foldl_cons, ih, e, Nat.pow_succ, Nat.mod_mul, Nat.add_mul]
    have : 10 * a * 10 ^ j = a * (10 ^ j * 10) := by rw [Nat.mul_comm 10 a, Nat.mul_assoc, Nat.mul_comm 10]
    rw [this, Nat.mul_comm (n / 10 ^ j % 10)]
    omega
theorem gq_num (n : Nat) (h : n ≤ 9999) : num (gq n) = n := by
  have hl := Cal.ld_length n 4
  have hm : mid (gq n) = Cal.ld n 4 := by
    unfold mid gq
    rw [List.drop_succ_cons, List.drop_zero, List.take_left' hl]
  have hd : (gq n).drop 5 = [86, 48, 48] := by
    unfold gq
    rw [List.drop_succ_cons, List.drop_left' hl]
  have hr : rest dg (mid (gq n)) 0 = true := by
    unfold rest
    rw [List.drop_zero, hm, List.all_eq_true]; exact ld_dg n 4
  unfold num
  rw [if_pos ⟨gq_len n, rfl, hd, hr⟩]
  unfold nv
  rw [hm, List.take_of_length_le (by omega), ld_val]
  simp; omega
theorem gen_pieces (g : List UInt8) (n : Nat) : pieces (genName g n) = pieces g ++ [gq n] := by
  unfold genName
  rw [pieces_dot, pieces_plain (gq n) (nameQ_nodot _ (gq_name n))]
theorem group_parts (g : List UInt8) : group g = true ↔ name g = true ∧ g.length ≤ 22 ∧ ∀ q ∈ pieces g, num q = 0 := by
  simp [group, and_assoc]
theorem gen_name (g : List UInt8) (n : Nat) (h : group g = true) : name (genName g n) = true := by
  obtain ⟨h1, h2, _⟩ := (group_parts g).1 h
  have hp := (name_parts g).1 h1
  rw [name_parts, gen_pieces]
  refine ⟨by unfold genName; rw [List.length_append, List.length_cons, gq_len]; omega, fun q hq => ?_⟩
  rcases List.mem_append.1 hq with h | h
  · exact hp.2 q h
  · simp at h; subst h; exact gq_name n
theorem gen_nogroup (g : List UInt8) (n : Nat) (h0 : 0 < n) (h : n ≤ 9999) : group (genName g n) = false := by
  rw [Bool.eq_false_iff]
  intro hg
  have := ((group_parts _).1 hg).2.2 (gq n) (by rw [gen_pieces]; simp)
  rw [gq_num n h] at this; omega
theorem gen_front (g : List UInt8) (n : Nat) : front (genName g n) = g := by
  unfold front
  rw [gen_pieces, List.dropLast_concat, join_pieces]
theorem gen_last (g : List UInt8) (n : Nat) : last (genName g n) = gq n := by
  unfold last
  rw [gen_pieces]; simp
theorem gen_gen (g : List UInt8) (n : Nat) (h : group g = true) (h0 : 0 < n) (h9 : n ≤ 9999) : gen (genName g n) = true := by
  unfold gen
  rw [gen_front, gen_last, gq_num n h9, h]
  simp; omega
theorem gen_match (g : List UInt8) (n : Nat) (h : group g = true) : match_ (g ++ [46, 71, 42, 86, 48, 48]) (genName g n) = true := by
  obtain ⟨h1, h2, _⟩ := (group_parts g).1 h
  have hp := (name_parts g).1 h1
  have e : pieces (g ++ [46, 71, 42, 86, 48, 48]) = pieces g ++ [[71, 42, 86, 48, 48]] := pieces_dot g [71, 42, 86, 48, 48]
  rw [match_parts]
  refine ⟨?_, gen_name g n h, ?_⟩
  · rw [pat_parts, e]
    refine ⟨by simp; omega, fun q hq => ?_⟩
    rcases List.mem_append.1 hq with h | h
    · exact nameQ_patQ q (hp.2 q h)
    · simp at h; subst h; decide
  · rw [e, gen_pieces]
    refine (mt_iff _ _ _ _).2 (M_append ((mt_iff _ _ _ _).1 (?_ : mtP (pieces g) (pieces g) = true)) (.one (by decide) ?_ .nil))
    · rw [mtP_eq _ _ hp.2]; simp
    · refine (mt_iff _ _ _ _).2 (.one (by decide) (by decide) ?_)
      refine M_append (p := [42]) (p' := [86, 48, 48]) (M_star 42 (by decide) (Cal.ld n 4)) ?_
      exact .one (by decide) (by decide) (.one (by decide) (by decide) (.one (by decide) (by decide) .nil))
theorem ld_cmp (n m j : Nat) (t : List UInt8) : compareBytes (Cal.ld n j ++ t) (Cal.ld m j ++ t) = if n % 10 ^ j < m % 10 ^ j then -1 else if m % 10 ^ j < n % 10 ^ j then 1 else 0 := by
  induction j with
  | zero => simp [Cal.ld, cmp_self, Nat.mod_one]
  | succ j ih =>
    have dn : n / 10 ^ j % 10 < 10 := Nat.mod_lt _ (by decide)
    have dm : m / 10 ^ j % 10 < 10 := Nat.mod_lt _ (by decide)
    have en : (UInt8.ofNat (48 + n / 10 ^ j % 10)).toNat = 48 + n / 10 ^ j % 10 := by rw [UInt8.toNat_ofNat']; omega
    have em : (UInt8.ofNat (48 + m / 10 ^ j % 10)).toNat = 48 + m / 10 ^ j % 10 := by rw [UInt8.toNat_ofNat']; omega
    have pp : 0 < 10 ^ j := Nat.pow_pos (by decide)
    have rn : n % 10 ^ j < 10 ^ j := Nat.mod_lt _ pp
    have rm : m % 10 ^ j < 10 ^ j := Nat.mod_lt _ pp
    have sn : n % 10 ^ (j + 1) = n % 10 ^ j + 10 ^ j * (n / 10 ^ j % 10) := by rw [Nat.pow_succ, Nat.mod_mul]
    have sm : m % 10 ^ (j + 1) = m % 10 ^ j + 10 ^ j * (m / 10 ^ j % 10) := by rw [Nat.pow_succ, Nat.mod_mul]
    rw [sn, sm, Cal.ld, Cal.ld, List.cons_append, List.cons_append]
    generalize n / 10 ^ j % 10 = d at *
    generalize m / 10 ^ j % 10 = e at *
    rcases Nat.lt_trichotomy d e with h | h | h
    · rw [cmp_lt _ _ _ _ (UInt8.lt_iff_toNat_lt.2 (by rw [en, em]; omega)), if_pos]
      have : 10 ^ j * (d + 1) ≤ 10 ^ j * e := Nat.mul_le_mul_left _ h
      rw [Nat.mul_add, Nat.mul_one] at this; omega
    · subst h
      rw [cmp_cons, ih]
      simp only [Nat.add_lt_add_iff_right]
    · have : 10 ^ j * (e + 1) ≤ 10 ^ j * d := Nat.mul_le_mul_left _ h
      rw [Nat.mul_add, Nat.mul_one] at this
      rw [cmp_gt _ _ _ _ (UInt8.lt_iff_toNat_lt.2 (by rw [en, em]; omega)), if_neg (by omega), if_pos (by omega)]
theorem gen_cmp (g : List UInt8) (n m : Nat) (hn : n ≤ 9999) (hm : m ≤ 9999) : compareBytes (genName g n) (genName g m) = if n < m then -1 else if m < n then 1 else 0 := by
  unfold genName gq
  rw [cmp_app, cmp_cons, cmp_cons, ld_cmp]
  rw [Nat.mod_eq_of_lt (show n < 10 ^ 4 by omega), Nat.mod_eq_of_lt (show m < 10 ^ 4 by omega)]
theorem gen_inj (g : List UInt8) (n m : Nat) (hn : n ≤ 9999) (hm : m ≤ 9999) : genName g n = genName g m ↔ n = m := by
  rw [← cmp_zero, gen_cmp g n m hn hm]
  split
  · simp; omega
  · split
    · simp; omega
    · simp; omega
end Go.Proofs.YtdboejjognfmfaaDoor.Ds
