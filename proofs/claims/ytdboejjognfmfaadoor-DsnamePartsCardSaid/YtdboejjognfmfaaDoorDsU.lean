/- Contracts of the reference: Split, First, Texts. -/
import Derived.Test.YtdboejjognfmfaaDoorDsT
import Derived.IntWalk
namespace Go.Proofs.YtdboejjognfmfaaDoor
open Go.RowKit
set_option maxHeartbeats 400000
namespace Ds
def splG (s : List UInt8) : List UInt8 := if gen s then front s else []
def splN (s : List UInt8) : Nat := if gen s then num (last s) else 0
theorem spl_yes (s : List UInt8) (h1 : num (last s) ≠ 0) (h2 : group (front s) = true) : gen s = true ∧ splG s = front s ∧ splN s = num (last s) := by
  have : gen s = true := by unfold gen; rw [h2]; simpa using h1
  exact ⟨this, by unfold splG; rw [if_pos this], by unfold splN; rw [if_pos this]⟩
theorem spl_no (s : List UInt8) (h : num (last s) = 0 ∨ group (front s) = false) : gen s = false ∧ splG s = [] ∧ splN s = 0 := by
  have : gen s = false := by
    unfold gen
    rcases h with h | h <;> simp [h]
  exact ⟨this, by unfold splG; rw [this]; rfl, by unfold splN; rw [this]; rfl⟩
theorem front_of {qs : List ByteArray} {q : ByteArray} {s : List UInt8} (h : (qs ++ [q]).map bl = pieces s) : front s = Lib.join (qs.map bl) [46] ∧ last s = bl q := by
  unfold front last
  rw [← h]; simp
theorem take_qs {qs : List ByteArray} {q : ByteArray} {s : List UInt8} (h : (qs ++ [q]).map bl = pieces s) : Lib.join (((qs ++ [q]).map bl).take qs.length) [46] = front s := by
  rw [(front_of h).1]; simp
theorem joined_len {ps : List ByteArray} {s : List UInt8} (h : ps.map bl = pieces s) : (Lib.join (ps.map bl) [46]).length = s.length := by
  rw [h, join_pieces]
end Ds
theorem rds_split (s : ByteArray) (w : World) (hs : s.size ≤ 60) :
    Calls Tryd.prog 23 #[.string s] w fun e w' => e = .returned (.tuple #[.string ⟨(Ds.splG (Ds.bl s)).toArray⟩, .int .i64 (Ds.splN (Ds.bl s)), .bool (Ds.gen (Ds.bl s))]) ∧ Below w.heap.size w w' := by
  have hs' : s.size ≤ 1000 := by omega
  go_enter Tryd.func23, Tryd.ntmps23
  go_wp2_with (go_at_call 38; (with_reducible refine (rds_parts _ _ hs').mono ?_); rintro e w1 ⟨qs, q, g, cap, hp, hql, hg1, hg2, rfl, S, fz, hcap, B⟩; have HP := Lib.hid hp; clear hp fz)
  have hjl := Ds.joined_len HP.out
  rw [Ds.bl_length] at hjl
  have hjl' : (Lib.join ((qs ++ [q]).map Ds.bl) [46]).length ≤ 1000 := by omega
  have hpl := Lib.hid (fun k (h : k < (qs ++ [q]).length) => Nat.le_trans (Ds.piece_len HP.out k h) (by rw [Ds.bl_length]; exact hs'))
  have hn1 : qs.length ≤ (qs ++ [q]).length := by simp
  have hn2 : qs.length ≤ cap := by omega
  have hn3 : (qs ++ [q]).length ≤ 1000 := by simp; omega
  have cq : w1.cell? ⟨g, qs.length, none⟩ = some (.string q) := by
    have := S qs.length (by simp)
    rw [this]; simp
  have HF := Lib.hid (Ds.take_qs HP.out)
  have HL := Lib.hid (Ds.front_of HP.out).2
  have s1 : IntKind.i64.wrap (qs.length : Int) = qs.length := IntWalk.i64_in _ (by omega)
  have s2 : (0 : Int) ≤ qs.length := by omega
  have s3 : (qs.length : Int) ≤ cap := by omega
  have s4 : (qs.length : Int) < qs.length + 1 := by omega
  have s5 : ((qs.length : Int)).toNat = qs.length := by omega
  clear hjl
  go_quiet ((first | (go_at_call 64; exact Calls.quiet_of_same ((rds_join (qs ++ [q]) g qs.length cap _ (S.drewN _) hn1 hn2 hjl' hn3 hpl).mono fun _ _ ⟨a, b⟩ => ⟨a, b.symm⟩)) | (go_at_call 65; exact Calls.quiet_of_same ((rds_number q _).mono fun _ _ ⟨a, b⟩ => ⟨a, b.symm⟩))))
  rw [HF.out]
  generalize hF : (⟨(Ds.front (Ds.bl s)).toArray⟩ : ByteArray) = fr
  have HB := Lib.hid (show Ds.bl fr = Ds.front (Ds.bl s) by rw [← hF, Ds.bl_mk])
  have HFR := Lib.hid hF
  clear hF s1 s2 s3 s4 s5 cq S
  have B2 := Lib.hid (below_drewN B nq)
  by_cases hn : Ds.num (Ds.bl q) = 0
  · have e1 : ((Ds.num (Ds.bl q) : Int) == 0) = true := by simp [hn]
    have D := Lib.hid (Ds.spl_no (Ds.bl s) (.inl (by rw [HL.out]; exact hn)))
    clear hn
    go_wp2_with fail
    go_ret3
    exact ⟨by rw [D.out.1, D.out.2.1, D.out.2.2]; rfl, B2.out⟩
  · have e1 : ((Ds.num (Ds.bl q) : Int) == 0) = false := by simp; omega
    have HN := Lib.hid (show Ds.num (Ds.last (Ds.bl s)) ≠ 0 by rw [HL.out]; exact hn)
    clear hn
    cases hg : Ds.group (Ds.bl fr)
    · have D := Lib.hid (Ds.spl_no (Ds.bl s) (.inr (by rw [← HB.out]; exact hg)))
      go_wp2_with (go_at_call 25; (with_reducible refine (rds_group _ _).mono ?_); rintro e w2 ⟨rfl, hb⟩)
      go_ret3
      exact ⟨by rw [D.out.1, D.out.2.1, D.out.2.2]; rfl, bt B2.out hb⟩
    · have D := Lib.hid (Ds.spl_yes (Ds.bl s) HN.out (by rw [← HB.out]; exact hg))
      go_wp2_with (go_at_call 25; (with_reducible refine (rds_group _ _).mono ?_); rintro e w2 ⟨rfl, hb⟩)
      go_ret3
      exact ⟨by rw [D.out.1, D.out.2.1, D.out.2.2, HL.out, HFR.out]; rfl, bt B2.out hb⟩
theorem rds_first (n : Int) (s : ByteArray) (w : World) :
    Calls Tryd.prog 31 #[.int .i64 n, .string s] w fun e w' => e = .returned (.string ⟨(Ds.first n (Ds.bl s)).toArray⟩) ∧ Below w.heap.size w w' := by
  cases hn : Ds.name (Ds.bl s)
  · have D := Lib.hid (show Ds.first n (Ds.bl s) = [] by unfold Ds.first; rw [hn]; rfl)
    have e0 : (max 0 (min n 0)).toNat = 0 := by omega
    go_enter Tryd.func31, Tryd.ntmps31
    go_wp2_with (first
      | (go_at_call 29; (with_reducible refine (rds_quals_no _ _ hn).mono ?_); rintro e w1 ⟨rfl, hb⟩)
      | (go_at_call 64; (with_reducible refine (rds_join0 _ _ _ (by omega)).mono ?_); rintro e w' ⟨rfl, rfl⟩))
    all_goals (go_ret; exact ⟨ret_str (by rw [D.out]), hb⟩)
  · have hjl : (Lib.join (Ds.pieces (Ds.bl s)) [46]).length ≤ 1000 := by
      rw [Ds.join_pieces, Ds.bl_length]
      have := rname_size s hn
      omega
    have D := Lib.hid (show Ds.first n (Ds.bl s) = Lib.join ((Ds.pieces (Ds.bl s)).take n.toNat) [46] by unfold Ds.first; rw [hn]; rfl)
    have hs := (rname_size s hn).1
    go_enter Tryd.func31, Tryd.ntmps31
    go_wp2_with (first
      | (go_at_call 29; (with_reducible refine (rds_quals_yes _ _ hn).mono ?_); rintro e w1 ⟨ps, b, c, hp, hl, hb1, hb2, hc, rfl, hS, hb⟩; have HP := Lib.hid hp; have hpl := Lib.hid (fun k (h : k < ps.length) => Nat.le_trans (Ds.piece_len hp k h) (by rw [Ds.bl_length]; omega : _ ≤ 1000)); clear hp)
      | (go_at_call 64; (with_reducible refine (rds_join ps b _ _ _ hS (by omega) (by omega) (by rw [HP.out]; exact hjl) (by omega) hpl).mono ?_); rintro e w2 ⟨rfl, rfl⟩))
    all_goals
      go_ret
      refine ⟨ret_str ?_, hb⟩
      first
      | (rw [D.out, ← HP.out]; done)
      | (
        rw [D.out, ← HP.out]
        have hsplit : ∀ m : Nat, (n.toNat = m ∨ (ps.length ≤ m ∧ ps.length ≤ n.toNat)) → (⟨(Lib.join ((ps.map Ds.bl).take m) [46]).toArray⟩ : ByteArray) = ⟨(Lib.join ((ps.map Ds.bl).take n.toNat) [46]).toArray⟩ := by
          rintro m (h | ⟨h1, h2⟩)
          · rw [h]
          · rw [List.take_of_length_le (by simpa using h1), List.take_of_length_le (by simpa using h2)]
        rcases Int.lt_or_le (ps.length : Int) n with hA | hA
        · first
          | exact hsplit ps.length (.inr ⟨Nat.le_refl _, by omega⟩)
          | (exact hsplit 0 (.inr ⟨by simp only [if_pos hA] at *; omega, by omega⟩))
        · have hA' : ¬ (ps.length : Int) < n := by omega
          first
          | (exact hsplit n.toNat (.inl rfl))
          | (exact hsplit 0 (.inl (by simp only [if_neg hA'] at *; omega)))
          | (exact hsplit ps.length (.inl (by simp only [if_neg hA'] at *; omega))))
namespace Ds
/-- two lists of texts are equal from place k on -/
def eqs (l m : List ByteArray) (k : Nat) : Bool := decide (l.drop k = m.drop k)
theorem eqs_next (l m : List ByteArray) (k : Nat) (h : k < l.length) (h' : k < m.length) : eqs l m k = (decide (l[k] = m[k]) && eqs l m (k + 1)) := by
  unfold eqs
  rw [List.drop_eq_getElem_cons h, List.drop_eq_getElem_cons h', Bool.eq_iff_iff]; simp only [List.cons.injEq, Bool.and_eq_true, decide_eq_true_eq]
theorem eqs_end (l m : List ByteArray) (k : Nat) (h : l.length ≤ k) (h' : m.length ≤ k) : eqs l m k = true := by
  unfold eqs
  rw [List.drop_eq_nil_of_le h, List.drop_eq_nil_of_le h']; simp
theorem bl_neq (s t : ByteArray) (h : ¬ s = t) : (s.toList != t.toList) = true := by
  rw [ByteArray.toList_eq, ByteArray.toList_eq]
  simp only [bne_iff_ne, ne_eq]
  exact fun e => h (bl_inj e)
theorem texts_eq (l m : List ByteArray) : decide (l = m) = decide (l.map bl = m.map bl) := by
  congr 1
  rw [eq_iff_iff]
  constructor
  · rintro rfl; rfl
  · intro h
    induction l generalizing m with
    | nil => cases m <;> simp at h ⊢
    | cons a l ih =>
      cases m with
      | nil => simp at h
      | cons b m =>
        simp only [List.map_cons, List.cons.injEq] at h
        rw [bl_inj h.1, ih m h.2]
end Ds
theorem rds_texts (l m : List ByteArray) (b b' c c' : Nat) (w : World) (hl : Strs w b l) (hm : Strs w b' m) (h1 : l.length ≤ 1000) (_h2 : m.length ≤ 1000) :
    Calls Tryd.prog 27 #[.slice (some ⟨b, 0, none⟩) l.length c, .slice (some ⟨b', 0, none⟩) m.length c'] w fun e w' => e = .returned (.bool (decide (l = m))) ∧ Below w.heap.size w w' := by
  by_cases hlen : l.length = m.length
  rotate_left
  · have D := Lib.hid (show decide (l = m) = false from decide_eq_false fun e => hlen (by rw [e]))
    have e1 : ((l.length : Int) != m.length) = true := by simp; omega
    clear hlen
    go_enter Tryd.func27, Tryd.ntmps27
    go_wp2_with fail
    go_ret
    exact ⟨ret_bool D.out.symm, Below.refl _ _⟩
  have D := Lib.hid (show decide (l = m) = Ds.eqs l m 0 from rfl)
  have e1 : ((l.length : Int) != m.length) = false := by simp; omega
  have HL := Lib.hid hlen
  clear hlen
  go_enter Tryd.func27, Tryd.ntmps27
  go_wp2_with fail
  clear e1
  go_loopw [5] (fun i wr => ∃ k : Nat, k ≤ l.length ∧ i = .int .i64 k ∧ decide (l = m) = Ds.eqs l m k ∧ Below w.heap.size w wr) (fun i _ => l.length - (intOf i).toNat)
  case atStart => exact ⟨0, by omega, rfl, D.out, Below.refl _ _⟩
  case round =>
    obtain ⟨k, hk, rfl, hq, B⟩ := hrel
    have HQ := Lib.hid hq
    clear hq
    by_cases hlt : k < l.length
    · have hlt' : k < m.length := by have := HL.out; omega
      have hr := Ds.eqs_next l m k hlt hlt'
      have ca := hl.below B k hlt
      have cb := hm.below B k hlt'
      generalize l[k] = x at hr ca
      generalize m[k] = y at hr cb
      by_cases hxy : x = y
      · subst hxy
        rw [decide_eq_true rfl, Bool.true_and] at hr
        have HR := Lib.hid (HQ.out.trans hr)
        clear hr
        have k1 : (0 : Int) ≤ k := by omega
        have k2 : (k : Int) < l.length := by omega
        have k3 : (k : Int) < m.length := by omega
        go_wp2_with fail
        go_region
        go_wp2_with fail
        go_roundw
        case rel => exact ⟨k + 1, by omega, by go_num, HR.out, B.drew⟩
        case measure => simp [intOf]; omega
      · rw [decide_eq_false hxy, Bool.false_and] at hr
        have HR := Lib.hid (HQ.out.trans hr)
        have hne := Ds.bl_neq x y hxy
        have hne2 : (x.toList == y.toList) = false := by simpa using hne
        clear hr hxy
        have k1 : (0 : Int) ≤ k := by omega
        have k2 : (k : Int) < l.length := by omega
        have k3 : (k : Int) < m.length := by omega
        go_wp2_with fail
        go_region
        go_wp2_with fail
        go_ret
        exact ⟨ret_bool HR.out.symm, B.drew⟩
    · have hr := HQ.out.trans (Ds.eqs_end l m k (by omega) (by have := HL.out; omega))
      have HR := Lib.hid hr
      clear hr
      obtain rfl : k = l.length := by omega
      go_wp2_with fail
      go_ret
      exact ⟨ret_bool HR.out.symm, B⟩
theorem rds_texts0 (k k' c c' : Nat) (w : World) (h : k = 0) (h' : k' = 0) :
    Calls Tryd.prog 27 #[.slice none k c, .slice none k' c'] w fun e w' => e = .returned (.bool true) ∧ w = w' := by
  subst h h'
  go_enter Tryd.func27, Tryd.ntmps27
  go_wp2_with fail
  refine wp_loop_rounds 1 ?_; rw [rounds_succ]
  go_wp2_with fail
  go_ret
  exact ⟨rfl, rfl⟩
end Go.Proofs.YtdboejjognfmfaaDoor
