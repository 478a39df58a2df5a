/- Contracts of the reference: valid, Valid, ValidPattern, Join, IsGroup, Split, Qualifiers, First, Texts. -/
import Derived.Test.YtdboejjognfmfaaDoorDsS
import Derived.Test.YtdboejjognfmfaaDoorDsL
import Derived.BigQuiet
import Derived.Deep.QuietTactic
namespace Go.Proofs.YtdboejjognfmfaaDoor
open Go.RowKit
set_option maxHeartbeats 400000
theorem Strs.drewN {w : World} {b : Nat} {ps : List ByteArray} (h : Strs w b ps) (n : Nat) : Strs (w.drewN n) b ps := h
namespace Ds
theorem validE_len (st : Bool) (s : List UInt8) (h : s.length < 1 ∨ 31 < s.length) : validE st s = false := by
  unfold validE
  rcases h with h | h
  · rw [decide_eq_false (by omega)]; simp
  · rw [decide_eq_false (p := s.length ≤ 31) (by omega)]; simp
theorem validE_rest (st : Bool) (s : List UInt8) (h1 : 1 ≤ s.length) (h2 : s.length ≤ 31) (ps : List ByteArray) (h : ps.map bl = pieces s) : validE st s = rest (fun q => partE st (bl q)) ps 0 := by
  unfold validE
  rw [decide_eq_true h1, decide_eq_true h2, ← h, List.all_map]; rfl
theorem jn_next (ps : List ByteArray) (k : Nat) (hk : k < ps.length) (h0 : 0 < k) : Lib.join ((ps.map bl).take (k + 1)) [46] = Lib.join ((ps.map bl).take k) [46] ++ [46] ++ bl ps[k] := by
  rw [List.take_succ_eq_append_getElem (by simpa using hk), join_snoc _ _ (by
    intro e
    rw [List.take_eq_nil_iff] at e
    rcases e with e | e
    · omega
    · rw [List.map_eq_nil_iff] at e; subst e; simp at hk)]
  simp
theorem jn_first (ps : List ByteArray) (hk : 0 < ps.length) : Lib.join ((ps.map bl).take 1) [46] = bl ps[0] := by
  rw [List.take_succ_eq_append_getElem (by simpa using hk), List.take_zero, List.nil_append, Lib.join_one]; simp
theorem dot_bl : bl ⟨#[46]⟩ = [46] := rfl
theorem piece_len {ps : List ByteArray} {s : List UInt8} (h : ps.map bl = pieces s) (k : Nat) (hk : k < ps.length) : (ps[k]).size ≤ s.length := by
  have := (pieces_le s).2 (bl ps[k]) (by rw [← h]; exact List.mem_map_of_mem (List.getElem_mem hk))
  rwa [bl_length] at this
end Ds
theorem rds_valid (st : Bool) (s : ByteArray) (w : World) :
    Calls Tryd.prog 66 #[.string s, .bool st] w fun e w' => e = .returned (.bool (Ds.validE st (Ds.bl s))) ∧ Below w.heap.size w w' := by
  have hl := Ds.bl_length s
  by_cases h1 : s.size < 1
  · have D := Lib.hid (Ds.validE_len st (Ds.bl s) (by omega))
    have e1 : (decide ((s.size : Int) < 1)) = true := by rw [decide_eq_true_eq]; omega
    clear hl h1
    go_enter Tryd.func66, Tryd.ntmps66
    go_wp2_with fail
    go_ret
    exact ⟨ret_bool D.out.symm, Below.refl _ _⟩
  by_cases h8 : 31 < s.size
  · have D := Lib.hid (Ds.validE_len st (Ds.bl s) (by omega))
    have e1 : (decide ((s.size : Int) < 1)) = false := by rw [decide_eq_false_iff_not]; omega
    have e2 : (decide (31 < (s.size : Int))) = true := by rw [decide_eq_true_eq]; omega
    clear hl h1
    go_enter Tryd.func66, Tryd.ntmps66
    go_wp2_with fail
    go_ret
    exact ⟨ret_bool D.out.symm, Below.refl _ _⟩
  have e1 : (decide ((s.size : Int) < 1)) = false := by rw [decide_eq_false_iff_not]; omega
  have e2 : (decide (31 < (s.size : Int))) = false := by rw [decide_eq_false_iff_not]; omega
  have hs : s.size ≤ 1000 := by omega
  have D := Lib.hid (fun ps h => Ds.validE_rest st (Ds.bl s) (by omega) (by omega) ps h)
  clear hl h1 h8
  go_enter Tryd.func66, Tryd.ntmps66
  go_wp2_with (go_at_call 38; (with_reducible refine (rds_parts _ _ hs).mono ?_); rintro e w1 ⟨qs, q, g, cap, hp, hql, hg1, hg2, rfl, S, fz, hcap, B⟩; have HP := Lib.hid (D.out _ hp); clear hp D fz e1 e2)
  go_loopw [6] (fun i wr => ∃ k : Nat, k ≤ qs.length + 1 ∧ i = .int .i64 k ∧ Ds.validE st (Ds.bl s) = Ds.rest (fun q => Ds.partE st (Ds.bl q)) (qs ++ [q]) k ∧ w1 = wr) (fun i _ => qs.length + 1 - (intOf i).toNat)
  case atStart => exact ⟨0, by omega, rfl, HP.out, rfl⟩
  case round =>
    obtain ⟨k, hk, rfl, hq, rfl⟩ := hrel
    have HQ := Lib.hid hq
    clear hq
    by_cases hlt : k < qs.length + 1
    · have hlt' : k < (qs ++ [q]).length := by simp; omega
      have hr := Ds.rest_next (fun q => Ds.partE st (Ds.bl q)) (qs ++ [q]) k hlt'
      have hc := S k hlt'
      generalize (qs ++ [q])[k] = x at hr hc
      cases hG : Ds.partE st (Ds.bl x)
      · rw [hG] at hr
        have HR := Lib.hid (HQ.out.trans hr)
        clear hr hlt'
        go_wp2_with (go_at_call 85; (with_reducible refine (rds_part _ _ _).mono ?_); rintro e w' ⟨rfl, rfl⟩)
        go_ret
        exact ⟨ret_bool HR.out.symm, B⟩
      · rw [hG] at hr
        have HR := Lib.hid (HQ.out.trans hr)
        clear hr hlt'
        go_wp2_with (go_at_call 85; (with_reducible refine (rds_part _ _ _).mono ?_); rintro e w' ⟨rfl, rfl⟩)
        go_roundw
        case rel => exact ⟨k + 1, by omega, by go_num, HR.out, trivial⟩
        case measure => simp [intOf]; omega
    · have hr := HQ.out.trans (Ds.rest_end (fun q => Ds.partE st (Ds.bl q)) (qs ++ [q]) k (by simp; omega))
      have HR := Lib.hid hr
      clear hr
      obtain rfl : k = qs.length + 1 := by omega
      go_wp2_with fail
      go_ret
      exact ⟨ret_bool HR.out.symm, B⟩
theorem rds_Valid (s : ByteArray) (w : World) :
    Calls Tryd.prog 24 #[.string s] w fun e w' => e = .returned (.bool (Ds.name (Ds.bl s))) ∧ Below w.heap.size w w' := by
  go_enter Tryd.func24, Tryd.ntmps24
  go_wp2_with (go_at_call 66; (with_reducible refine (rds_valid _ _ _).mono ?_); rintro e w1 ⟨rfl, hb⟩)
  go_ret
  exact ⟨ret_bool (Ds.validE_name _), hb⟩
theorem rds_pat (s : ByteArray) (w : World) :
    Calls Tryd.prog 26 #[.string s] w fun e w' => e = .returned (.bool (Ds.pat (Ds.bl s))) ∧ Below w.heap.size w w' := by
  go_enter Tryd.func26, Tryd.ntmps26
  go_wp2_with (go_at_call 66; (with_reducible refine (rds_valid _ _ _).mono ?_); rintro e w1 ⟨rfl, hb⟩)
  go_ret
  exact ⟨ret_bool (Ds.validE_pat _), hb⟩
theorem rds_join (ps : List ByteArray) (b n c : Nat) (w : World) (hS : Strs w b ps) (hn : n ≤ ps.length) (hc : n ≤ c) (hl : (Lib.join (ps.map Ds.bl) [46]).length ≤ 1000) (hp : ps.length ≤ 1000) (hps : Hid (∀ k (h : k < ps.length), ps[k].size ≤ 1000)) :
    Calls Tryd.prog 64 #[.slice (some ⟨b, 0, none⟩) n c] w fun e w' => e = .returned (.string ⟨(Lib.join ((ps.map Ds.bl).take n) [46]).toArray⟩) ∧ w = w' := by
  have HJ : Hid (∀ k, (Lib.join ((ps.map Ds.bl).take k) [46]).length ≤ 1000) := Lib.hid fun k => Nat.le_trans (Ds.join_take _ _ k) hl
  clear hl
  go_enter Tryd.func64, Tryd.ntmps64
  go_wp2_with fail
  go_loopw [3, 4] (fun s i wr => ∃ (k : Nat) (t : ByteArray), k ≤ n ∧ i = .int .i64 k ∧ s = .string t ∧ Ds.bl t = Lib.join ((ps.map Ds.bl).take k) [46] ∧ w = wr) (fun _ i _ => n - (intOf i).toNat)
  case atStart => exact ⟨0, ⟨#[]⟩, by omega, rfl, rfl, rfl, rfl⟩
  case round =>
    obtain ⟨k, t, hk, rfl, rfl, ht, rfl⟩ := hrel
    have htl : t.size ≤ 1000 := by rw [← Ds.bl_length, ht]; exact HJ.out k
    have HT := Lib.hid ht
    clear ht
    by_cases hlt : k < n
    · have hlt' : k < ps.length := by omega
      have hcell := hS k hlt'
      have hpk := hps.out k hlt'
      by_cases h0 : 0 < k
      · have HN := Lib.hid (Ds.jn_next ps k hlt' h0)
        go_wp2_with fail
        go_roundw
        case rel => exact ⟨k + 1, _, by omega, by go_num, rfl, by rw [HN.out, Ds.bl_append, Ds.bl_append, HT.out]; rfl, trivial⟩
        case measure => simp [intOf]; omega
      · obtain rfl : k = 0 := by omega
        have HN := Lib.hid (Ds.jn_first ps hlt')
        go_wp2_with fail
        go_roundw
        case rel => exact ⟨1, _, by omega, by go_num, rfl, by rw [HN.out, Ds.bl_append, HT.out]; simp [Lib.join_nil], trivial⟩
        case measure => simp [intOf]; omega
    · obtain rfl : k = n := by omega
      go_wp2_with fail
      go_ret
      exact ⟨ret_str (Ds.bl_inj (by rw [HT.out, Ds.bl_mk])), rfl⟩
theorem rds_join0 (k c : Nat) (w : World) (hk : k = 0) :
    Calls Tryd.prog 64 #[.slice none k c] w fun e w' => e = .returned (.string ⟨#[]⟩) ∧ w = w' := by
  subst hk
  go_enter Tryd.func64, Tryd.ntmps64
  go_wp2_with fail
  refine wp_loop_rounds 1 ?_; rw [rounds_succ]
  go_wp2_with fail
  go_ret
  exact ⟨rfl, rfl⟩
theorem rds_group (s : ByteArray) (w : World) :
    Calls Tryd.prog 25 #[.string s] w fun e w' => e = .returned (.bool (Ds.group (Ds.bl s))) ∧ Below w.heap.size w w' := by
  have hl := Ds.bl_length s
  cases hn : Ds.name (Ds.bl s)
  · have D := Lib.hid (show Ds.group (Ds.bl s) = false by unfold Ds.group; rw [hn]; rfl)
    clear hl
    go_enter Tryd.func25, Tryd.ntmps25
    go_wp2_with (go_at_call 24; (with_reducible refine (rds_Valid _ _).mono ?_); rintro e w1 ⟨rfl, hb⟩)
    go_ret
    exact ⟨ret_bool D.out.symm, hb⟩
  by_cases h1 : 22 < s.size
  · have D := Lib.hid (show Ds.group (Ds.bl s) = false by unfold Ds.group; rw [decide_eq_false (p := (Ds.bl s).length ≤ 22) (by omega)]; simp)
    have e1 : (decide (22 < (s.size : Int))) = true := by rw [decide_eq_true_eq]; omega
    clear hl
    go_enter Tryd.func25, Tryd.ntmps25
    go_wp2_with (go_at_call 24; (with_reducible refine (rds_Valid _ _).mono ?_); rintro e w1 ⟨rfl, hb⟩)
    go_ret
    exact ⟨ret_bool D.out.symm, hb⟩
  have e1 : (decide (22 < (s.size : Int))) = false := by rw [decide_eq_false_iff_not]; omega
  have hs : s.size ≤ 1000 := by omega
  have D := Lib.hid (fun (ps : List ByteArray) (h : ps.map Ds.bl = Ds.pieces (Ds.bl s)) => show Ds.group (Ds.bl s) = Ds.rest (fun q => decide (Ds.num (Ds.bl q) = 0)) ps 0 by
    unfold Ds.group; rw [decide_eq_true (p := (Ds.bl s).length ≤ 22) (by omega), hn, ← h, List.all_map]; rfl)
  clear hl h1
  go_enter Tryd.func25, Tryd.ntmps25
  go_wp2_with (first
    | (go_at_call 24; (with_reducible refine (rds_Valid _ _).mono ?_); rintro e w0 ⟨rfl, hb⟩)
    | (go_at_call 38; (with_reducible refine (rds_parts _ _ hs).mono ?_); rintro e w1 ⟨qs, q, g, cap, hp, hql, hg1, hg2, rfl, S, fz, hcap, B⟩; have HP := Lib.hid (D.out _ hp); have B := bt hb B; clear hp D fz e1 hn hb))
  go_loopw [4] (fun i wr => ∃ k : Nat, k ≤ qs.length + 1 ∧ i = .int .i64 k ∧ Ds.group (Ds.bl s) = Ds.rest (fun q => decide (Ds.num (Ds.bl q) = 0)) (qs ++ [q]) k ∧ w1 = wr) (fun i _ => qs.length + 1 - (intOf i).toNat)
  case atStart => exact ⟨0, by omega, rfl, HP.out, rfl⟩
  case round =>
    obtain ⟨k, hk, rfl, hq, rfl⟩ := hrel
    have HQ := Lib.hid hq
    clear hq
    by_cases hlt : k < qs.length + 1
    · have hlt' : k < (qs ++ [q]).length := by simp; omega
      have hr := Ds.rest_next (fun q => decide (Ds.num (Ds.bl q) = 0)) (qs ++ [q]) k hlt'
      have hc := S k hlt'
      generalize (qs ++ [q])[k] = x at hr hc
      by_cases hG : 0 < Ds.num (Ds.bl x)
      · rw [decide_eq_false (by omega)] at hr
        have HR := Lib.hid (HQ.out.trans hr)
        have eG : decide (0 < (Ds.num (Ds.bl x) : Int)) = true := by rw [decide_eq_true_eq]; omega
        clear hr hlt'
        go_wp2_with (go_at_call 65; (with_reducible refine (rds_number _ _).mono ?_); rintro e w' ⟨rfl, rfl⟩)
        go_ret
        exact ⟨ret_bool HR.out.symm, B⟩
      · rw [decide_eq_true (by omega)] at hr
        have HR := Lib.hid (HQ.out.trans hr)
        have eG : decide (0 < (Ds.num (Ds.bl x) : Int)) = false := by rw [decide_eq_false_iff_not]; omega
        clear hr hlt'
        go_wp2_with (go_at_call 65; (with_reducible refine (rds_number _ _).mono ?_); rintro e w' ⟨rfl, rfl⟩)
        go_roundw
        case rel => exact ⟨k + 1, by omega, by go_num, HR.out, trivial⟩
        case measure => simp [intOf]; omega
    · have hr := HQ.out.trans (Ds.rest_end (fun q => decide (Ds.num (Ds.bl q) = 0)) (qs ++ [q]) k (by simp; omega))
      have HR := Lib.hid hr
      clear hr
      obtain rfl : k = qs.length + 1 := by omega
      go_wp2_with fail
      go_ret
      exact ⟨ret_bool HR.out.symm, B⟩
theorem rds_quals_no (s : ByteArray) (w : World) (hn : Ds.name (Ds.bl s) = false) :
    Calls Tryd.prog 29 #[.string s] w fun e w' => e = .returned (.slice none 0 0) ∧ Below w.heap.size w w' := by
  go_enter Tryd.func29, Tryd.ntmps29
  go_wp2_with (go_at_call 24; (with_reducible refine (rds_Valid _ _).mono ?_); rintro e w1 ⟨rfl, hb⟩)
  go_ret
  exact ⟨rfl, hb⟩
theorem rname_size (s : ByteArray) (hn : Ds.name (Ds.bl s) = true) : s.size ≤ 31 ∧ 1 ≤ s.size := by
  unfold Ds.name at hn
  simp only [Bool.and_eq_true, decide_eq_true_eq, Ds.bl_length] at hn
  omega
theorem rds_quals_yes (s : ByteArray) (w : World) (hn : Ds.name (Ds.bl s) = true) :
    Calls Tryd.prog 29 #[.string s] w fun e w' => ∃ (ps : List ByteArray) (b c : Nat), ps.map Ds.bl = Ds.pieces (Ds.bl s) ∧ ps.length ≤ 32 ∧ w.heap.size ≤ b ∧ b < w'.heap.size ∧ ps.length ≤ c ∧ e = .returned (.slice (some ⟨b, 0, none⟩) ps.length c) ∧ Strs w' b ps ∧ Below w.heap.size w w' := by
  have hs := (rname_size s hn).1
  have hs' : s.size ≤ 1000 := by omega
  go_enter Tryd.func29, Tryd.ntmps29
  go_wp2_with (first
    | (go_at_call 24; (with_reducible refine (rds_Valid _ _).mono ?_); rintro e w0 ⟨rfl, hb⟩)
    | (go_at_call 38; (with_reducible refine (rds_parts _ _ hs').mono ?_); rintro e w1 ⟨qs, q, g, cap, hp, hql, hg1, hg2, rfl, S, fz, hcap, B⟩; have HP := Lib.hid hp; have B := bt hb B; clear hp fz))
  go_ret
  exact ⟨qs ++ [q], g, cap, HP.out, by simp; omega, by have := hb.size; omega, hg2, by simpa using hcap, by simp, S, B⟩
end Go.Proofs.YtdboejjognfmfaaDoor
