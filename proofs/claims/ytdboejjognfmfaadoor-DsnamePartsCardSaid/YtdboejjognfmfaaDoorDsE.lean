/- Contracts: Qualifiers, First. -/
import Derived.Test.YtdboejjognfmfaaDoorDsD
namespace Go.Proofs.YtdboejjognfmfaaDoor
open Go.RowKit
set_option maxHeartbeats 400000

theorem ds_quals_no (s : ByteArray) (w : World) (hm : MaxL w) (hn : Ds.name (Ds.bl s) = false) :
    Calls Tryd.prog 28 #[.string s] w fun e w' => e = .returned (.slice none 0 0) ∧ Below w.heap.size w w' := by
  go_enter Tryd.func28, Tryd.ntmps28
  go_wp2_with (go_at_call 15; (with_reducible refine (ds_valid _ _ hm).mono ?_); rintro e w1 ⟨rfl, hb⟩)
  go_ret
  exact ⟨rfl, hb⟩
theorem name_size (s : ByteArray) (hn : Ds.name (Ds.bl s) = true) : s.size ≤ 31 ∧ 1 ≤ s.size := by
  unfold Ds.name at hn
  simp only [Bool.and_eq_true, decide_eq_true_eq, Ds.bl_length] at hn
  omega
theorem ds_quals_yes (s : ByteArray) (w : World) (hm : MaxL w) (hn : Ds.name (Ds.bl s) = true) :
    Calls Tryd.prog 28 #[.string s] w fun e w' => ∃ (ps : List ByteArray) (b : Nat), ps.map Ds.bl = Ds.pieces (Ds.bl s) ∧ ps.length ≤ 32 ∧ w.heap.size ≤ b ∧ b < w'.heap.size ∧ e = .returned (.slice (some ⟨b, 0, none⟩) ps.length ps.length) ∧ Strs w' b ps ∧ Below w.heap.size w w' := by
  have hs := (name_size s hn).1
  have hs' : s.size < 4294967281 := by omega
  go_enter Tryd.func28, Tryd.ntmps28
  go_wp2_with (first
    | (go_at_call 15; (with_reducible refine (ds_valid _ _ hm).mono ?_); rintro e w1 ⟨rfl, hb⟩; have hm1 := hm.below hb)
    | (go_at_call 16; (with_reducible refine (split_dot _ _ hs' hm1).mono ?_); rintro e w' ⟨ps, hpl, hp, rfl, rfl⟩; have HP := Lib.hid hp; clear hp))
  go_ret
  exact ⟨ps, w1.heap.size, HP.out, by omega, hb.size, by simp, rfl, Strs.new w1 ps 9, by (have hzz := (hb).size; (repeat (first | exact Below.refl _ _ | assumption | (refine Below.drew ?_) | (refine Below.alloc ?_ (by first | (simp; done) | (simp; omega) | omega) _) | (refine Below.setCell ?_ (by first | (simp; done) | (simp; omega) | omega) _))))⟩
theorem ds_join (ps : List ByteArray) (b n c : Nat) (w : World) (hS : Strs w b ps) (hb : b < w.heap.size) (hn : n ≤ ps.length) (hc : n ≤ c) (hl : (Lib.join (ps.map Ds.bl) [46]).length ≤ 1000) (hp : ps.length ≤ 1000) :
    Calls Tryd.prog 17 #[.slice (some ⟨b, 0, none⟩) n c, .string ⟨#[46]⟩] w fun e w' => e = .returned (.string ⟨(Lib.join ((ps.map Ds.bl).take n) [46]).toArray⟩) ∧ Below w.heap.size w w' := by
  have h1 := Ds.join_take (ps.map Ds.bl) [46] n
  have e : (ps.take n).map (·.data.toList) = (ps.map Ds.bl).take n := by rw [List.map_take]; rfl
  have h := Tryd.strings_Join b 0 c (ps.take n) ⟨#[46]⟩ w (fun j x hx => by
    have hj : j < ps.length := by
      rcases Nat.lt_or_ge j ps.length with h | h
      · exact h
      · rw [List.getElem?_eq_none (by simp; omega)] at hx; cases hx
    rw [List.getElem?_take] at hx
    split at hx
    · rw [List.getElem?_eq_getElem hj] at hx
      rw [Nat.zero_add, hS j hj, Option.some.inj hx]
    · cases hx) hb (by simp; omega) (by simp; omega) (by rw [e]; exact Nat.le_trans h1 (by omega))
  rw [e, List.length_take, Nat.min_eq_left hn] at h
  exact h
theorem ds_join0 (k c : Nat) (sep : ByteArray) (w : World) (hk : k = 0) :
    Calls Tryd.prog 17 #[.slice none k c, .string sep] w fun e w' => e = .returned (.string ⟨#[]⟩) ∧ w' = w := by
  subst hk
  exact Tryd.strings_Join_none none c sep w
theorem ds_first (n : Int) (s : ByteArray) (w : World) (hm : MaxL w) :
    Calls Tryd.prog 30 #[.int .i64 n, .string s] w fun e w' => e = .returned (.string ⟨(Ds.first n (Ds.bl s)).toArray⟩) ∧ Below w.heap.size w w' := by
  cases hn : Ds.name (Ds.bl s)
  · have D := Lib.hid (show Ds.first n (Ds.bl s) = [] by unfold Ds.first; rw [hn]; rfl)
    have e0 : (min (max n 0) 0).toNat = 0 := by omega
    go_enter Tryd.func30, Tryd.ntmps30
    go_wp2_with (first
      | (go_at_call 28; (with_reducible refine (ds_quals_no _ _ hm hn).mono ?_); rintro e w1 ⟨rfl, hb⟩)
      | (go_at_call 17; (with_reducible refine (ds_join0 _ _ _ _ (by omega)).mono ?_); rintro e w' ⟨rfl, rfl⟩))
    go_ret
    exact ⟨ret_str (by rw [D.out]), hb⟩
  · have hjl : (Lib.join (Ds.pieces (Ds.bl s)) [46]).length ≤ 1000 := by
      rw [Ds.join_pieces, Ds.bl_length]
      have := name_size s hn
      omega
    have D := Lib.hid (show Ds.first n (Ds.bl s) = Lib.join ((Ds.pieces (Ds.bl s)).take n.toNat) [46] by unfold Ds.first; rw [hn]; rfl)
    go_enter Tryd.func30, Tryd.ntmps30
    go_wp2_with (first
      | (go_at_call 28; (with_reducible refine (ds_quals_yes _ _ hm hn).mono ?_); rintro e w1 ⟨ps, b, hp, hl, hb1, hb2, rfl, hS, hb⟩; have HP := Lib.hid hp; clear hp)
      | (go_at_call 17; (with_reducible refine (ds_join ps b _ _ _ hS hb2 (by omega) (by omega) (by rw [HP.out]; exact hjl) (by omega)).mono ?_); rintro e w2 ⟨rfl, hb3⟩))
    go_ret
    refine ⟨ret_str ?_, bt hb hb3⟩
    rw [D.out, HP.out]
    congr 3
    have hlen := congrArg List.length HP.out
    rw [List.length_map] at hlen
    rcases Nat.le_total n.toNat ps.length with h | h
    · congr 1; omega
    · rw [List.take_of_length_le (by omega), List.take_of_length_le (by omega)]
end Go.Proofs.YtdboejjognfmfaaDoor
