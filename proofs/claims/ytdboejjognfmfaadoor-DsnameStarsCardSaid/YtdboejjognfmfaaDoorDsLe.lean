/- The walk of the law DsnameStars. -/
import Derived.Test.YtdboejjognfmfaaDoorDsLd
namespace Go.Proofs.YtdboejjognfmfaaDoor
open Go.RowKit
set_option maxHeartbeats 1600000
/-- Split, the world not named -/
theorem split_own (s : ByteArray) (w : World) (hs : s.size ≤ 1000) (hm : MaxL w) :
    Calls Tryd.prog 16 #[.string s, .string ⟨#[46]⟩] w fun e w' => ∃ (ps : List ByteArray) (b : Nat), ps.map Ds.bl = Ds.pieces (Ds.bl s) ∧ 0 < ps.length ∧ ps.length ≤ s.size + 1 ∧ e = .returned (.slice (some ⟨b, 0, none⟩) ps.length ps.length) ∧ Strs w' b ps ∧ (∀ o, w'.frozen? ⟨b, o, none⟩ = false) ∧ w.heap.size ≤ b ∧ b < w'.heap.size ∧ Below w.heap.size w w' := by
  refine (split_dot s w (by omega) hm).mono ?_
  rintro e w' ⟨ps, h1, h2, rfl, rfl⟩
  refine ⟨ps, w.heap.size, h2, ?_, h1, rfl, Strs.new w ps 9, by intro o; simp, Nat.le_refl _, by simp, by (repeat (first | exact Below.refl _ _ | assumption | (refine Below.drew ?_) | (refine Below.alloc ?_ (by simp) _) | (refine Below.setCell ?_ (by simp) _)))⟩
  have := congrArg List.length h2
  rw [List.length_map] at this
  rw [this]; exact List.length_pos_iff.2 (Ds.pieces_ne _)
theorem pat_is (s : ByteArray) (b : Bool) (w : World) (h : Hid (Ds.pat (Ds.bl s) = b)) (hm : MaxL w) :
    Calls Tryd.prog 18 #[.string s] w fun e w' => e = .returned (.bool b) ∧ Below w.heap.size w w' :=
  (ds_pat s w hm).mono fun _ _ ⟨a, c⟩ => ⟨by rw [a, h.out], c⟩
theorem modk (a n : Nat) (h : 0 < n) : ∃ k, k < n ∧ (a : Int) % (n : Int) = (k : Int) := ⟨a % n, Nat.mod_lt _ h, by simp⟩
theorem modk1 (a n : Nat) : ∃ k, k ≤ n ∧ (a : Int) % ((n : Int) + 1) = (k : Int) := ⟨a % (n + 1), Nat.le_of_lt_succ (Nat.mod_lt _ (by omega)), by simp⟩
namespace Ds
theorem join_len_set (x : List UInt8) : ∀ (L : List (List UInt8)) (k : Nat), (Lib.join (L.set k x) [46]).length ≤ (Lib.join L [46]).length + x.length
  | [], k => by simp
  | [a], 0 => by simp [Lib.join_one]
  | [a], k + 1 => by simp
  | a :: b :: r, 0 => by
    rw [List.set_cons_zero, join_cons2, join_cons2]
    simp only [List.length_append]; omega
  | a :: b :: r, k + 1 => by
    have := join_len_set x (b :: r) k
    rw [List.set_cons_succ, join_cons2]
    cases e : (b :: r).set k x with
    | nil => have := congrArg List.length e; simp at this
    | cons c s =>
      rw [e] at this
      rw [join_cons2]
      simp only [List.length_append]; omega
theorem map_set (ps : List ByteArray) (k : Nat) (x : ByteArray) : (ps.set k x).map bl = (ps.map bl).set k (bl x) := by simp [List.map_set]
theorem cut_bl (s : ByteArray) (i j : Nat) : bl (s.extract 0 i ++ ⟨#[42]⟩ ++ s.extract j s.size) = (bl s).take i ++ 42 :: (bl s).drop j := by
  rw [bl_app, bl_app]
  have hx : bl (s.extract 0 i) = (bl s).take i := by unfold bl; rw [Lib.extract_data]; simp
  have hy : bl (s.extract j s.size) = (bl s).drop j := by
    unfold bl; rw [Lib.extract_data]
    rw [List.take_of_length_le (by rw [List.length_drop, Array.length_toList]; exact Nat.le_refl _)]
  rw [hx, hy]; simp [bl]
end Ds
/-- Join of a list in which one text has been replaced -/
theorem join_set_is (ps : List ByteArray) (p : ByteArray) (k : Nat) (x : ByteArray) (b n : Nat) (w : World) (hS : Hid (Strs w b (ps.set k x))) (hb : b < w.heap.size) (hp : Hid (ps.map Ds.bl = Ds.pieces (Ds.bl p))) (hn : n = ps.length) (hs : p.size ≤ 31) (hx : x.size ≤ 100) (hpl : ps.length ≤ 1000) :
    Calls Tryd.prog 17 #[.slice (some ⟨b, 0, none⟩) n n, .string ⟨#[46]⟩] w fun e w' => ∃ q : ByteArray, e = .returned (.string q) ∧ Ds.bl q = Lib.join ((Ds.pieces (Ds.bl p)).set k (Ds.bl x)) [46] ∧ Below w.heap.size w w' := by
  subst hn
  have hm : (ps.set k x).map Ds.bl = (Ds.pieces (Ds.bl p)).set k (Ds.bl x) := by rw [Ds.map_set, hp.out]
  have hl : (Lib.join ((ps.set k x).map Ds.bl) [46]).length ≤ 1000 := by
    rw [hm]
    have := Ds.join_len_set (Ds.bl x) (Ds.pieces (Ds.bl p)) k
    rw [Ds.join_pieces, Ds.bl_length, Ds.bl_length] at this
    omega
  refine (ds_join (ps.set k x) b ps.length ps.length w hS.out hb (by simp) (Nat.le_refl _) hl (by simpa using hpl)).mono ?_
  rintro e w' ⟨rfl, hb⟩
  refine ⟨_, rfl, ?_, hb⟩
  rw [Ds.bl_mk, List.take_of_length_le (by simp), hm]
theorem law_stars (p s t : ByteArray) (at_ fr to_ : Nat) (h1 : at_ ≤ 255) (h2 : fr ≤ 255) (h3 : to_ ≤ 255) (w : World) (hm : MaxL w) (hT : Tab w) :
    Calls Tryd.prog 4 #[.string p, .string s, .string t, .int .u8 at_, .int .u8 fr, .int .u8 to_] w fun e w' => e = .returned (.bool true) ∧ Below w.heap.size w w' := by
  have B := Below.refl w.heap.size w
  have hm0 := hm
  by_cases hp : p.size ≤ 31
  rotate_left
  · have e1 : decide (31 < (p.size : Int)) = true := by rw [decide_eq_true_eq]; omega
    go_enter Tryd.func4, Tryd.ntmps4
    go_wp2_with (go_at_call 10; (with_reducible refine (ds_awake _ hm hT).mono ?_); rintro e w1 ⟨rfl, hb⟩; have B := bt B hb; have hm := hm.below hb; have hT := Tab.below hT hb; clear hb)
    go_ret
    exact ⟨rfl, B⟩
  have e1 : decide (31 < (p.size : Int)) = false := by rw [decide_eq_false_iff_not]; omega
  cases ns : Ds.name (Ds.bl s)
  · go_enter Tryd.func4, Tryd.ntmps4
    go_wp2_with (first | (go_at_call 10; (with_reducible refine (ds_awake _ hm hT).mono ?_); rintro e w1 ⟨rfl, hb⟩; have B := bt B hb; have hm := hm.below hb; have hT := Tab.below hT hb; clear hb) | (go_at_call 15; (with_reducible refine (ds_valid _ _ hm).mono ?_); rintro e w1 ⟨rfl, hb⟩; have B := bt B hb; have hm := hm.below hb; have hT := Tab.below hT hb; clear hb))
    go_ret
    exact ⟨rfl, B⟩
  cases nt : Ds.name (Ds.bl t)
  · go_enter Tryd.func4, Tryd.ntmps4
    go_wp2_with (first | (go_at_call 10; (with_reducible refine (ds_awake _ hm hT).mono ?_); rintro e w1 ⟨rfl, hb⟩; have B := bt B hb; have hm := hm.below hb; have hT := Tab.below hT hb; clear hb) | (go_at_call 15; (with_reducible refine (ds_valid _ _ hm).mono ?_); rintro e w1 ⟨rfl, hb⟩; have B := bt B hb; have hm := hm.below hb; have hT := Tab.below hT hb; clear hb))
    go_ret
    exact ⟨rfl, B⟩
  have NS := Lib.hid ns
  have NT := Lib.hid nt
  have M1 := Lib.hid (show Ds.match_ (Ds.bl ⟨#[42, 42]⟩) (Ds.bl s) = true from Ds.match_all _ ns)
  have M2 := Lib.hid (show Ds.match_ (Ds.bl s) (Ds.bl t) = (s.toList == t.toList) by
    rw [Ds.match_self _ _ ns nt, Bool.eq_iff_iff, ByteArray.toList_eq, ByteArray.toList_eq]; simp [Ds.bl])
  clear ns nt
  cases hmm : Ds.match_ (Ds.bl p) (Ds.bl s)
  · have M3 := Lib.hid hmm
    clear hmm
    go_enter Tryd.func4, Tryd.ntmps4
    go_wp2_with (first | (go_at_call 10; (with_reducible refine (ds_awake _ hm hT).mono ?_); rintro e w1 ⟨rfl, hb⟩; have B := bt B hb; have hm := hm.below hb; have hT := Tab.below hT hb; clear hb) | (go_at_call 15; (with_reducible refine (valid_is s true _ NS hm).mono ?_); rintro e w1 ⟨rfl, hb⟩; have B := bt B hb; have hm := hm.below hb; have hT := Tab.below hT hb; clear hb) | (go_at_call 15; (with_reducible refine (valid_is t true _ NT hm).mono ?_); rintro e w1 ⟨rfl, hb⟩; have B := bt B hb; have hm := hm.below hb; have hT := Tab.below hT hb; clear hb) | (go_at_call 11; (with_reducible refine (match_is ⟨#[42, 42]⟩ s true _ M1 hm).mono ?_); rintro e w1 ⟨rfl, hb⟩; have B := bt B hb; have hm := hm.below hb; have hT := Tab.below hT hb; clear hb) | (go_at_call 11; (with_reducible refine (match_is s t _ _ M2 hm).mono ?_); rintro e w1 ⟨rfl, hb⟩; have B := bt B hb; have hm := hm.below hb; have hT := Tab.below hT hb; clear hb) | (go_at_call 11; (with_reducible refine (match_is p s false _ M3 hm).mono ?_); rintro e w1 ⟨rfl, hb⟩; have B := bt B hb; have hm := hm.below hb; have hT := Tab.below hT hb; clear hb))
    go_ret
    exact ⟨rfl, B⟩
  have M3 := Lib.hid hmm
  clear hmm
  have hps : p.size ≤ 1000 := by omega
  go_enter Tryd.func4, Tryd.ntmps4
  go_wp2_with (first | (go_at_call 10; (with_reducible refine (ds_awake _ hm hT).mono ?_); rintro e w1 ⟨rfl, hb⟩; have B := bt B hb; have hm := hm.below hb; have hT := Tab.below hT hb; clear hb) | (go_at_call 15; (with_reducible refine (valid_is s true _ NS hm).mono ?_); rintro e w1 ⟨rfl, hb⟩; have B := bt B hb; have hm := hm.below hb; have hT := Tab.below hT hb; clear hb) | (go_at_call 15; (with_reducible refine (valid_is t true _ NT hm).mono ?_); rintro e w1 ⟨rfl, hb⟩; have B := bt B hb; have hm := hm.below hb; have hT := Tab.below hT hb; clear hb) | (go_at_call 11; (with_reducible refine (match_is ⟨#[42, 42]⟩ s true _ M1 hm).mono ?_); rintro e w1 ⟨rfl, hb⟩; have B := bt B hb; have hm := hm.below hb; have hT := Tab.below hT hb; clear hb) | (go_at_call 11; (with_reducible refine (match_is s t _ _ M2 hm).mono ?_); rintro e w1 ⟨rfl, hb⟩; have B := bt B hb; have hm := hm.below hb; have hT := Tab.below hT hb; clear hb) | (go_at_call 11; (with_reducible refine (match_is p s true _ M3 hm).mono ?_); rintro e w1 ⟨rfl, hb⟩; have B := bt B hb; have hm := hm.below hb; have hT := Tab.below hT hb; clear hb) | (go_at_call 16; (with_reducible refine (split_own p _ hps hm).mono ?_); rintro e w2 ⟨ps, b, hpp, hpos, hpl, rfl, hS, fz, hb1, hb2, hb⟩; have HP := Lib.hid hpp; have HS := Lib.hid hS; have HZ := Lib.hid fz; have B2 := bt B hb; have hm2 := hm.below hb; have ps1 : (1 : Int) ≤ ps.length := (by omega); obtain ⟨k, hk, ek⟩ := modk at_ ps.length hpos; have hck := hS k hk; have fk := fz k; obtain ⟨x, hx⟩ : ∃ x, x = ps[k] := ⟨_, rfl⟩; rw [← hx] at hck; have HX := Lib.hid hx; have BW := Lib.hid hb; clear hpp hS fz hx hb))
  · go_ret
    exact ⟨rfl, B2⟩
  · have hne : (x.toList == [42, 42]) = false := by assumption
    have hxx : Ds.bl x ≠ [42, 42] := by
      intro e
      have : x.toList = [42, 42] := by rw [ByteArray.toList_eq]; exact e
      rw [this] at hne; simp at hne
    have hkp : k < (Ds.pieces (Ds.bl p)).length := by rw [← HP.out]; simpa using hk
    have hxp : (Ds.pieces (Ds.bl p))[k] = Ds.bl x := by
      have : (ps.map Ds.bl)[k]'(by simpa using hk) = Ds.bl x := by rw [HX.out]; simp
      rw [← this]; congr 1; exact HP.out.symm
    have hxl : x.size ≤ 31 := by
      have := Ds.piece_len HP.out k hk
      rw [Ds.bl_length] at this
      rw [HX.out]; omega
    have HXX := Lib.hid hxx
    have HXP := Lib.hid hxp
    have S1 := Lib.hid (HS.out.set k hk ⟨#[42]⟩)
    have Z1 : Hid (∀ o, (w2.setCell ⟨b, k, none⟩ (.string ⟨#[42]⟩)).frozen? ⟨b, o, none⟩ = false) := Lib.hid (by intro o; simpa using HZ.out o)
    have B3 := B2.setCell (p := ⟨b, k, none⟩) (by have := B.size; show w.heap.size ≤ b; omega) (.string ⟨#[42]⟩)
    have hm3 : MaxL (w2.setCell ⟨b, k, none⟩ (.string ⟨#[42]⟩)) := hm.below (BW.out.setCell (p := ⟨b, k, none⟩) hb1 _)
    have hb3 : b < (w2.setCell ⟨b, k, none⟩ (.string ⟨#[42]⟩)).heap.size := by simpa using hb2
    clear hne hxx hxp hck fk
    (with_reducible refine (join_set_is ps p k ⟨#[42]⟩ b ps.length _ S1 hb3 HP rfl hp (by decide) (by omega)).mono ?_)
    rintro e w3 ⟨q, rfl, hq, hb⟩
    have Q1 := Lib.hid (show Ds.match_ (Ds.bl q) (Ds.bl s) = true by rw [hq]; exact Ds.star_whole _ _ k hkp M3.out (by rw [HXP.out]; exact HXX.out))
    have S3 := Lib.hid (S1.out.below hb)
    have Z3 := Lib.hid (show ∀ o, w3.frozen? ⟨b, o, none⟩ = false from fun o => by rw [(bcell hb).2 b o hb3]; exact Z1.out o)
    have B4 := bt B3 hb
    have hm4 := hm3.below hb
    have hb4 := Nat.lt_of_lt_of_le hb3 hb.size
    clear hb hq
    obtain ⟨i, hi, ei⟩ := modk1 fr x.size
    obtain ⟨j, hj, ej⟩ := modk1 to_ x.size
    go_wp2_with (go_at_call 11; (with_reducible refine (match_is q s true _ Q1 hm4).mono ?_); rintro e w4 ⟨rfl, hb⟩; have S4 := Lib.hid (S3.out.below hb); have Z4 := Lib.hid (show ∀ o, w4.frozen? ⟨b, o, none⟩ = false from fun o => by rw [(bcell hb).2 b o hb4]; exact Z3.out o); have B5 := bt B4 hb; have hm5 := hm4.below hb; have hb5 := Nat.lt_of_lt_of_le hb4 hb.size; clear hb)
    go_region
    have k1 : (0 : Int) ≤ k := by omega
    have k2 : (k : Int) < ps.length := by omega
    have c4 : w4.cell? ⟨b, k, none⟩ = some (.string ⟨#[42]⟩) := by
      have := S4.out k (by simpa using hk)
      rw [this]; simp
    have f4 := Z4.out k
    go_wp2_with fail
    go_region
    have hX : Ds.bl (x.extract 0 (min (i : Int) (j : Int)).toNat ++ ⟨#[42]⟩ ++ x.extract (max (i : Int) (j : Int)).toNat x.size) = (Ds.bl x).take (min i j) ++ 42 :: (Ds.bl x).drop (max i j) := by
      rw [Ds.cut_bl, show (min (i : Int) (j : Int)).toNat = min i j by omega, show (max (i : Int) (j : Int)).toNat = max i j by omega]
    generalize x.extract 0 (min (i : Int) (j : Int)).toNat ++ ⟨#[42]⟩ ++ x.extract (max (i : Int) (j : Int)).toNat x.size = X at hX ⊢
    have hXl : X.size ≤ 100 := by
      have := congrArg List.length hX
      rw [Ds.bl_length, List.length_append, List.length_cons, List.length_take, List.length_drop, Ds.bl_length] at this
      omega
    have HXe := Lib.hid hX
    have S5 : Hid (Strs (w4.setCell ⟨b, k, none⟩ (.string X)).drew.drew b (ps.set k X)) := Lib.hid (by
      have := S4.out.set k (by simpa using hk) X
      rw [List.set_set] at this
      exact this)
    have Z5 : Hid (∀ o, (w4.setCell ⟨b, k, none⟩ (.string X)).drew.drew.frozen? ⟨b, o, none⟩ = false) := Lib.hid (by intro o; simpa using Z4.out o)
    have B6 : Below w.heap.size w (w4.setCell ⟨b, k, none⟩ (.string X)).drew.drew := (B5.setCell (p := ⟨b, k, none⟩) (by have := B.size; show w.heap.size ≤ b; omega) (.string X)).drew.drew
    have BW6 := Lib.hid B6
    have hm6 := hm0.below BW6.out
    have hb6 : b < (w4.setCell ⟨b, k, none⟩ (.string X)).drew.drew.heap.size := by simpa using hb5
    clear hX c4 f4 ei ej B6
    go_wp2_with fail
    (with_reducible refine (join_set_is ps p k X b ps.length _ S5 hb6 HP rfl hp hXl (by omega)).mono ?_)
    rintro e w5 ⟨q2, rfl, hq2, hb⟩
    have S6 := Lib.hid (S5.out.below hb)
    have B7 := bt BW6.out hb
    have hm7 := hm6.below hb
    have Q2 := Lib.hid hq2
    clear hb hq2
    cases pv : Ds.pat (Ds.bl q2)
    · go_wp2_with (go_at_call 18; (with_reducible refine (ds_pat q2 _ hm7).mono ?_); rintro e w6 ⟨rfl, hb⟩; have B8 := bt B7 hb; clear hb)
      go_ret
      exact ⟨rfl, B8⟩
    · have PV := Lib.hid pv
      clear pv
      by_cases hXX : X = ⟨#[42, 42]⟩
      · have c6 : ∀ w6, Below w5.heap.size w5 w6 → w6.cell? ⟨b, k, none⟩ = some (.string ⟨#[42, 42]⟩) := fun w6 hb => by
          have := (S6.out.below hb) k (by simpa using hk)
          rw [this]; simp [hXX]
        have C6 := Lib.hid c6
        clear c6 hXX
        go_wp2_with (go_at_call 18; (with_reducible refine (pat_is q2 true _ PV hm7).mono ?_); rintro e w6 ⟨rfl, hb⟩; have B8 := bt B7 hb; have c6 := C6.out _ hb; clear hb)
        go_ret
        exact ⟨rfl, B8⟩
      · have c6 : ∀ w6, Below w5.heap.size w5 w6 → w6.cell? ⟨b, k, none⟩ = some (.string X) := fun w6 hb => by
          have := (S6.out.below hb) k (by simpa using hk)
          rw [this]; simp
        have C6 := Lib.hid c6
        have hXne := Ds.bl_beq X [42, 42] hXX
        have M4 := Lib.hid (show Ds.match_ (Ds.bl q2) (Ds.bl s) = true by
          have h1 : Ds.pat (Ds.bl q2) = true := PV.out
          rw [Q2.out, HXe.out] at h1 ⊢
          have e2 : (Ds.pieces (Ds.bl p))[k] = Ds.bl x := HXP.out
          rw [← e2] at h1 ⊢
          refine Ds.star_part _ _ k (min i j) (max i j) hkp (by omega) M3.out (by rw [e2]; exact HXX.out) h1 ?_
          rw [e2, ← HXe.out]
          exact fun e => hXX ((Ds.bl_eq X [42, 42]).2 e))
        clear c6 hXX
        go_wp2_with (first | (go_at_call 18; (with_reducible refine (pat_is q2 true _ PV hm7).mono ?_); rintro e w6 ⟨rfl, hb⟩; have B8 := bt B7 hb; have hm8 := hm7.below hb; have c6 := C6.out _ hb; clear hb) | (go_at_call 11; (with_reducible refine (match_is q2 s true _ M4 hm8).mono ?_); rintro e w7 ⟨rfl, hb⟩; have B9 := bt B8 hb; clear hb))
        go_ret
        exact ⟨rfl, B9⟩
theorem law_stars_u8 (p s t : ByteArray) (a : Int) (ha : IntKind.u8.min ≤ a ∧ a ≤ IntKind.u8.max) (b : Int) (hb : IntKind.u8.min ≤ b ∧ b ≤ IntKind.u8.max) (c : Int) (hc : IntKind.u8.min ≤ c ∧ c ≤ IntKind.u8.max) (w : World) (hm : MaxL w) (hT : Tab w) :
    Calls Tryd.prog 4 #[.string p, .string s, .string t, .int .u8 a, .int .u8 b, .int .u8 c] w fun e w' => e = .returned (.bool true) ∧ Below w.heap.size w w' := by
  have e0 : IntKind.u8.min = 0 := rfl
  have e1 : IntKind.u8.max = 255 := rfl
  rw [e0, e1] at ha hb hc
  obtain ⟨i, rfl⟩ : ∃ i : Nat, a = i := ⟨a.toNat, by omega⟩
  obtain ⟨j, rfl⟩ : ∃ j : Nat, b = j := ⟨b.toNat, by omega⟩
  obtain ⟨k, rfl⟩ : ∃ k : Nat, c = k := ⟨c.toNat, by omega⟩
  exact law_stars p s t i j k (by omega) (by omega) (by omega) w hm hT
end Go.Proofs.YtdboejjognfmfaaDoor
