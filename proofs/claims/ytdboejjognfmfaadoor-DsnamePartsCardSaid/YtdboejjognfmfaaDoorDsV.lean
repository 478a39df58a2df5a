/- Contracts of the reference: key, Order. -/
import Derived.Test.YtdboejjognfmfaaDoorDsU
import Derived.Test.YtdboejjognfmfaaDoorDsK
import Derived.WalkLawsBesides
namespace Go.Proofs.YtdboejjognfmfaaDoor
open Go.RowKit
set_option maxHeartbeats 400000
theorem Strs.set {w : World} {b : Nat} {ps : List ByteArray} (h : Strs w b ps) (i : Nat) (hi : i < ps.length) (t : ByteArray) : Strs (w.setCell ⟨b, i, none⟩ (.string t)) b (ps.set i t) := fun k hk => by
  have hk' : k < ps.length := by simpa using hk
  have h0 := h i hi
  have h1 := h k hk'
  by_cases e : i = k
  · subst e; simp [go_sem, h0]
  · rw [List.getElem_set_ne e, ← h1]
    have e' : (i == k) = false := by simpa using e
    simp [go_sem]
namespace Ds
theorem less_cmp : ∀ a b : List UInt8, Op.bytesLess a b = decide (Lib.compareBytes a b < 0)
  | [], [] => by simp [Op.bytesLess, Lib.compareBytes]
  | [], _ :: _ => by simp [Op.bytesLess, Lib.compareBytes]
  | _ :: _, [] => by simp [Op.bytesLess, Lib.compareBytes]
  | x :: a, y :: b => by
    rw [Op.bytesLess, less_cmp a b]
    rcases u8_tri x y with h | h | h
    · rw [cmp_lt _ _ _ _ h]; simp [h]
    · subst h; rw [cmp_cons]; simp [UInt8.lt_irrefl]
    · have h1 : ¬ x < y := fun h' => absurd (UInt8.lt_trans h h') (UInt8.lt_irrefl y)
      have h2 : x ≠ y := fun e => UInt8.lt_irrefl y (e ▸ h)
      rw [cmp_gt _ _ _ _ h]; simp [h1, h2]
theorem keyQ_len (q : List UInt8) : (keyQ q).length ≤ q.length := by
  unfold keyQ; split
  · rename_i h; subst h; simp
  · simp
theorem join_map_len (f : List UInt8 → List UInt8) (hf : ∀ q, (f q).length ≤ q.length) : ∀ L : List (List UInt8), (Lib.join (L.map f) [46]).length ≤ (Lib.join L [46]).length
  | [] => by simp [Lib.join_nil]
  | [a] => by simpa [Lib.join_one] using hf a
  | a :: b :: r => by
    have ih := join_map_len f hf (b :: r)
    rw [List.map_cons, List.map_cons, join_cons2, join_cons2]
    rw [List.map_cons] at ih
    have := hf a
    simp only [List.length_append]; omega
theorem k1_len (l : List UInt8) (k : Nat) : ((l.take k).map k1).length ≤ l.length := by simp; omega
theorem k1_next (s : ByteArray) (k : Nat) (h : k < s.size) (t : ByteArray) (ht : bl t = ((bl s).take k).map k1) (u : ByteArray) (hu : bl u = [k1 s[k]]) : bl (t ++ u) = ((bl s).take (k + 1)).map k1 := by
  rw [bl_append, ht, hu, take_next s k h]; simp
theorem keyQ_all (s : ByteArray) (h : ¬ s = ⟨#[42, 42]⟩) (k : Nat) (hk : s.size ≤ k) : ((bl s).take k).map k1 = keyQ (bl s) := by
  rw [keyQ_map _ (fun e => h ((bl_eq s [42, 42]).2 e)), List.take_of_length_le (by rw [bl_length]; exact hk)]
theorem k1_ne (c : UInt8) (h : c.toNat ≠ 42) : k1 c = c := by
  unfold k1; rw [if_neg]; rintro rfl; exact h rfl
theorem k1_eq (c : UInt8) (h : c.toNat = 42) : k1 c = 254 := by
  unfold k1; rw [if_pos (UInt8.toNat_inj.1 h)]
/-- the list behind i rounds of key -/
def Keyed (ps ts : List ByteArray) (i : Nat) : Prop := ts.length = ps.length ∧ (∀ k (h : k < ts.length) (h' : k < ps.length), i ≤ k → ts[k] = ps[k]) ∧ ∀ k (h : k < ts.length) (h' : k < ps.length), k < i → bl ts[k] = keyQ (bl ps[k])
theorem Keyed.start (ps : List ByteArray) : Keyed ps ps 0 := ⟨rfl, fun _ _ _ _ => rfl, fun _ _ _ h => by omega⟩
theorem Keyed.step {ps ts : List ByteArray} {i : Nat} (h : Keyed ps ts i) (hi : i < ps.length) (t : ByteArray) (ht : bl t = keyQ (bl ps[i])) : Keyed ps (ts.set i t) (i + 1) := by
  refine ⟨by simp [h.1], fun k hk hk' hik => ?_, fun k hk hk' hik => ?_⟩
  · rw [List.getElem_set_ne (by omega)]
    exact h.2.1 k (by simpa using hk) hk' (by omega)
  · by_cases e : i = k
    · subst e; rw [List.getElem_set_self]; exact ht
    · rw [List.getElem_set_ne e]
      exact h.2.2 k (by simpa using hk) hk' (by omega)
theorem Keyed.done {ps ts : List ByteArray} (h : Keyed ps ts ps.length) : ts.map bl = (ps.map bl).map keyQ := by
  apply List.ext_getElem
  · simp [h.1]
  · intro k h1 h2
    simp only [List.getElem_map]
    exact h.2.2 k (by simpa using h1) (by simpa using h2) (by simpa using h2)
end Ds
theorem rds_key (s : ByteArray) (w : World) (hs : s.size ≤ 60) :
    Calls Tryd.prog 43 #[.string s] w fun e w' => ∃ t : ByteArray, Ds.bl t = Ds.key (Ds.bl s) ∧ e = .returned (.string t) ∧ Below w.heap.size w w' := by
  have hs' : s.size ≤ 1000 := by omega
  go_enter Tryd.func43, Tryd.ntmps43
  go_wp2_with (go_at_call 38; (with_reducible refine (rds_parts _ _ hs').mono ?_); rintro e w1 ⟨qs, q, g, cap, hp, hql, hg1, hg2, rfl, S, fz, hcap, B⟩; have HP := Lib.hid hp; have HS := Lib.hid S; have HZ := Lib.hid fz; clear hp S fz)
  have HJ := Lib.hid (show (Lib.join (((qs ++ [q]).map Ds.bl).map Ds.keyQ) [46]).length ≤ 1000 by
    have h1 := Ds.join_map_len Ds.keyQ Ds.keyQ_len ((qs ++ [q]).map Ds.bl)
    have h2 := Ds.joined_len HP.out
    rw [Ds.bl_length] at h2; omega)
  go_loopw [4, 5, 6] (fun i _ _ wr => ∃ (k : Nat) (ts : List ByteArray), k ≤ qs.length + 1 ∧ i = .int .i64 k ∧ Ds.Keyed (qs ++ [q]) ts k ∧ Strs wr g ts ∧ (∀ o, wr.frozen? ⟨g, o, none⟩ = false) ∧ g < wr.heap.size ∧ Below w.heap.size w wr) (fun i _ _ _ => qs.length + 1 - (intOf i).toNat)
  case atStart => exact ⟨0, qs ++ [q], by omega, rfl, Ds.Keyed.start _, HS.out, HZ.out, hg2, B⟩
  case round =>
    obtain ⟨k, ts, hk, rfl, hK, S, fz, hlt2, B⟩ := hrel
    have hlen : ts.length = qs.length + 1 := by rw [hK.1]; simp
    have HL := Lib.hid hlen
    by_cases hlt : k < qs.length + 1
    · have hk1 : k < ts.length := by omega
      have hk2 : k < (qs ++ [q]).length := by simp; omega
      have hx := hK.2.1 k hk1 hk2 (Nat.le_refl _)
      have hxl := Ds.piece_len HP.out k hk2
      rw [Ds.bl_length] at hxl
      have hc := S k hk1
      rw [hx] at hc
      have HKS := Lib.hid (fun t ht => hK.step hk2 t ht)
      have HSS := Lib.hid (fun t => S.set k hk1 t)
      have fk := fz k
      have HZ2 := Lib.hid fz
      clear hx S fz hlen hK
      generalize (qs ++ [q])[k] = x at hxl hc HKS
      by_cases hxx : x = ⟨#[42, 42]⟩
      · subst hxx
        go_wp2_with fail
        go_loopw [5, 6] (fun t j wo => t = .string ⟨#[]⟩ ∧ j = .int .i64 0 ∧ wr = wo) (fun _ _ _ => 0)
        case atStart => exact ⟨rfl, rfl, rfl⟩
        case round =>
          obtain ⟨rfl, rfl, rfl⟩ := hrel
          go_wp2_with fail
          go_roundw
          case rel => exact ⟨k + 1, _, by omega, by go_num, HKS.out ⟨#[255]⟩ rfl, HSS.out _, by intro o; simpa using HZ2.out o, by simpa using hlt2, B.setCell (by simpa using hg1) _⟩
          case measure => simp [intOf]; omega
      · have hne := Ds.bl_beq x [42, 42] hxx
        have hne2 : (x.toList != [42, 42]) = true := by simpa using hne
        have HX := Lib.hid hxx
        clear hxx
        go_wp2_with fail
        obtain ⟨wo, hwo⟩ : ∃ wo : World, wo = wr := ⟨_, rfl⟩
        subst hwo
        go_loopw [5, 6] (fun t j wi => ∃ (m : Nat) (u : ByteArray), m ≤ x.size ∧ j = .int .i64 m ∧ t = .string u ∧ Ds.bl u = ((Ds.bl x).take m).map Ds.k1 ∧ wo = wi) (fun _ j _ => x.size - (intOf j).toNat)
        case atStart => exact ⟨0, ⟨#[]⟩, by omega, rfl, rfl, rfl, rfl⟩
        case round =>
          obtain ⟨m, u, hm, rfl, rfl, hu, rfl⟩ := hrel
          have hul : u.size ≤ 60 := by
            have := Ds.k1_len (Ds.bl x) m
            rw [← Ds.bl_length, hu]; rw [Ds.bl_length] at this; omega
          have HU := Lib.hid hu
          clear hu
          by_cases hmx : m < x.size
          · by_cases h42 : x[m].toNat = 42
            · have e42 : ((x[m].toNat : Int) == 42) = true := by simp [h42]
              have HN := Lib.hid (Ds.k1_next x m hmx u HU.out ⟨#[254]⟩ (by rw [Ds.k1_eq _ h42]; rfl))
              clear h42
              go_wp2_with fail
              go_roundw
              case rel => exact ⟨m + 1, _, by omega, by go_num, rfl, HN.out, trivial⟩
              case measure => simp [intOf]; omega
            · have e42 : ((x[m].toNat : Int) == 42) = false := by simp; omega
              have HN := Lib.hid (Ds.k1_next x m hmx u HU.out (x.extract m (m + 1)) (by rw [Ds.k1_ne _ h42, Ds.bl_one x m hmx]))
              clear h42
              go_wp2_with fail
              go_roundw
              case rel => exact ⟨m + 1, _, by omega, by go_num, rfl, HN.out, trivial⟩
              case measure => simp [intOf]; omega
          · obtain rfl : m = x.size := by omega
            have HT := Lib.hid (HU.out.trans (Ds.keyQ_all x HX.out x.size (Nat.le_refl _)))
            go_wp2_with fail
            go_roundw
            case rel => exact ⟨k + 1, _, by omega, by go_num, HKS.out u HT.out, HSS.out _, by intro o; simpa using HZ2.out o, by simpa using hlt2, B.setCell (by simpa using hg1) _⟩
            case measure => simp [intOf]; omega
    · obtain rfl : k = qs.length + 1 := by omega
      have hsl := hs
      have hK' : Ds.Keyed (qs ++ [q]) ts (qs ++ [q]).length := by simpa using hK
      have HD := Lib.hid hK'.done
      have hjl : (Lib.join (ts.map Ds.bl) [46]).length ≤ 1000 := by rw [HD.out]; exact HJ.out
      have hn1 : qs.length + 1 ≤ ts.length := by omega
      have hn3 : ts.length ≤ 1000 := by rw [hlen]; omega
      have hps := Lib.hid (fun j (h : j < ts.length) => show ts[j].size ≤ 1000 by
        have h' : j < (qs ++ [q]).length := by simp; omega
        have := hK'.2.2 j h h' h'
        rw [← Ds.bl_length, this]
        have h1 := Ds.keyQ_len (Ds.bl (qs ++ [q])[j])
        have h2 := Ds.piece_len HP.out j h'
        rw [Ds.bl_length] at h1 h2; omega)
      have HK := Lib.hid hK'
      clear hK hK' hlen fz
      go_wp2_with (go_at_call 64; (with_reducible refine (rds_join ts g _ _ _ S hn1 hcap hjl hn3 hps).mono ?_); rintro e w' ⟨rfl, rfl⟩)
      go_ret
      refine ⟨_, ?_, rfl, B⟩
      rw [Ds.bl_mk, List.take_of_length_le (by rw [List.length_map, HL.out]; exact Nat.le_refl _), HD.out, HP.out]
      rfl
theorem rds_order (a b : ByteArray) (w : World) (ha : a.size ≤ 60) (hb : b.size ≤ 60) :
    Calls Tryd.prog 14 #[.string a, .string b] w fun e w' => e = .returned (.int .i64 (Ds.order (Ds.bl a) (Ds.bl b))) ∧ Below w.heap.size w w' := by
  have D := Ds.order_ref (Ds.bl a) (Ds.bl b)
  have B := Below.refl w.heap.size w
  cases pa : Ds.pat (Ds.bl a)
  · have DD := Lib.hid (show Ds.order (Ds.bl a) (Ds.bl b) = 0 by rw [← D, if_neg (by simp [pa])])
    clear D
    go_enter Tryd.func14, Tryd.ntmps14
    go_wp2_with (go_at_call 26; (with_reducible refine (rds_pat _ _).mono ?_); rintro e w1 ⟨rfl, hb⟩; have B := Below.trans B (hb.mono B.size); clear hb)
    go_ret
    exact ⟨ret_int (by rw [DD.out]), B⟩
  cases pb : Ds.pat (Ds.bl b)
  · have DD := Lib.hid (show Ds.order (Ds.bl a) (Ds.bl b) = 0 by rw [← D, if_neg (by simp [pb])])
    clear D
    go_enter Tryd.func14, Tryd.ntmps14
    go_wp2_with (go_at_call 26; (with_reducible refine (rds_pat _ _).mono ?_); rintro e w1 ⟨rfl, hb⟩; have B := Below.trans B (hb.mono B.size); clear hb)
    go_ret
    exact ⟨ret_int (by rw [DD.out]), B⟩
  by_cases hab : a = b
  · have DD := Lib.hid (show Ds.order (Ds.bl a) (Ds.bl b) = 0 by rw [← D, if_neg (by simp [hab])])
    subst hab
    clear pb D
    go_enter Tryd.func14, Tryd.ntmps14
    go_wp2_with (go_at_call 26; (with_reducible refine (rds_pat _ _).mono ?_); rintro e w1 ⟨rfl, hb⟩; have B := Below.trans B (hb.mono B.size); clear hb)
    go_ret
    exact ⟨ret_int (by rw [DD.out]), B⟩
  · have DD := Lib.hid (show Ds.order (Ds.bl a) (Ds.bl b) = if Lib.compareBytes (Ds.key (Ds.bl a)) (Ds.key (Ds.bl b)) < 0 then -1 else 1 by
      rw [← D, if_pos ⟨pa, pb, fun e => hab (Ds.bl_inj e)⟩])
    have hne : (a.toList == b.toList) = false := by simpa using Ds.bl_neq a b hab
    have HN := Lib.hid hab
    clear D hab
    go_enter Tryd.func14, Tryd.ntmps14
    go_wp2_with (first | (go_at_call 26; (with_reducible refine (rds_pat _ _).mono ?_); rintro e w1 ⟨rfl, hb⟩; have B := Below.trans B (hb.mono B.size); clear hb) | (go_at_call 43; (with_reducible refine (rds_key a _ ha).mono ?_); rintro e w1 ⟨ta, hta, rfl, hb1⟩; have HA := Lib.hid hta; have B := bt B hb1; clear hta hb1) | (go_at_call 43; (with_reducible refine (rds_key b _ hb).mono ?_); rintro e w1 ⟨tb, htb, rfl, hb1⟩; have HB := Lib.hid htb; have B := bt B hb1; clear htb hb1))
    all_goals
      have hl : Op.bytesLess ta.toList tb.toList = decide (Lib.compareBytes (Ds.key (Ds.bl a)) (Ds.key (Ds.bl b)) < 0) := by
        rw [Ds.less_cmp, ByteArray.toList_eq, ByteArray.toList_eq, ← HA.out, ← HB.out]; rfl
      first
      | (have h : Op.bytesLess ta.toList tb.toList = true := by assumption
         rw [h] at hl
         have HL := Lib.hid hl.symm
         clear hl
         go_ret
         exact ⟨ret_int (by rw [DD.out, if_pos (of_decide_eq_true HL.out)]), B⟩)
      | (have h : Op.bytesLess ta.toList tb.toList = false := by assumption
         rw [h] at hl
         have HL := Lib.hid hl.symm
         clear hl
         go_ret
         exact ⟨ret_int (by rw [DD.out, if_neg (of_decide_eq_false HL.out)]), B⟩)
end Go.Proofs.YtdboejjognfmfaaDoor
