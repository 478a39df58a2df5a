/- The walks of the laws DsnameParts, DsnameGenerations. -/
import Derived.Test.YtdboejjognfmfaaDoorDsAw
namespace Go.Proofs.YtdboejjognfmfaaDoor
open Go.RowKit
set_option maxHeartbeats 1600000
/-- Valid, the answer named -/
theorem valid_is (s : ByteArray) (b : Bool) (w : World) (h : Hid (Ds.name (Ds.bl s) = b)) (hm : MaxL w) :
    Calls Tryd.prog 15 #[.string s] w fun e w' => e = .returned (.bool b) ∧ Below w.heap.size w w' :=
  (ds_valid s w hm).mono fun _ _ ⟨a, c⟩ => ⟨by rw [a, h.out], c⟩
theorem match_is (p s : ByteArray) (b : Bool) (w : World) (h : Hid (Ds.match_ (Ds.bl p) (Ds.bl s) = b)) (hm : MaxL w) :
    Calls Tryd.prog 11 #[.string p, .string s] w fun e w' => e = .returned (.bool b) ∧ Below w.heap.size w w' :=
  (ds_match p s w hm).mono fun _ _ ⟨a, c⟩ => ⟨by rw [a, h.out], c⟩
namespace Ds
theorem bl_app (a b : ByteArray) : bl (a ++ b) = bl a ++ bl b := by simp [bl]
theorem toLower_lower (l : List UInt8) : Lib.toLowerA l = l.map lower := by
  unfold Lib.toLowerA
  apply List.map_congr_left
  intro c _
  show Lib.lowerB c = lower c
  have e : Lib.isUpperB c = up c := by
    rw [Bool.eq_iff_iff]
    simp only [up, Bool.and_eq_true, decide_eq_true_eq]
    unfold Lib.isUpperB
    simp [UInt8.le_iff_toNat_le]
  unfold lower Lib.lowerB
  rw [e]
theorem name_ascii (s : ByteArray) (h : name (bl s) = true) : ∀ (j : Nat) (b : UInt8), s.data.toList[j]? = some b → b.toNat < 128 := by
  intro j b hb
  have hm : b ∈ bl s := List.mem_of_getElem? hb
  have hp := ((name_parts _).1 h).2
  have hj := join_pieces (bl s)
  have key : ∀ L : List (List UInt8), (∀ q ∈ L, ∀ c ∈ q, c.toNat ≤ 90) → ∀ c ∈ Lib.join L [46], c.toNat ≤ 90 := by
    intro L
    induction L with
    | nil => intro _ c hc; simp [Lib.join_nil] at hc
    | cons a r ih =>
      intro hL c hc
      cases r with
      | nil => rw [Lib.join_one] at hc; exact hL a (by simp) c hc
      | cons b r =>
        rw [join_cons2, List.mem_append, List.mem_append] at hc
        rcases hc with (hc | hc) | hc
        · exact hL a (by simp) c hc
        · simp at hc; subst hc; decide
        · exact ih (fun q hq => hL q (by simp [hq])) c hc
  have := key (pieces (bl s)) (fun q hq c hc => (pl_bd c (nameQ_pl q (hp q hq) c hc)).1) b (by rw [hj]; exact hm)
  omega
end Ds
theorem lower_of (s : ByteArray) (w : World) (h : Hid (Ds.name (Ds.bl s) = true)) (hs : s.size ≤ 1000) :
    Calls Tryd.prog 32 #[.string s] w fun e w' => ∃ t : ByteArray, e = .returned (.string t) ∧ Ds.name (Ds.bl t) = false ∧ Below w.heap.size w w' := by
  refine (Tryd.strings_ToLower_ascii s w (by omega) (Ds.name_ascii s h.out)).mono ?_
  rintro e w' ⟨rfl, hb⟩
  refine ⟨_, rfl, ?_, hb⟩
  rw [Ds.bl_mk, Ds.toLower_lower]
  exact Ds.name_lower _ h.out
theorem law_parts (a b : ByteArray) (w : World) (hm : MaxL w) (hT : Tab w) :
    Calls Tryd.prog 9 #[.string a, .string b] w fun e w' => e = .returned (.bool true) ∧ Below w.heap.size w w' := by
  have B := Below.refl w.heap.size w
  by_cases hp : a.size ≤ 31
  rotate_left
  · have e1 : decide (31 < (a.size : Int)) = true := by rw [decide_eq_true_eq]; omega
    go_enter Tryd.func9, Tryd.ntmps9
    go_wp2_with (go_at_call 10; (with_reducible refine (ds_awake _ hm hT).mono ?_); rintro e w1 ⟨rfl, hb⟩; have B := bt B hb; have hm := hm.below hb; have hT := Tab.below hT hb; clear hb)
    go_ret
    exact ⟨rfl, B⟩
  have e1 : decide (31 < (a.size : Int)) = false := by rw [decide_eq_false_iff_not]; omega
  by_cases hq : b.size ≤ 31
  rotate_left
  · have e2 : decide (31 < (b.size : Int)) = true := by rw [decide_eq_true_eq]; omega
    go_enter Tryd.func9, Tryd.ntmps9
    go_wp2_with (go_at_call 10; (with_reducible refine (ds_awake _ hm hT).mono ?_); rintro e w1 ⟨rfl, hb⟩; have B := bt B hb; have hm := hm.below hb; have hT := Tab.below hT hb; clear hb)
    go_ret
    exact ⟨rfl, B⟩
  have e2 : decide (31 < (b.size : Int)) = false := by rw [decide_eq_false_iff_not]; omega
  have ht : Ds.bl (a ++ ⟨#[46]⟩ ++ b) = Ds.bl a ++ 46 :: Ds.bl b := by rw [Ds.bl_app, Ds.bl_app]; simp [Ds.bl]
  by_cases hab : Ds.name (Ds.bl a) = true ∧ Ds.name (Ds.bl b) = true
  · obtain ⟨ha, hb⟩ := hab
    have HA := Lib.hid ha
    have HB := Lib.hid hb
    have hl : (Ds.bl a ++ 46 :: Ds.bl b).length = a.size + 1 + b.size := by rw [List.length_append, List.length_cons, Ds.bl_length, Ds.bl_length]; omega
    have HV := Lib.hid (show Ds.name (Ds.bl (a ++ ⟨#[46]⟩ ++ b)) = decide (a.size + 1 + b.size ≤ 31) by rw [ht, Ds.parts_yes _ _ ha hb, hl])
    have H2 := Lib.hid (show Ds.name (Ds.bl (a ++ ⟨#[46]⟩ ++ ⟨#[46]⟩ ++ b)) = false by
      rw [show Ds.bl (a ++ ⟨#[46]⟩ ++ ⟨#[46]⟩ ++ b) = Ds.bl a ++ 46 :: 46 :: Ds.bl b by simp [Ds.bl]]; exact Ds.parts_two _ _)
    have H3 := Lib.hid (show Ds.name (Ds.bl (a ++ ⟨#[46]⟩)) = false by
      rw [show Ds.bl (a ++ ⟨#[46]⟩) = Ds.bl a ++ [46] by simp [Ds.bl]]; exact Ds.parts_end _)
    have H4 := Lib.hid (show Ds.name (Ds.bl (⟨#[46]⟩ ++ a)) = false by
      rw [show Ds.bl (⟨#[46]⟩ ++ a) = 46 :: Ds.bl a by simp [Ds.bl]]; exact Ds.parts_start _)
    have hs2 : a.size ≤ 1000 := by omega
    clear ht hl ha hb
    by_cases h31 : a.size + 1 + b.size ≤ 31
    · have HV' := Lib.hid (HV.out.trans (decide_eq_true h31))
      have e5 : (a.size : Int) + 1 + b.size ≤ 31 := by omega
      go_enter Tryd.func9, Tryd.ntmps9
      go_wp2_with (first | (go_at_call 10; (with_reducible refine (ds_awake _ hm hT).mono ?_); rintro e w1 ⟨rfl, hb⟩; have B := bt B hb; have hm := hm.below hb; have hT := Tab.below hT hb; clear hb) | (go_at_call 15; (with_reducible refine (valid_is a true _ HA hm).mono ?_); rintro e w1 ⟨rfl, hb⟩; have B := bt B hb; have hm := hm.below hb; have hT := Tab.below hT hb; clear hb) | (go_at_call 15; (with_reducible refine (valid_is b true _ HB hm).mono ?_); rintro e w1 ⟨rfl, hb⟩; have B := bt B hb; have hm := hm.below hb; have hT := Tab.below hT hb; clear hb) | (go_at_call 15; (with_reducible refine (valid_is (a ++ ⟨#[46]⟩ ++ b) true _ HV' hm).mono ?_); rintro e w1 ⟨rfl, hb⟩; have B := bt B hb; have hm := hm.below hb; have hT := Tab.below hT hb; clear hb) | (go_at_call 15; (with_reducible refine (valid_is (a ++ ⟨#[46]⟩ ++ ⟨#[46]⟩ ++ b) false _ H2 hm).mono ?_); rintro e w1 ⟨rfl, hb⟩; have B := bt B hb; have hm := hm.below hb; have hT := Tab.below hT hb; clear hb) | (go_at_call 15; (with_reducible refine (valid_is (a ++ ⟨#[46]⟩) false _ H3 hm).mono ?_); rintro e w1 ⟨rfl, hb⟩; have B := bt B hb; have hm := hm.below hb; have hT := Tab.below hT hb; clear hb) | (go_at_call 15; (with_reducible refine (valid_is (⟨#[46]⟩ ++ a) false _ H4 hm).mono ?_); rintro e w1 ⟨rfl, hb⟩; have B := bt B hb; have hm := hm.below hb; have hT := Tab.below hT hb; clear hb) | (go_at_call 32; (with_reducible refine (lower_of a _ HA hs2).mono ?_); rintro e w1 ⟨t, rfl, ht, hb⟩; have HT := Lib.hid ht; have B := bt B hb; have hm := hm.below hb; have hT := Tab.below hT hb; clear hb ht) | (go_at_call 15; (with_reducible refine (valid_is _ false _ HT hm).mono ?_); rintro e w1 ⟨rfl, hb⟩; have B := bt B hb; have hm := hm.below hb; have hT := Tab.below hT hb; clear hb))
      go_ret
      exact ⟨rfl, B⟩
    · have HV' := Lib.hid (HV.out.trans (decide_eq_false h31))
      have e5 : decide ((a.size : Int) + 1 + b.size ≤ 31) = false := by rw [decide_eq_false_iff_not]; omega
      go_enter Tryd.func9, Tryd.ntmps9
      go_wp2_with (first | (go_at_call 10; (with_reducible refine (ds_awake _ hm hT).mono ?_); rintro e w1 ⟨rfl, hb⟩; have B := bt B hb; have hm := hm.below hb; have hT := Tab.below hT hb; clear hb) | (go_at_call 15; (with_reducible refine (valid_is a true _ HA hm).mono ?_); rintro e w1 ⟨rfl, hb⟩; have B := bt B hb; have hm := hm.below hb; have hT := Tab.below hT hb; clear hb) | (go_at_call 15; (with_reducible refine (valid_is b true _ HB hm).mono ?_); rintro e w1 ⟨rfl, hb⟩; have B := bt B hb; have hm := hm.below hb; have hT := Tab.below hT hb; clear hb) | (go_at_call 15; (with_reducible refine (valid_is (a ++ ⟨#[46]⟩ ++ b) false _ HV' hm).mono ?_); rintro e w1 ⟨rfl, hb⟩; have B := bt B hb; have hm := hm.below hb; have hT := Tab.below hT hb; clear hb) | (go_at_call 15; (with_reducible refine (valid_is (a ++ ⟨#[46]⟩ ++ ⟨#[46]⟩ ++ b) false _ H2 hm).mono ?_); rintro e w1 ⟨rfl, hb⟩; have B := bt B hb; have hm := hm.below hb; have hT := Tab.below hT hb; clear hb) | (go_at_call 15; (with_reducible refine (valid_is (a ++ ⟨#[46]⟩) false _ H3 hm).mono ?_); rintro e w1 ⟨rfl, hb⟩; have B := bt B hb; have hm := hm.below hb; have hT := Tab.below hT hb; clear hb) | (go_at_call 15; (with_reducible refine (valid_is (⟨#[46]⟩ ++ a) false _ H4 hm).mono ?_); rintro e w1 ⟨rfl, hb⟩; have B := bt B hb; have hm := hm.below hb; have hT := Tab.below hT hb; clear hb) | (go_at_call 32; (with_reducible refine (lower_of a _ HA hs2).mono ?_); rintro e w1 ⟨t, rfl, ht, hb⟩; have HT := Lib.hid ht; have B := bt B hb; have hm := hm.below hb; have hT := Tab.below hT hb; clear hb ht) | (go_at_call 15; (with_reducible refine (valid_is _ false _ HT hm).mono ?_); rintro e w1 ⟨rfl, hb⟩; have B := bt B hb; have hm := hm.below hb; have hT := Tab.below hT hb; clear hb))
      go_ret
      exact ⟨rfl, B⟩
  · have HV := Lib.hid (show Ds.name (Ds.bl (a ++ ⟨#[46]⟩ ++ b)) = false by rw [ht]; exact Ds.parts_no _ _ hab)
    have HAB := Lib.hid hab
    clear ht hab
    cases ha : Ds.name (Ds.bl a)
    · have HA := Lib.hid ha
      clear ha
      go_enter Tryd.func9, Tryd.ntmps9
      go_wp2_with (first | (go_at_call 10; (with_reducible refine (ds_awake _ hm hT).mono ?_); rintro e w1 ⟨rfl, hb⟩; have B := bt B hb; have hm := hm.below hb; have hT := Tab.below hT hb; clear hb) | (go_at_call 15; (with_reducible refine (valid_is a false _ HA hm).mono ?_); rintro e w1 ⟨rfl, hb⟩; have B := bt B hb; have hm := hm.below hb; have hT := Tab.below hT hb; clear hb) | (go_at_call 15; (with_reducible refine (valid_is (a ++ ⟨#[46]⟩ ++ b) false _ HV hm).mono ?_); rintro e w1 ⟨rfl, hb⟩; have B := bt B hb; have hm := hm.below hb; have hT := Tab.below hT hb; clear hb))
      go_ret
      exact ⟨rfl, B⟩
    · have hb : Ds.name (Ds.bl b) = false := by
        rw [Bool.eq_false_iff]; exact fun h => HAB.out ⟨ha, h⟩
      have HA := Lib.hid ha
      have HB := Lib.hid hb
      clear ha hb
      go_enter Tryd.func9, Tryd.ntmps9
      go_wp2_with (first | (go_at_call 10; (with_reducible refine (ds_awake _ hm hT).mono ?_); rintro e w1 ⟨rfl, hb⟩; have B := bt B hb; have hm := hm.below hb; have hT := Tab.below hT hb; clear hb) | (go_at_call 15; (with_reducible refine (valid_is a true _ HA hm).mono ?_); rintro e w1 ⟨rfl, hb⟩; have B := bt B hb; have hm := hm.below hb; have hT := Tab.below hT hb; clear hb) | (go_at_call 15; (with_reducible refine (valid_is b false _ HB hm).mono ?_); rintro e w1 ⟨rfl, hb⟩; have B := bt B hb; have hm := hm.below hb; have hT := Tab.below hT hb; clear hb) | (go_at_call 15; (with_reducible refine (valid_is (a ++ ⟨#[46]⟩ ++ b) false _ HV hm).mono ?_); rintro e w1 ⟨rfl, hb⟩; have B := bt B hb; have hm := hm.below hb; have hT := Tab.below hT hb; clear hb))
      go_ret
      exact ⟨rfl, B⟩
end Go.Proofs.YtdboejjognfmfaaDoor
