/- The walks of awake, DsnameMatches. -/
import Derived.Test.YtdboejjognfmfaaDoorDsH
import Derived.Test.YtdboejjognfmfaaDoorDsW
import Derived.Test.YtdboejjognfmfaaDoorDsY
namespace Go.Proofs.YtdboejjognfmfaaDoor
open Go.RowKit
set_option maxHeartbeats 800000
namespace Ds
theorem aw1 : gnS [80, 65, 89, 46, 77, 65, 83, 84, 69, 82] 3 = [80, 65, 89, 46, 77, 65, 83, 84, 69, 82, 46, 71, 48, 48, 48, 51, 86, 48, 48] ∧ gnE [80, 65, 89, 46, 77, 65, 83, 84, 69, 82] 3 = 0 := by decide +kernel
theorem aw2 : splG [80, 65, 89, 46, 77, 65, 83, 84, 69, 82, 46, 71, 48, 48, 48, 51, 86, 48, 48] = [80, 65, 89, 46, 77, 65, 83, 84, 69, 82] ∧ splN [80, 65, 89, 46, 77, 65, 83, 84, 69, 82, 46, 71, 48, 48, 48, 51, 86, 48, 48] = 3 ∧ gen [80, 65, 89, 46, 77, 65, 83, 84, 69, 82, 46, 71, 48, 48, 48, 51, 86, 48, 48] = true := by decide +kernel
theorem aw3 : match_ [80, 65, 89, 46, 42, 42] [80, 65, 89] = true := by
  rw [match_parts]
  refine ⟨by decide +kernel, by decide +kernel, (mt_iff _ _ _ _).2 ?_⟩
  exact .one (by decide) (by rw [mtQ_eq _ _ (by decide)]; decide) (.skip (by decide) .nil)
theorem aw4 : match_ [80, 65, 89, 46, 42] [80, 65, 89] = false := by
  simp [match_, mtP, pieces, mt]
theorem aw5 : order [80, 65, 89, 46, 65] [80, 65, 89, 46, 65, 42] = -1 := by decide +kernel
theorem aw6 : (pieces [80, 65, 89, 46, 65]).length = 2 ∧ name [80, 65, 89, 46, 65] = true := by decide +kernel
end Ds
theorem aw_gen (w : World) (hm : MaxL w) (hT : Tab w) : Calls Tryd.prog 19 #[.string ⟨#[80, 65, 89, 46, 77, 65, 83, 84, 69, 82]⟩, .int .i64 3] w fun e w' => e = .returned (.tuple #[.string ⟨#[80, 65, 89, 46, 77, 65, 83, 84, 69, 82, 46, 71, 48, 48, 48, 51, 86, 48, 48]⟩, .int .i64 0]) ∧ Below w.heap.size w w' := by
  have h := ds_gen ⟨#[80, 65, 89, 46, 77, 65, 83, 84, 69, 82]⟩ 3 w hm hT
  rw [show Ds.bl ⟨#[80, 65, 89, 46, 77, 65, 83, 84, 69, 82]⟩ = [80, 65, 89, 46, 77, 65, 83, 84, 69, 82] from rfl, Ds.aw1.1, Ds.aw1.2] at h
  exact h
theorem aw_split (w : World) (hm : MaxL w) : Calls Tryd.prog 21 #[.string ⟨#[80, 65, 89, 46, 77, 65, 83, 84, 69, 82, 46, 71, 48, 48, 48, 51, 86, 48, 48]⟩] w fun e w' => e = .returned (.tuple #[.string ⟨#[80, 65, 89, 46, 77, 65, 83, 84, 69, 82]⟩, .int .i64 3, .bool true]) ∧ Below w.heap.size w w' := by
  have h := ds_split ⟨#[80, 65, 89, 46, 77, 65, 83, 84, 69, 82, 46, 71, 48, 48, 48, 51, 86, 48, 48]⟩ w (by decide) hm
  rw [show Ds.bl ⟨#[80, 65, 89, 46, 77, 65, 83, 84, 69, 82, 46, 71, 48, 48, 48, 51, 86, 48, 48]⟩ = [80, 65, 89, 46, 77, 65, 83, 84, 69, 82, 46, 71, 48, 48, 48, 51, 86, 48, 48] from rfl, Ds.aw2.1, Ds.aw2.2.1, Ds.aw2.2.2] at h
  exact h
theorem aw_m1 (w : World) (hm : MaxL w) : Calls Tryd.prog 11 #[.string ⟨#[80, 65, 89, 46, 42, 42]⟩, .string ⟨#[80, 65, 89]⟩] w fun e w' => e = .returned (.bool true) ∧ Below w.heap.size w w' := by
  have h := ds_match ⟨#[80, 65, 89, 46, 42, 42]⟩ ⟨#[80, 65, 89]⟩ w hm
  rw [show Ds.bl ⟨#[80, 65, 89, 46, 42, 42]⟩ = [80, 65, 89, 46, 42, 42] from rfl, show Ds.bl ⟨#[80, 65, 89]⟩ = [80, 65, 89] from rfl, Ds.aw3] at h
  exact h
theorem aw_m2 (w : World) (hm : MaxL w) : Calls Tryd.prog 11 #[.string ⟨#[80, 65, 89, 46, 42]⟩, .string ⟨#[80, 65, 89]⟩] w fun e w' => e = .returned (.bool false) ∧ Below w.heap.size w w' := by
  have h := ds_match ⟨#[80, 65, 89, 46, 42]⟩ ⟨#[80, 65, 89]⟩ w hm
  rw [show Ds.bl ⟨#[80, 65, 89, 46, 42]⟩ = [80, 65, 89, 46, 42] from rfl, show Ds.bl ⟨#[80, 65, 89]⟩ = [80, 65, 89] from rfl, Ds.aw4] at h
  exact h
theorem aw_ord (w : World) (hm : MaxL w) : Calls Tryd.prog 13 #[.string ⟨#[80, 65, 89, 46, 65]⟩, .string ⟨#[80, 65, 89, 46, 65, 42]⟩] w fun e w' => e = .returned (.int .i64 (-1)) ∧ Below w.heap.size w w' := by
  have h := ds_order ⟨#[80, 65, 89, 46, 65]⟩ ⟨#[80, 65, 89, 46, 65, 42]⟩ w (by decide) (by decide) hm
  rw [show Ds.bl ⟨#[80, 65, 89, 46, 65]⟩ = [80, 65, 89, 46, 65] from rfl, show Ds.bl ⟨#[80, 65, 89, 46, 65, 42]⟩ = [80, 65, 89, 46, 65, 42] from rfl, Ds.aw5] at h
  exact h
theorem aw_quals (w : World) (hm : MaxL w) : Calls Tryd.prog 28 #[.string ⟨#[80, 65, 89, 46, 65]⟩] w fun e w' => ∃ b, e = .returned (.slice (some ⟨b, 0, none⟩) 2 2) ∧ Below w.heap.size w w' := by
  refine (ds_quals_yes ⟨#[80, 65, 89, 46, 65]⟩ w hm Ds.aw6.2).mono ?_
  rintro e w' ⟨ps, b, hp, _, _, _, rfl, _, hb⟩
  have : ps.length = 2 := by
    have := congrArg List.length hp
    rw [List.length_map] at this
    exact this.trans Ds.aw6.1
  exact ⟨b, by rw [this], hb⟩
theorem ds_awake (w : World) (hm : MaxL w) (hT : Tab w) :
    Calls Tryd.prog 10 #[] w fun e w' => e = .returned (.bool true) ∧ Below w.heap.size w w' := by
  have B := Below.refl w.heap.size w
  go_enter Tryd.func10, Tryd.ntmps10
  go_wp2_with (first | (go_at_call 19; (with_reducible refine (aw_gen _ hm hT).mono ?_); rintro e w1 ⟨rfl, hb⟩; have B := bt B hb; have hm := hm.below hb; have hT := Tab.below hT hb; clear hb) | (go_at_call 21; (with_reducible refine (aw_split _ hm).mono ?_); rintro e w1 ⟨rfl, hb⟩; have B := bt B hb; have hm := hm.below hb; have hT := Tab.below hT hb; clear hb) | (go_at_call 11; (with_reducible refine (aw_m1 _ hm).mono ?_); rintro e w1 ⟨rfl, hb⟩; have B := bt B hb; have hm := hm.below hb; have hT := Tab.below hT hb; clear hb) | (go_at_call 11; (with_reducible refine (aw_m2 _ hm).mono ?_); rintro e w1 ⟨rfl, hb⟩; have B := bt B hb; have hm := hm.below hb; have hT := Tab.below hT hb; clear hb) | (go_at_call 13; (with_reducible refine (aw_ord _ hm).mono ?_); rintro e w1 ⟨rfl, hb⟩; have B := bt B hb; have hm := hm.below hb; have hT := Tab.below hT hb; clear hb) | (go_at_call 28; (with_reducible refine (aw_quals _ hm).mono ?_); rintro e w1 ⟨b, rfl, hb⟩; have B := bt B hb; clear hb))
  go_ret
  exact ⟨rfl, B⟩
theorem law_matches (p q s : ByteArray) (w : World) (hm : MaxL w) (hT : Tab w) :
    Calls Tryd.prog 3 #[.string p, .string q, .string s] w fun e w' => e = .returned (.bool true) ∧ Below w.heap.size w w' := by
  have B := Below.refl w.heap.size w
  by_cases hp : p.size ≤ 60
  rotate_left
  · have e1 : decide (60 < (p.size : Int)) = true := by rw [decide_eq_true_eq]; omega
    go_enter Tryd.func3, Tryd.ntmps3
    go_wp2_with (go_at_call 10; (with_reducible refine (ds_awake _ hm hT).mono ?_); rintro e w1 ⟨rfl, hb⟩; have B := bt B hb; have hm := hm.below hb; have hT := Tab.below hT hb; clear hb)
    go_ret
    exact ⟨rfl, B⟩
  have e1 : decide (60 < (p.size : Int)) = false := by rw [decide_eq_false_iff_not]; omega
  by_cases hq : q.size ≤ 60
  rotate_left
  · have e2 : decide (60 < (q.size : Int)) = true := by rw [decide_eq_true_eq]; omega
    go_enter Tryd.func3, Tryd.ntmps3
    go_wp2_with (go_at_call 10; (with_reducible refine (ds_awake _ hm hT).mono ?_); rintro e w1 ⟨rfl, hb⟩; have B := bt B hb; have hm := hm.below hb; have hT := Tab.below hT hb; clear hb)
    go_ret
    exact ⟨rfl, B⟩
  have e2 : decide (60 < (q.size : Int)) = false := by rw [decide_eq_false_iff_not]; omega
  by_cases hs : s.size ≤ 60
  rotate_left
  · have e3 : decide (60 < (s.size : Int)) = true := by rw [decide_eq_true_eq]; omega
    go_enter Tryd.func3, Tryd.ntmps3
    go_wp2_with (go_at_call 10; (with_reducible refine (ds_awake _ hm hT).mono ?_); rintro e w1 ⟨rfl, hb⟩; have B := bt B hb; have hm := hm.below hb; have hT := Tab.below hT hb; clear hb)
    go_ret
    exact ⟨rfl, B⟩
  have e3 : decide (60 < (s.size : Int)) = false := by rw [decide_eq_false_iff_not]; omega
  go_enter Tryd.func3, Tryd.ntmps3
  go_wp2_with (first | (go_at_call 10; (with_reducible refine (ds_awake _ hm hT).mono ?_); rintro e w1 ⟨rfl, hb⟩; have B := bt B hb; have hm := hm.below hb; have hT := Tab.below hT hb; clear hb) | (go_at_call 11; (with_reducible refine (ds_match _ _ _ hm).mono ?_); rintro e w1 ⟨rfl, hb⟩; have B := bt B hb; have hm := hm.below hb; have hT := Tab.below hT hb; clear hb) | (go_at_call 12; (with_reducible refine (rds_match _ _ _).mono ?_); rintro e w1 ⟨rfl, hb⟩; have B := bt B hb; have hm := hm.below hb; have hT := Tab.below hT hb; clear hb) | (go_at_call 13; (with_reducible refine (ds_order _ _ _ hp hq hm).mono ?_); rintro e w1 ⟨rfl, hb⟩; have B := bt B hb; have hm := hm.below hb; have hT := Tab.below hT hb; clear hb) | (go_at_call 14; (with_reducible refine (rds_order _ _ _ hp hq).mono ?_); rintro e w1 ⟨rfl, hb⟩; have B := bt B hb; have hm := hm.below hb; have hT := Tab.below hT hb; clear hb))
  go_ret
  exact ⟨rfl, B⟩
end Go.Proofs.YtdboejjognfmfaaDoor
