/- The walk of the law DsnameOrders. -/
import Derived.Test.YtdboejjognfmfaaDoorDsAw
namespace Go.Proofs.YtdboejjognfmfaaDoor
open Go.RowKit
set_option maxHeartbeats 1600000
/-- Order, the number named -/
theorem ord_is (a b : ByteArray) (x : Int) (w : World) (ha : a.size ≤ 60) (hb : b.size ≤ 60) (hx : Hid (Ds.order (Ds.bl a) (Ds.bl b) = x)) (hm : MaxL w) :
    Calls Tryd.prog 13 #[.string a, .string b] w fun e w' => e = .returned (.int .i64 x) ∧ Below w.heap.size w w' :=
  (ds_order a b w ha hb hm).mono fun _ _ ⟨h, k⟩ => ⟨by rw [h, hx.out], k⟩
theorem ord_bad (a b : ByteArray) (w : World) (h : Hid (Ds.pat (Ds.bl a) = false ∨ Ds.pat (Ds.bl b) = false)) (hm : MaxL w) :
    Calls Tryd.prog 13 #[.string a, .string b] w fun e w' => e = .returned (.int .i64 0) ∧ Below w.heap.size w w' := by
  have B := Below.refl w.heap.size w
  cases pa : Ds.pat (Ds.bl a)
  · go_enter Tryd.func13, Tryd.ntmps13
    go_wp2_with (go_at_call 18; (with_reducible refine (ds_pat _ _ hm).mono ?_); rintro e w1 ⟨rfl, hb⟩; have B := Below.trans B (hb.mono B.size); clear hb)
    go_ret
    exact ⟨rfl, B⟩
  have pb : Ds.pat (Ds.bl b) = false := by
    rcases h.out with h | h
    · rw [pa] at h; cases h
    · exact h
  go_enter Tryd.func13, Tryd.ntmps13
  go_wp2_with (go_at_call 18; (with_reducible refine (ds_pat _ _ hm).mono ?_); rintro e w1 ⟨rfl, hb⟩; have B := bt B hb; have hm := hm.below hb; clear hb)
  go_ret
  exact ⟨rfl, B⟩
theorem bl_ne (a b : ByteArray) (h : ¬ a = b) : ¬ Ds.bl a = Ds.bl b := fun e => h (Ds.bl_inj e)
theorem law_orders (a b c : ByteArray) (w : World) (hm : MaxL w) (hT : Tab w) :
    Calls Tryd.prog 5 #[.string a, .string b, .string c] w fun e w' => e = .returned (.bool true) ∧ Below w.heap.size w w' := by
  have B := Below.refl w.heap.size w
  cases pa : Ds.pat (Ds.bl a)
  · have hx : Hid (Ds.pat (Ds.bl a) = false ∨ Ds.pat (Ds.bl b) = false) := Lib.hid (.inl pa)
    go_enter Tryd.func5, Tryd.ntmps5
    go_wp2_with (first | (go_at_call 10; (with_reducible refine (ds_awake _ hm hT).mono ?_); rintro e w1 ⟨rfl, hb⟩; have B := bt B hb; have hm := hm.below hb; have hT := Tab.below hT hb; clear hb) | (go_at_call 18; (with_reducible refine (ds_pat _ _ hm).mono ?_); rintro e w1 ⟨rfl, hb⟩; have B := bt B hb; have hm := hm.below hb; have hT := Tab.below hT hb; clear hb) | (go_at_call 13; (with_reducible refine (ord_bad a b _ hx hm).mono ?_); rintro e w1 ⟨rfl, hb⟩; have B := bt B hb; have hm := hm.below hb; have hT := Tab.below hT hb; clear hb))
    go_ret
    exact ⟨rfl, B⟩
  cases pb : Ds.pat (Ds.bl b)
  · have hx : Hid (Ds.pat (Ds.bl a) = false ∨ Ds.pat (Ds.bl b) = false) := Lib.hid (.inr pb)
    go_enter Tryd.func5, Tryd.ntmps5
    go_wp2_with (first | (go_at_call 10; (with_reducible refine (ds_awake _ hm hT).mono ?_); rintro e w1 ⟨rfl, hb⟩; have B := bt B hb; have hm := hm.below hb; have hT := Tab.below hT hb; clear hb) | (go_at_call 18; (with_reducible refine (ds_pat _ _ hm).mono ?_); rintro e w1 ⟨rfl, hb⟩; have B := bt B hb; have hm := hm.below hb; have hT := Tab.below hT hb; clear hb) | (go_at_call 13; (with_reducible refine (ord_bad a b _ hx hm).mono ?_); rintro e w1 ⟨rfl, hb⟩; have B := bt B hb; have hm := hm.below hb; have hT := Tab.below hT hb; clear hb))
    go_ret
    exact ⟨rfl, B⟩
  cases pc : Ds.pat (Ds.bl c)
  · go_enter Tryd.func5, Tryd.ntmps5
    go_wp2_with (first | (go_at_call 10; (with_reducible refine (ds_awake _ hm hT).mono ?_); rintro e w1 ⟨rfl, hb⟩; have B := bt B hb; have hm := hm.below hb; have hT := Tab.below hT hb; clear hb) | (go_at_call 18; (with_reducible refine (ds_pat _ _ hm).mono ?_); rintro e w1 ⟨rfl, hb⟩; have B := bt B hb; have hm := hm.below hb; have hT := Tab.below hT hb; clear hb))
    go_ret
    exact ⟨rfl, B⟩
  have ha : a.size ≤ 60 := Nat.le_trans (pat_size a pa) (by omega)
  have hb : b.size ≤ 60 := Nat.le_trans (pat_size b pb) (by omega)
  have hc : c.size ≤ 60 := Nat.le_trans (pat_size c pc) (by omega)
  obtain ⟨x, hx⟩ : ∃ x, Ds.order (Ds.bl a) (Ds.bl b) = x := ⟨_, rfl⟩
  obtain ⟨y, hy⟩ : ∃ y, Ds.order (Ds.bl b) (Ds.bl c) = y := ⟨_, rfl⟩
  obtain ⟨z, hz⟩ : ∃ z, Ds.order (Ds.bl a) (Ds.bl c) = z := ⟨_, rfl⟩
  have hn : Ds.order (Ds.bl b) (Ds.bl a) = -x := by rw [Ds.order_neg, hx]
  have v1 := Ds.order_val (Ds.bl a) (Ds.bl b)
  have z1 := Ds.order_zero (Ds.bl a) (Ds.bl b) pa pb
  have t1 := Ds.order_trans (Ds.bl a) (Ds.bl b) (Ds.bl c) pa pb pc
  rw [hx] at v1 z1 t1
  rw [hy, hz] at t1
  have m1 : Ds.match_ (Ds.bl b) (Ds.bl a) = true → ¬ a = b → x = -1 := fun h hab => by rw [← hx]; exact Ds.order_match _ _ h pa (bl_ne a b hab)
  have HX := Lib.hid hx
  have HY := Lib.hid hy
  have HZ := Lib.hid hz
  have HN := Lib.hid hn
  have x1 : -1 ≤ x := by omega
  have x2 : x ≤ 1 := by omega
  clear hx hy hz hn v1
  by_cases hab : a = b
  · have hx0 : x = 0 := z1.2 (by rw [hab])
    subst hx0
    have hyz : y ≤ 0 → z ≤ 0 := fun h => t1 (by omega) h
    subst hab
    clear z1 t1 m1 pb
    by_cases hy0 : y ≤ 0
    · have hz0 := hyz hy0
      clear hyz
      go_enter Tryd.func5, Tryd.ntmps5
      go_wp2_with (first | (go_at_call 10; (with_reducible refine (ds_awake _ hm hT).mono ?_); rintro e w1 ⟨rfl, hb⟩; have B := bt B hb; have hm := hm.below hb; have hT := Tab.below hT hb; clear hb) | (go_at_call 18; (with_reducible refine (ds_pat _ _ hm).mono ?_); rintro e w1 ⟨rfl, hb⟩; have B := bt B hb; have hm := hm.below hb; have hT := Tab.below hT hb; clear hb) | (go_at_call 13; (with_reducible refine (ord_is a a 0 _ ha ha HX hm).mono ?_); rintro e w1 ⟨rfl, hb⟩; have B := bt B hb; have hm := hm.below hb; have hT := Tab.below hT hb; clear hb) | (go_at_call 13; (with_reducible refine (ord_is a c y _ ha hc HY hm).mono ?_); rintro e w1 ⟨rfl, hb⟩; have B := bt B hb; have hm := hm.below hb; have hT := Tab.below hT hb; clear hb))
      go_ret
      exact ⟨rfl, B⟩
    · have hy1 : 0 < y := by omega
      clear hyz hy0
      go_enter Tryd.func5, Tryd.ntmps5
      go_wp2_with (first | (go_at_call 10; (with_reducible refine (ds_awake _ hm hT).mono ?_); rintro e w1 ⟨rfl, hb⟩; have B := bt B hb; have hm := hm.below hb; have hT := Tab.below hT hb; clear hb) | (go_at_call 18; (with_reducible refine (ds_pat _ _ hm).mono ?_); rintro e w1 ⟨rfl, hb⟩; have B := bt B hb; have hm := hm.below hb; have hT := Tab.below hT hb; clear hb) | (go_at_call 13; (with_reducible refine (ord_is a a 0 _ ha ha HX hm).mono ?_); rintro e w1 ⟨rfl, hb⟩; have B := bt B hb; have hm := hm.below hb; have hT := Tab.below hT hb; clear hb) | (go_at_call 13; (with_reducible refine (ord_is a c y _ ha hc HY hm).mono ?_); rintro e w1 ⟨rfl, hb⟩; have B := bt B hb; have hm := hm.below hb; have hT := Tab.below hT hb; clear hb))
      go_ret
      exact ⟨rfl, B⟩
  · have hne : (a.toList == b.toList) = false := by simpa using Ds.bl_neq a b hab
    have hx0 : x ≠ 0 := fun h => bl_ne a b hab (z1.1 h)
    have hxb : (x == 0) = false := by simpa using hx0
    have HM : Hid (Ds.match_ (Ds.bl b) (Ds.bl a) = true → x = -1) := Lib.hid fun h => m1 h hab
    clear z1 m1 hab
    cases hmm : Ds.match_ (Ds.bl b) (Ds.bl a)
    · rcases (by omega : x = 1 ∨ (x = -1 ∧ 0 < y) ∨ (x = -1 ∧ y ≤ 0 ∧ z ≤ 0)) with rfl | ⟨rfl, hy0⟩ | ⟨rfl, hy0, hz0⟩
      all_goals
        clear hx0 hxb t1 x1 x2
        go_enter Tryd.func5, Tryd.ntmps5
        go_wp2_with (first | (go_at_call 10; (with_reducible refine (ds_awake _ hm hT).mono ?_); rintro e w1 ⟨rfl, hb⟩; have B := bt B hb; have hm := hm.below hb; have hT := Tab.below hT hb; clear hb) | (go_at_call 18; (with_reducible refine (ds_pat _ _ hm).mono ?_); rintro e w1 ⟨rfl, hb⟩; have B := bt B hb; have hm := hm.below hb; have hT := Tab.below hT hb; clear hb) | (go_at_call 13; (with_reducible refine (ord_is a b _ _ ha hb HX hm).mono ?_); rintro e w1 ⟨rfl, hb⟩; have B := bt B hb; have hm := hm.below hb; have hT := Tab.below hT hb; clear hb) | (go_at_call 13; (with_reducible refine (ord_is b c y _ hb hc HY hm).mono ?_); rintro e w1 ⟨rfl, hb⟩; have B := bt B hb; have hm := hm.below hb; have hT := Tab.below hT hb; clear hb) | (go_at_call 13; (with_reducible refine (ord_is a c z _ ha hc HZ hm).mono ?_); rintro e w1 ⟨rfl, hb⟩; have B := bt B hb; have hm := hm.below hb; have hT := Tab.below hT hb; clear hb) | (go_at_call 13; (with_reducible refine (ord_is b a _ _ hb ha HN hm).mono ?_); rintro e w1 ⟨rfl, hb⟩; have B := bt B hb; have hm := hm.below hb; have hT := Tab.below hT hb; clear hb) | (go_at_call 11; (with_reducible refine (ds_match _ _ _ hm).mono ?_); rintro e w1 ⟨rfl, hb⟩; have B := bt B hb; have hm := hm.below hb; have hT := Tab.below hT hb; clear hb))
        go_ret
        exact ⟨rfl, B⟩
    · have := HM.out hmm
      subst this
      rcases (by omega : 0 < y ∨ (y ≤ 0 ∧ z ≤ 0)) with hy0 | ⟨hy0, hz0⟩
      all_goals
        clear hx0 hxb t1 x1 x2
        go_enter Tryd.func5, Tryd.ntmps5
        go_wp2_with (first | (go_at_call 10; (with_reducible refine (ds_awake _ hm hT).mono ?_); rintro e w1 ⟨rfl, hb⟩; have B := bt B hb; have hm := hm.below hb; have hT := Tab.below hT hb; clear hb) | (go_at_call 18; (with_reducible refine (ds_pat _ _ hm).mono ?_); rintro e w1 ⟨rfl, hb⟩; have B := bt B hb; have hm := hm.below hb; have hT := Tab.below hT hb; clear hb) | (go_at_call 13; (with_reducible refine (ord_is a b _ _ ha hb HX hm).mono ?_); rintro e w1 ⟨rfl, hb⟩; have B := bt B hb; have hm := hm.below hb; have hT := Tab.below hT hb; clear hb) | (go_at_call 13; (with_reducible refine (ord_is b c y _ hb hc HY hm).mono ?_); rintro e w1 ⟨rfl, hb⟩; have B := bt B hb; have hm := hm.below hb; have hT := Tab.below hT hb; clear hb) | (go_at_call 13; (with_reducible refine (ord_is a c z _ ha hc HZ hm).mono ?_); rintro e w1 ⟨rfl, hb⟩; have B := bt B hb; have hm := hm.below hb; have hT := Tab.below hT hb; clear hb) | (go_at_call 13; (with_reducible refine (ord_is b a _ _ hb ha HN hm).mono ?_); rintro e w1 ⟨rfl, hb⟩; have B := bt B hb; have hm := hm.below hb; have hT := Tab.below hT hb; clear hb) | (go_at_call 11; (with_reducible refine (ds_match _ _ _ hm).mono ?_); rintro e w1 ⟨rfl, hb⟩; have B := bt B hb; have hm := hm.below hb; have hT := Tab.below hT hb; clear hb))
        go_ret
        exact ⟨rfl, B⟩
end Go.Proofs.YtdboejjognfmfaaDoor
