/- The walks of the laws DsnameGenerations, DsnameBelow. -/
import Derived.Test.YtdboejjognfmfaaDoorDsLc
namespace Go.Proofs.YtdboejjognfmfaaDoor
open Go.RowKit
set_option maxHeartbeats 1600000
theorem gen_is (g : ByteArray) (n : Int) (a : ByteArray) (e0 : Int) (w : World) (h : Hid (Ds.gnS (Ds.bl g) n = Ds.bl a ∧ Ds.gnE (Ds.bl g) n = e0)) (hm : MaxL w) (hT : Tab w) :
    Calls Tryd.prog 19 #[.string g, .int .i64 n] w fun e w' => e = .returned (.tuple #[.string a, .int .i64 e0]) ∧ Below w.heap.size w w' :=
  (ds_gen g n w hm hT).mono fun _ _ ⟨x, c⟩ => ⟨by rw [x, h.out.1, h.out.2, Ds.mk_bl], c⟩
theorem split_is (s g : ByteArray) (n : Int) (w : World) (hs : s.size ≤ 1000) (h : Hid (Ds.splG (Ds.bl s) = Ds.bl g ∧ (Ds.splN (Ds.bl s) : Int) = n ∧ Ds.gen (Ds.bl s) = true)) (hm : MaxL w) :
    Calls Tryd.prog 21 #[.string s] w fun e w' => e = .returned (.tuple #[.string g, .int .i64 n, .bool true]) ∧ Below w.heap.size w w' :=
  (ds_split s w hs hm).mono fun _ _ ⟨x, c⟩ => ⟨by rw [x, h.out.1, h.out.2.1, h.out.2.2, Ds.mk_bl], c⟩
theorem group_is (s : ByteArray) (b : Bool) (w : World) (h : Hid (Ds.group (Ds.bl s) = b)) (hm : MaxL w) :
    Calls Tryd.prog 20 #[.string s] w fun e w' => e = .returned (.bool b) ∧ Below w.heap.size w w' :=
  (ds_group s w hm).mono fun _ _ ⟨a, c⟩ => ⟨by rw [a, h.out], c⟩
theorem gen_named (g : ByteArray) (n : Nat) : ∃ a : ByteArray, Ds.bl a = Ds.genName (Ds.bl g) n := ⟨⟨(Ds.genName (Ds.bl g) n).toArray⟩, Ds.bl_mk _⟩
theorem gn_of (g a : ByteArray) (n : Nat) (hg : Ds.group (Ds.bl g) = true) (h1 : 1 ≤ n) (h2 : n ≤ 9999) (ha : Ds.bl a = Ds.genName (Ds.bl g) n) : Ds.gnS (Ds.bl g) n = Ds.bl a ∧ Ds.gnE (Ds.bl g) n = 0 := by
  have := Ds.gn_ok (Ds.bl g) n hg (by omega) (by omega)
  rw [Int.toNat_natCast] at this
  exact ⟨by rw [this.1, ha], this.2⟩
theorem law_generations (g : ByteArray) (n m : Int) (w : World) (hm : MaxL w) (hT : Tab w) :
    Calls Tryd.prog 6 #[.string g, .int .i64 n, .int .i64 m] w fun e w' => e = .returned (.bool true) ∧ Below w.heap.size w w' := by
  have B := Below.refl w.heap.size w
  by_cases hp : g.size ≤ 31
  rotate_left
  · have e1 : decide (31 < (g.size : Int)) = true := by rw [decide_eq_true_eq]; omega
    go_enter Tryd.func6, Tryd.ntmps6
    go_wp2_with (go_at_call 10; (with_reducible refine (ds_awake _ hm hT).mono ?_); rintro e w1 ⟨rfl, hb⟩; have B := bt B hb; have hm := hm.below hb; have hT := Tab.below hT hb; clear hb)
    go_ret
    exact ⟨rfl, B⟩
  have e1 : decide (31 < (g.size : Int)) = false := by rw [decide_eq_false_iff_not]; omega
  cases hg : Ds.group (Ds.bl g)
  · have HG := Lib.hid hg
    have HN := Lib.hid (show Ds.gnS (Ds.bl g) n = Ds.bl ⟨#[]⟩ ∧ Ds.gnE (Ds.bl g) n = 1 from Ds.gn_arg _ n hg)
    have HM := Lib.hid (show Ds.gnS (Ds.bl g) m = Ds.bl ⟨#[]⟩ ∧ Ds.gnE (Ds.bl g) m = 1 from Ds.gn_arg _ m hg)
    clear hg
    go_enter Tryd.func6, Tryd.ntmps6
    go_wp2_with (first | (go_at_call 10; (with_reducible refine (ds_awake _ hm hT).mono ?_); rintro e w1 ⟨rfl, hb⟩; have B := bt B hb; have hm := hm.below hb; have hT := Tab.below hT hb; clear hb) | (go_at_call 19; (with_reducible refine (gen_is g n ⟨#[]⟩ 1 _ HN hm hT).mono ?_); rintro e w1 ⟨rfl, hb⟩; have B := bt B hb; have hm := hm.below hb; have hT := Tab.below hT hb; clear hb) | (go_at_call 19; (with_reducible refine (gen_is g m ⟨#[]⟩ 1 _ HM hm hT).mono ?_); rintro e w1 ⟨rfl, hb⟩; have B := bt B hb; have hm := hm.below hb; have hT := Tab.below hT hb; clear hb) | (go_at_call 20; (with_reducible refine (group_is g false _ HG hm).mono ?_); rintro e w1 ⟨rfl, hb⟩; have B := bt B hb; have hm := hm.below hb; have hT := Tab.below hT hb; clear hb))
    go_ret
    exact ⟨rfl, B⟩
  have HG := Lib.hid hg
  have hm0 : ∃ (b : ByteArray) (f : Int), Ds.gnS (Ds.bl g) m = Ds.bl b ∧ Ds.gnE (Ds.bl g) m = f ∧ ((f = 2 ∧ (m < 1 ∨ 9999 < m)) ∨ (f = 0 ∧ 1 ≤ m ∧ m ≤ 9999)) := by
    by_cases h : 1 ≤ m ∧ m ≤ 9999
    · obtain ⟨h1, h2⟩ := h
      obtain ⟨j, rfl⟩ : ∃ j : Nat, m = j := ⟨m.toNat, by omega⟩
      obtain ⟨b, hb⟩ := gen_named g j
      have := gn_of g b j hg (by omega) (by omega) hb
      exact ⟨b, 0, this.1, this.2, .inr ⟨rfl, h1, h2⟩⟩
    · have := Ds.gn_range (Ds.bl g) m hg (by omega)
      exact ⟨⟨#[]⟩, 2, this.1, this.2, .inl ⟨rfl, by omega⟩⟩
  obtain ⟨b, f, hb, hf, hbf⟩ := hm0
  have HM := Lib.hid (And.intro hb hf)
  clear hf
  by_cases hn : n < 1 ∨ 9999 < n
  · have HN := Lib.hid (show Ds.gnS (Ds.bl g) n = Ds.bl ⟨#[]⟩ ∧ Ds.gnE (Ds.bl g) n = 2 from Ds.gn_range _ n hg hn)
    clear hg hb hbf
    rcases hn with hn | hn
    all_goals
      go_enter Tryd.func6, Tryd.ntmps6
      go_wp2_with (first | (go_at_call 10; (with_reducible refine (ds_awake _ hm hT).mono ?_); rintro e w1 ⟨rfl, hb⟩; have B := bt B hb; have hm := hm.below hb; have hT := Tab.below hT hb; clear hb) | (go_at_call 19; (with_reducible refine (gen_is g n ⟨#[]⟩ 2 _ HN hm hT).mono ?_); rintro e w1 ⟨rfl, hb⟩; have B := bt B hb; have hm := hm.below hb; have hT := Tab.below hT hb; clear hb) | (go_at_call 19; (with_reducible refine (gen_is g m b f _ HM hm hT).mono ?_); rintro e w1 ⟨rfl, hb⟩; have B := bt B hb; have hm := hm.below hb; have hT := Tab.below hT hb; clear hb) | (go_at_call 20; (with_reducible refine (group_is g true _ HG hm).mono ?_); rintro e w1 ⟨rfl, hb⟩; have B := bt B hb; have hm := hm.below hb; have hT := Tab.below hT hb; clear hb))
      go_ret
      exact ⟨rfl, B⟩
  obtain ⟨k, rfl⟩ : ∃ k : Nat, n = k := ⟨n.toNat, by omega⟩
  have k1 : 1 ≤ k := by omega
  have k2 : k ≤ 9999 := by omega
  obtain ⟨a, ha⟩ := gen_named g k
  have HN := Lib.hid (gn_of g a k hg k1 k2 ha)
  have has : a.size ≤ 1000 := by
    rw [← Ds.bl_length, ha]
    have := ((Ds.name_parts _).1 (Ds.gen_name _ k hg)).1.2
    omega
  have HS := Lib.hid (show Ds.splG (Ds.bl a) = Ds.bl g ∧ (Ds.splN (Ds.bl a) : Int) = (k : Int) ∧ Ds.gen (Ds.bl a) = true by
    have h := Ds.gen_gen (Ds.bl g) k hg (by omega) k2
    rw [ha]
    refine ⟨?_, ?_, h⟩
    · unfold Ds.splG; rw [h, if_pos rfl, Ds.gen_front]
    · unfold Ds.splN; rw [h, if_pos rfl, Ds.gen_last, Ds.gq_num k k2])
  have HV := Lib.hid (show Ds.name (Ds.bl a) = true by rw [ha]; exact Ds.gen_name _ k hg)
  have HW := Lib.hid (show Ds.group (Ds.bl a) = false by rw [ha]; exact Ds.gen_nogroup _ k (by omega) k2)
  have HP := Lib.hid (show Ds.match_ (Ds.bl (g ++ ⟨#[46, 71, 42, 86, 48, 48]⟩)) (Ds.bl a) = true by
    rw [ha, Ds.bl_app]; exact Ds.gen_match _ k hg)
  clear hn
  rcases hbf with ⟨rfl, hmr⟩ | ⟨rfl, hm1, hm2⟩
  · clear hg ha hb
    rcases hmr with hmr | hmr
    all_goals
      go_enter Tryd.func6, Tryd.ntmps6
      go_wp2_with (first | (go_at_call 10; (with_reducible refine (ds_awake _ hm hT).mono ?_); rintro e w1 ⟨rfl, hb⟩; have B := bt B hb; have hm := hm.below hb; have hT := Tab.below hT hb; clear hb) | (go_at_call 19; (with_reducible refine (gen_is g k a 0 _ HN hm hT).mono ?_); rintro e w1 ⟨rfl, hb⟩; have B := bt B hb; have hm := hm.below hb; have hT := Tab.below hT hb; clear hb) | (go_at_call 19; (with_reducible refine (gen_is g m b 2 _ HM hm hT).mono ?_); rintro e w1 ⟨rfl, hb⟩; have B := bt B hb; have hm := hm.below hb; have hT := Tab.below hT hb; clear hb) | (go_at_call 20; (with_reducible refine (group_is g true _ HG hm).mono ?_); rintro e w1 ⟨rfl, hb⟩; have B := bt B hb; have hm := hm.below hb; have hT := Tab.below hT hb; clear hb))
      go_ret
      exact ⟨rfl, B⟩
  · obtain ⟨j, rfl⟩ : ∃ j : Nat, m = j := ⟨m.toNat, by omega⟩
    have j1 : 1 ≤ j := by omega
    have j2 : j ≤ 9999 := by omega
    have hb' : Ds.bl b = Ds.genName (Ds.bl g) j := by
      have := (Ds.gn_ok (Ds.bl g) j hg (by omega) (by omega)).1
      rw [Int.toNat_natCast] at this
      rw [← hb, this]
    have hlt : Op.bytesLess a.toList b.toList = decide ((k : Int) < j) := by
      rw [Ds.less_cmp, ByteArray.toList_eq, ByteArray.toList_eq, show a.data.toList = Ds.bl a from rfl, show b.data.toList = Ds.bl b from rfl, ha, hb', Ds.gen_cmp _ k j k2 j2]
      congr 1
      rw [eq_iff_iff]
      split
      · simp; omega
      · split
        · simp; omega
        · simp; omega
    have heq : (a.toList == b.toList) = ((k : Int) == j) := by
      rw [Bool.eq_iff_iff, beq_iff_eq, beq_iff_eq, ByteArray.toList_eq, ByteArray.toList_eq]
      have := Ds.gen_inj (Ds.bl g) k j k2 j2
      rw [← ha, ← hb'] at this
      exact this.trans (by omega)
    clear hg ha hb hb'
    go_enter Tryd.func6, Tryd.ntmps6
    go_wp2_with (first | (go_at_call 10; (with_reducible refine (ds_awake _ hm hT).mono ?_); rintro e w1 ⟨rfl, hb⟩; have B := bt B hb; have hm := hm.below hb; have hT := Tab.below hT hb; clear hb) | (go_at_call 19; (with_reducible refine (gen_is g k a 0 _ HN hm hT).mono ?_); rintro e w1 ⟨rfl, hb⟩; have B := bt B hb; have hm := hm.below hb; have hT := Tab.below hT hb; clear hb) | (go_at_call 19; (with_reducible refine (gen_is g j b 0 _ HM hm hT).mono ?_); rintro e w1 ⟨rfl, hb⟩; have B := bt B hb; have hm := hm.below hb; have hT := Tab.below hT hb; clear hb) | (go_at_call 20; (with_reducible refine (group_is g true _ HG hm).mono ?_); rintro e w1 ⟨rfl, hb⟩; have B := bt B hb; have hm := hm.below hb; have hT := Tab.below hT hb; clear hb) | (go_at_call 21; (with_reducible refine (split_is a g k _ has HS hm).mono ?_); rintro e w1 ⟨rfl, hb⟩; have B := bt B hb; have hm := hm.below hb; have hT := Tab.below hT hb; clear hb) | (go_at_call 15; (with_reducible refine (valid_is a true _ HV hm).mono ?_); rintro e w1 ⟨rfl, hb⟩; have B := bt B hb; have hm := hm.below hb; have hT := Tab.below hT hb; clear hb) | (go_at_call 20; (with_reducible refine (group_is a false _ HW hm).mono ?_); rintro e w1 ⟨rfl, hb⟩; have B := bt B hb; have hm := hm.below hb; have hT := Tab.below hT hb; clear hb) | (go_at_call 11; (with_reducible refine (match_is _ a true _ HP hm).mono ?_); rintro e w1 ⟨rfl, hb⟩; have B := bt B hb; have hm := hm.below hb; have hT := Tab.below hT hb; clear hb))
    go_ret
    exact ⟨rfl, B⟩
/-! DsnameBelow -/
theorem join_is (ps : List ByteArray) (s : ByteArray) (b n : Nat) (w : World) (hS : Hid (Strs w b ps)) (hb : b < w.heap.size) (hp : Hid (ps.map Ds.bl = Ds.pieces (Ds.bl s))) (hn : n = ps.length) (hs : s.size ≤ 31) (hpl : ps.length ≤ 1000) :
    Calls Tryd.prog 17 #[.slice (some ⟨b, 0, none⟩) n n, .string ⟨#[46]⟩] w fun e w' => e = .returned (.string s) ∧ Below w.heap.size w w' := by
  subst hn
  have hj := Ds.joined_len hp.out
  rw [Ds.bl_length] at hj
  refine (ds_join ps b _ _ w hS.out hb (Nat.le_refl _) (Nat.le_refl _) (by omega) hpl).mono ?_
  rintro e w' ⟨rfl, hb⟩
  refine ⟨ret_str (Ds.bl_inj ?_), hb⟩
  rw [Ds.bl_mk, List.take_of_length_le (by simp), hp.out, Ds.join_pieces]
theorem first_is (s : ByteArray) (n : Int) (w : World) (h : Hid (Ds.first n (Ds.bl s) = Ds.bl s)) (hm : MaxL w) :
    Calls Tryd.prog 30 #[.int .i64 n, .string s] w fun e w' => e = .returned (.string s) ∧ Below w.heap.size w w' :=
  (ds_first n s w hm).mono fun _ _ ⟨a, c⟩ => ⟨by rw [a, h.out, Ds.mk_bl], c⟩
def anyF (p s : List UInt8) (k : Nat) : Bool := (List.range k).any fun n => Ds.match_ p (Ds.first ((n : Int) + 1) s)
theorem anyF_next (p s : List UInt8) (k : Nat) : anyF p s (k + 1) = (anyF p s k || Ds.match_ p (Ds.first ((k : Int) + 1) s)) := by
  unfold anyF; rw [List.range_succ, List.any_append]; simp
theorem law_below (p s : ByteArray) (w : World) (hm : MaxL w) (hT : Tab w) :
    Calls Tryd.prog 8 #[.string p, .string s] w fun e w' => e = .returned (.bool true) ∧ Below w.heap.size w w' := by
  have B := Below.refl w.heap.size w
  by_cases hp : p.size ≤ 28
  rotate_left
  · have e1 : decide (28 < (p.size : Int)) = true := by rw [decide_eq_true_eq]; omega
    go_enter Tryd.func8, Tryd.ntmps8
    go_wp2_with (go_at_call 10; (with_reducible refine (ds_awake _ hm hT).mono ?_); rintro e w1 ⟨rfl, hb⟩; have B := bt B hb; have hm := hm.below hb; have hT := Tab.below hT hb; clear hb)
    go_ret
    exact ⟨rfl, B⟩
  have e1 : decide (28 < (p.size : Int)) = false := by rw [decide_eq_false_iff_not]; omega
  cases pp : Ds.pat (Ds.bl p)
  · go_enter Tryd.func8, Tryd.ntmps8
    go_wp2_with (first | (go_at_call 10; (with_reducible refine (ds_awake _ hm hT).mono ?_); rintro e w1 ⟨rfl, hb⟩; have B := bt B hb; have hm := hm.below hb; have hT := Tab.below hT hb; clear hb) | (go_at_call 18; (with_reducible refine (ds_pat _ _ hm).mono ?_); rintro e w1 ⟨rfl, hb⟩; have B := bt B hb; have hm := hm.below hb; have hT := Tab.below hT hb; clear hb))
    go_ret
    exact ⟨rfl, B⟩
  cases ns : Ds.name (Ds.bl s)
  · go_enter Tryd.func8, Tryd.ntmps8
    go_wp2_with (first | (go_at_call 10; (with_reducible refine (ds_awake _ hm hT).mono ?_); rintro e w1 ⟨rfl, hb⟩; have B := bt B hb; have hm := hm.below hb; have hT := Tab.below hT hb; clear hb) | (go_at_call 18; (with_reducible refine (ds_pat _ _ hm).mono ?_); rintro e w1 ⟨rfl, hb⟩; have B := bt B hb; have hm := hm.below hb; have hT := Tab.below hT hb; clear hb) | (go_at_call 15; (with_reducible refine (ds_valid _ _ hm).mono ?_); rintro e w1 ⟨rfl, hb⟩; have B := bt B hb; have hm := hm.below hb; have hT := Tab.below hT hb; clear hb))
    go_ret
    exact ⟨rfl, B⟩
  have hs := (name_size s ns).1
  have HB := Lib.hid (show Ds.match_ (Ds.bl (p ++ ⟨#[46, 42, 42]⟩)) (Ds.bl s) = anyF (Ds.bl p) (Ds.bl s) (Ds.pieces (Ds.bl s)).length by
    rw [Ds.bl_app]; exact Ds.match_below (Ds.bl p) (Ds.bl s) pp (by rw [Ds.bl_length]; omega) ns)
  have HF := Lib.hid (Ds.first_all (Ds.bl s) ns)
  go_enter Tryd.func8, Tryd.ntmps8
  go_wp2_with (first | (go_at_call 10; (with_reducible refine (ds_awake _ hm hT).mono ?_); rintro e w1 ⟨rfl, hb⟩; have B := bt B hb; have hm := hm.below hb; have hT := Tab.below hT hb; clear hb) | (go_at_call 18; (with_reducible refine (ds_pat _ _ hm).mono ?_); rintro e w1 ⟨rfl, hb⟩; have B := bt B hb; have hm := hm.below hb; have hT := Tab.below hT hb; clear hb) | (go_at_call 15; (with_reducible refine (ds_valid _ _ hm).mono ?_); rintro e w1 ⟨rfl, hb⟩; have B := bt B hb; have hm := hm.below hb; have hT := Tab.below hT hb; clear hb) | (go_at_call 28; (with_reducible refine (ds_quals_yes _ _ hm ns).mono ?_); rintro e w2 ⟨ps, b, hpp, hpl, hb1, hb2, rfl, hS, hb⟩; have HP := Lib.hid hpp; have HS := Lib.hid hS; have B2 := bt B hb; have hm2 := hm.below hb; clear hb hpp hS))
  have hlen : (Ds.pieces (Ds.bl s)).length = ps.length := by rw [← HP.out, List.length_map]
  have HL := Lib.hid hlen
  clear hlen pp ns e1
  go_loopw [5, 7, 27] (fun t _ i wr => ∃ k : Nat, k ≤ ps.length ∧ i = .int .i64 k ∧ t = .bool (anyF (Ds.bl p) (Ds.bl s) k) ∧ Below w2.heap.size w2 wr) (fun _ _ i _ => ps.length - (intOf i).toNat)
  case atStart => exact ⟨0, by omega, rfl, rfl, Below.refl _ _⟩
  case round =>
    obtain ⟨k, hk, rfl, rfl, BR⟩ := hrel
    have hm3 := hm2.below BR
    by_cases hlt : k < ps.length
    · have HN := Lib.hid (anyF_next (Ds.bl p) (Ds.bl s) k)
      cases hv : anyF (Ds.bl p) (Ds.bl s) k
      · have HV := Lib.hid hv
        clear hv
        go_wp2_with (first | (go_at_call 30; (with_reducible refine (ds_first _ _ _ hm3).mono ?_); rintro e w1 ⟨rfl, hb⟩; have BR := bt BR hb; have hm3 := hm3.below hb; clear hb) | (go_at_call 11; (with_reducible refine (ds_match _ _ _ hm3).mono ?_); rintro e w1 ⟨rfl, hb⟩; have BR := bt BR hb; have hm3 := hm3.below hb; clear hb))
        go_roundw
        case rel => exact ⟨k + 1, by omega, by go_num, by rw [HN.out, HV.out, Ds.bl_mk]; rfl, BR⟩
        case measure => simp [intOf]; omega
      · have HV := Lib.hid hv
        clear hv
        go_wp2_with fail
        go_roundw
        case rel => exact ⟨k + 1, by omega, by go_num, by rw [HN.out, HV.out]; rfl, BR⟩
        case measure => simp [intOf]; omega
    · obtain rfl : k = ps.length := by omega
      have HBB := Lib.hid (show Ds.match_ (Ds.bl (p ++ ⟨#[46, 42, 42]⟩)) (Ds.bl s) = anyF (Ds.bl p) (Ds.bl s) ps.length by rw [HB.out, HL.out])
      have HFF := Lib.hid (show Ds.first (ps.length : Int) (Ds.bl s) = Ds.bl s by rw [← HL.out]; exact HF.out)
      have HS2 := Lib.hid (HS.out.below BR)
      have hbl := Nat.lt_of_lt_of_le hb2 BR.size
      generalize anyF (Ds.bl p) (Ds.bl s) ps.length = v at HBB
      go_wp2_with (first | (go_at_call 11; (with_reducible refine (match_is _ s v _ HBB hm3).mono ?_); rintro e w1 ⟨rfl, hb⟩; have BR := bt BR hb; have hm3 := hm3.below hb; have HS2 := Lib.hid (HS2.out.below hb); have hbl := Nat.lt_of_lt_of_le hbl hb.size; clear hb) | (go_at_call 17; (with_reducible refine (join_is ps s b _ _ HS2 hbl HP rfl hs (by omega)).mono ?_); rintro e w1 ⟨rfl, hb⟩; have BR := bt BR hb; have hm3 := hm3.below hb; clear hb) | (go_at_call 30; (with_reducible refine (first_is s _ _ HFF hm3).mono ?_); rintro e w1 ⟨rfl, hb⟩; have BR := bt BR hb; clear hb))
      go_ret
      exact ⟨rfl, bt B2 BR⟩
end Go.Proofs.YtdboejjognfmfaaDoor
