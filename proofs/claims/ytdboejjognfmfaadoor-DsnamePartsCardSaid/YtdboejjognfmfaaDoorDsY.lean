/- Contracts of the reference: Match. -/
import Derived.Test.YtdboejjognfmfaaDoorDsX
import Derived.Test.YtdboejjognfmfaaDoorTbl
import Derived.Deep.RegionHeld3
import Derived.IntWalk
namespace Go.Proofs.YtdboejjognfmfaaDoor
open Go.RowKit
set_option maxHeartbeats 2000000
set_option maxRecDepth 4000
theorem rds_parts' (s : ByteArray) (w : World) (hs : s.size ≤ 1000) :
    Calls Tryd.prog 38 #[.string s] w fun e w' => ∃ (ps : List ByteArray) (g cap : Nat), ps.map Ds.bl = Ds.pieces (Ds.bl s) ∧ ps.length ≤ s.size + 1 ∧ w.heap.size ≤ g ∧ g < w'.heap.size ∧ e = .returned (.slice (some ⟨g, 0, none⟩) ps.length cap) ∧ Strs w' g ps ∧ ps.length ≤ cap ∧ Below w.heap.size w w' :=
  (rds_parts s w hs).mono fun _ _ ⟨qs, q, g, cap, h1, h2, h3, h4, h5, h6, _, h8, h9⟩ => ⟨qs ++ [q], g, cap, h1, by simp; omega, h3, h4, by simpa using h5, h6, by simpa using h8, h9⟩
abbrev starP (q : List UInt8) : Bool := decide (q = [42, 42])
/-- what the drawn region keeps beside the cells that it reads -/
def KJ (W : World) (ba bb : Nat) (ps ns : List ByteArray) (g g2 n c : Nat) (F F2 : Nat → Bool) (w : World) : Prop :=
  Strs w ba ps ∧ Strs w bb ns ∧ BI w g n F ∧ (∃ v, BI w g2 n (fun k => if k = c then v else F2 k)) ∧ Below W.heap.size W w
theorem KJ.start {W w : World} {ba bb : Nat} {ps ns : List ByteArray} {g g2 n c : Nat} {F F2 : Nat → Bool} (h1 : Strs w ba ps) (h2 : Strs w bb ns) (h3 : BI w g n F) (h4 : BI w g2 n F2) (h5 : Below W.heap.size W w) : KJ W ba bb ps ns g g2 n c F F2 w.drew :=
  ⟨h1, h2, h3, ⟨F2 c, ⟨fun k hk => by
    rw [show (w.drew).cell? ⟨g2, k, none⟩ = w.cell? ⟨g2, k, none⟩ from rfl, h4.1 k hk]
    show _ = some (Value.bool (if k = c then F2 c else F2 k))
    by_cases e : k = c
    · rw [if_pos e, e]
    · rw [if_neg e], h4.2⟩⟩, h5.drew⟩
def SKP (W : World) (ba bb : Nat) (ps ns : List ByteArray) (g g2 n c : Nat) (F F2 : Nat → Bool) (r j : Nat) (x y : ByteArray) (w : World) : Prop :=
  w.cell? ⟨g, j, none⟩ = some (.bool true) ∧ w.cell? ⟨ba, r, none⟩ = some (.string x) ∧ w.cell? ⟨bb, j, none⟩ = some (.string y) ∧ w.cell? ⟨g2, c, none⟩ = some (.bool (bvc w g2 c)) ∧ (∀ o, w.frozen? ⟨g2, o, none⟩ = false) ∧ KJ W ba bb ps ns g g2 n c F F2 w
theorem SKP.call {W w w2 : World} {ba bb : Nat} {ps ns : List ByteArray} {g g2 n c : Nat} {F F2 : Nat → Bool} {r j : Nat} {x y : ByteArray} (hc : c < n) (hb : Below w.heap.size w w2) (h : SKP W ba bb ps ns g g2 n c F F2 r j x y w) : SKP W ba bb ps ns g g2 n c F F2 r j x y w2 := by
  obtain ⟨h1, h2, h3, h4, h5, k1, k2, k3, ⟨v, k4⟩, k5⟩ := h
  have k4' := k4.below hb (by omega)
  exact ⟨below_cell hb h1, below_cell hb h2, below_cell hb h3, bvc_of (below_cell hb h4), k4'.2, k1.below hb, k2.below hb, k3.below hb (by omega), ⟨v, k4'⟩, bt k5 hb⟩
theorem Strs.other {w : World} {b : Nat} {ps : List ByteArray} (h : Strs w b ps) (g c : Nat) (hne : b ≠ g) (v : Value) : Strs (w.setCell ⟨g, c, none⟩ v) b ps := fun k hk => by
  rw [← h k hk]
  have e' : (g == b) = false := by simpa using fun h => hne h.symm
  simp [go_sem]
theorem KJ.set {W w : World} {ba bb : Nat} {ps ns : List ByteArray} {g g2 n c : Nat} {F F2 : Nat → Bool} (hc : c < n) (ha : ba ≠ g2) (hb : bb ≠ g2) (hg : g ≠ g2) (hW : W.heap.size ≤ g2) (u : Bool) (h : KJ W ba bb ps ns g g2 n c F F2 w) : BI (w.setCell ⟨g2, c, none⟩ (.bool u)) g n F ∧ BI (w.setCell ⟨g2, c, none⟩ (.bool u)) g2 n (fun k => if k = c then u else F2 k) ∧ Below W.heap.size W (w.setCell ⟨g2, c, none⟩ (.bool u)) ∧ KJ W ba bb ps ns g g2 n c F F2 (w.setCell ⟨g2, c, none⟩ (.bool u)) := by
  obtain ⟨k1, k2, k3, ⟨v, k4⟩, k5⟩ := h
  have h2 := k4.set c hc u
  have e : (fun k => if k = c then u else (if k = c then v else F2 k)) = fun k => if k = c then u else F2 k := by
    funext k; split <;> rfl
  rw [e] at h2
  exact ⟨k3.other g2 c hg _, h2, k5.setCell hW _, k1.other g2 c ha _, k2.other g2 c hb _, k3.other g2 c hg _, ⟨u, h2⟩, k5.setCell hW _⟩
theorem SKP.store {W w : World} {ba bb : Nat} {ps ns : List ByteArray} {g g2 n c : Nat} {F F2 : Nat → Bool} {r j : Nat} {x y : ByteArray} (hc : c < n) (ha : ba ≠ g2) (hb : bb ≠ g2) (hg : g ≠ g2) (hW : W.heap.size ≤ g2) (u : Bool) (h : SKP W ba bb ps ns g g2 n c F F2 r j x y w) : SKP W ba bb ps ns g g2 n c F F2 r j x y (w.setCell ⟨g2, c, none⟩ (.bool u)) := by
  obtain ⟨h1, h2, h3, h4, h5, hk⟩ := h
  obtain ⟨z1, z2, z3, z4⟩ := hk.set hc ha hb hg hW u
  have cc := z2.1 c hc
  have f1 : (g2 == g) = false := by simpa using fun h => hg h.symm
  have f2 : (g2 == ba) = false := by simpa using fun h => ha h.symm
  have f3 : (g2 == bb) = false := by simpa using fun h => hb h.symm
  have o1 : g2 ≠ g := fun h => hg h.symm
  have o2 : g2 ≠ ba := fun h => ha h.symm
  have o3 : g2 ≠ bb := fun h => hb h.symm
  refine ⟨?_, ?_, ?_, bvc_of cc, z2.2, z4⟩
  · rw [← h1]; simp [go_sem]
  · rw [← h2]; simp [go_sem]
  · rw [← h3]; simp [go_sem]
theorem rds_match (p s : ByteArray) (w : World) :
    Calls Tryd.prog 12 #[.string p, .string s] w fun e w' => e = .returned (.bool (Ds.match_ (Ds.bl p) (Ds.bl s))) ∧ Below w.heap.size w w' := by
  have B := Below.refl w.heap.size w
  cases hp : Ds.pat (Ds.bl p)
  · have D := Lib.hid (show Ds.match_ (Ds.bl p) (Ds.bl s) = false by unfold Ds.match_; rw [hp]; rfl)
    go_enter Tryd.func12, Tryd.ntmps12
    go_wp2_with (go_at_call 26; (with_reducible refine (rds_pat _ _).mono ?_); rintro e w1 ⟨rfl, hb⟩; have B := Below.trans B (hb.mono B.size); clear hb)
    go_ret
    exact ⟨ret_bool D.out.symm, B⟩
  cases hs : Ds.name (Ds.bl s)
  · have D := Lib.hid (show Ds.match_ (Ds.bl p) (Ds.bl s) = false by unfold Ds.match_; rw [hs]; simp)
    go_enter Tryd.func12, Tryd.ntmps12
    go_wp2_with (first | (go_at_call 26; (with_reducible refine (rds_pat _ _).mono ?_); rintro e w1 ⟨rfl, hb⟩; have B := Below.trans B (hb.mono B.size); clear hb) | (go_at_call 24; (with_reducible refine (rds_Valid _ _).mono ?_); rintro e w1 ⟨rfl, hb⟩; have B := Below.trans B (hb.mono B.size); clear hb))
    go_ret
    exact ⟨ret_bool D.out.symm, B⟩
  have D := Lib.hid (show Ds.match_ (Ds.bl p) (Ds.bl s) = Ds.mtP (Ds.pieces (Ds.bl p)) (Ds.pieces (Ds.bl s)) by unfold Ds.match_; rw [hp, hs]; rfl)
  have p1 : p.size ≤ 31 := by have := ((Ds.pat_parts _).1 hp).1.2; rwa [Ds.bl_length] at this
  have s1 := (rname_size s hs).1
  have p2 : p.size ≤ 1000 := by omega
  have s2 : s.size ≤ 1000 := by omega
  obtain ⟨i0, hi, hz0, hz1, hz2⟩ := info_parts boolInfo
  have HI := Lib.hid hi
  have HZ0 := Lib.hid hz0
  have HZ1 := Lib.hid hz1
  have HM : Hid (∀ n : Nat, n ≤ 1000 → i0.bytes * n ≤ 281474976710656) := Lib.hid (fun n hn => by rw [hz2]; omega)
  have HX := Lib.hid (fun n (hn : n ≤ 1000) => show n ≤ maxLen by unfold maxLen; omega)
  clear hi hz0 hz1 hz2
  go_enter Tryd.func12, Tryd.ntmps12
  go_wp2_with (first | (go_at_call 26; (with_reducible refine (rds_pat _ _).mono ?_); rintro e w1 ⟨rfl, hb⟩; have B := Below.trans B (hb.mono B.size); clear hb) | (go_at_call 24; (with_reducible refine (rds_Valid _ _).mono ?_); rintro e w1 ⟨rfl, hb⟩; have B := Below.trans B (hb.mono B.size); clear hb) | (go_at_call 38; (with_reducible refine (rds_parts' p _ p2).mono ?_); rintro e w1 ⟨ps, ba, ca, hpp, hpl, ha1, ha2, rfl, hS, hcap, hb⟩; have HP := Lib.hid hpp; have HS := Lib.hid hS; have B := bt B hb; clear hpp hS hb) | (go_at_call 38; (with_reducible refine (rds_parts' s _ s2).mono ?_); rintro e w2 ⟨ns, bb, cb, hnn, hnl, hb1, hb2, rfl, hT, hcap2, hb⟩; have HN := Lib.hid hnn; have HT := Lib.hid hT; have HS2 := Lib.hid (HS.out.below hb); have B := bt B hb; have ha3 := Nat.lt_of_lt_of_le ha2 hb.size; clear hnn hT hb) | (at_make; refine wpList_make_full _ rfl _ _ 45 rfl w2.heap.size 4 i0 (.bool false) 1 Tryd.underlying45 HI.out HZ0.out HZ1.out _ _ _ _ (ns.length + 1) rfl rfl (by omega) (by omega) (HM.out _ (by omega)) (HX.out _ (by omega)) (Nat.le_refl _) ?_; intro w3 hown hgrow; have hB0 := BI.made hown; have h0 := hB0.1 0 (by omega); have f0 := hB0.2 0; have B3 := (Below.refl w2.heap.size w2).grown hgrow (Nat.le_refl _) (by simp); have HB := Lib.hid hB0; clear hown hgrow hB0))
  have hps := Lib.hid (fun k (h : k < ps.length) => Nat.le_trans (Ds.piece_len HP.out k h) (by rw [Ds.bl_length]; exact p2))
  have hns := Lib.hid (fun k (h : k < ns.length) => Nat.le_trans (Ds.piece_len HN.out k h) (by rw [Ds.bl_length]; exact s2))
  go_loopw [7, 8, 9, 10] (fun v i _ _ wr => ∃ (r g : Nat) (F : Nat → Bool), r ≤ ps.length ∧ i = .int .i64 r ∧ v = .slice (some ⟨g, 0, none⟩) (ns.length + 1) (ns.length + 1) ∧ w2.heap.size ≤ g ∧ BI wr g (ns.length + 1) F ∧ (∀ k, k < ns.length + 1 → F k = Ds.fw starP Ds.mtQ (ps.map Ds.bl) (ns.map Ds.bl) r k) ∧ Below w2.heap.size w2 wr) (fun _ i _ _ _ => ps.length - (intOf i).toNat)
  case atStart =>
    refine ⟨0, w2.heap.size, _, by omega, rfl, rfl, Nat.le_refl _, HB.out.set 0 (by omega) true, ?_, B3.setCell (by simp) _⟩
    intro k hk
    rw [Ds.fw_zero _ _ _ _ _ (by rw [List.length_map]; omega)]
    by_cases e : k = 0 <;> simp [e]
  case round =>
    clear HB h0 f0 B3 HS
    obtain ⟨r, g, F, hr, rfl, rfl, hgB, hA, hF, BR⟩ := hrel
    have HF := Lib.hid hF
    have HA := Lib.hid hA
    have hgl := hA.lt (by omega)
    have BRH := Lib.hid BR
    have hsz := BR.size
    clear hF hA BR
    obtain ⟨wo, hwo⟩ : ∃ wo : World, wo = wr := ⟨_, rfl⟩
    subst hwo
    by_cases hlt : r < ps.length
    · have hrl : r < (ps.map Ds.bl).length := by simpa using hlt
      have HR := Lib.hid hrl
      obtain ⟨x, hx⟩ : ∃ x, x = ps[r] := ⟨_, rfl⟩
      have HXB := Lib.hid (show (ps.map Ds.bl)[r]'HR.out = Ds.bl x by rw [hx]; simp)
      have hxs : x.size ≤ 1000 := by rw [hx]; exact hps.out r hlt
      have HXC := Lib.hid (fun W (h : Strs W ba ps) => show W.cell? ⟨ba, r, none⟩ = some (.string x) by rw [hx]; exact h r hlt)
      clear hrl hx
      go_wp2_with (at_make; refine wpList_make_full _ rfl _ _ 45 rfl w2.heap.size 4 i0 (.bool false) 1 Tryd.underlying45 HI.out HZ0.out HZ1.out _ _ _ _ (ns.length + 1) rfl rfl (by omega) (by omega) (HM.out _ (by omega)) (HX.out _ (by omega)) hsz ?_; intro w4 hown hgrow; have hB0 := Lib.hid (BI.made hown); have hA2 := Lib.hid (HA.out.grown hgrow (by omega)); have B2 := Lib.hid (BRH.out.grown hgrow hsz (by simp)); clear hown hgrow)
      go_loopw [10] (fun k wi => ∃ (c : Nat) (F2 : Nat → Bool), c ≤ ns.length + 1 ∧ k = .int .i64 c ∧ BI wi g (ns.length + 1) F ∧ BI wi wo.heap.size (ns.length + 1) F2 ∧ (∀ c', c' < c → F2 c' = Ds.fw starP Ds.mtQ (ps.map Ds.bl) (ns.map Ds.bl) (r + 1) c') ∧ Below w2.heap.size w2 wi) (fun k _ => ns.length + 1 - (intOf k).toNat)
      case atStart => exact ⟨0, _, by omega, rfl, hA2.out, hB0.out, by intro c' h; omega, B2.out⟩
      case round =>
        clear hB0 hA2 B2 HA
        obtain ⟨c, F2, hc, rfl, hA, hC, hG, BI'⟩ := hrel
        have HG := Lib.hid hG
        have HBI := Lib.hid BI'
        clear hG
        have hne : g ≠ wo.heap.size := by omega
        have HS := Lib.hid (fun (v : Bool) (hcs : c < ns.length + 1) hv => pm_step hA hC hne hcs v hv HG.out HBI.out hsz)
        have SA := HS2.out.below BI'
        have SB := HT.out.below BI'
        have HSA := Lib.hid SA
        have HSB := Lib.hid SB
        have hxc := HXC.out _ SA
        have HCC := Lib.hid hC
        have HAA := Lib.hid hA
        clear SA SB BI'
        by_cases hcl : c < ns.length + 1
        · have cz := hC.1 c hcl
          have fz := hC.2
          by_cases hxx : x = ⟨#[42, 42]⟩
          · have hst : starP ((ps.map Ds.bl)[r]'HR.out) = true := by rw [HXB.out, hxx]; rfl
            have hT := Ds.fw_star starP Ds.mtQ (ps.map Ds.bl) (ns.map Ds.bl) r c HR.out (by rw [List.length_map]; omega) hst
            rw [← HF.out c hcl] at hT
            have HTT := Lib.hid hT
            have hcf := hA.1 c hcl
            subst hxx
            clear hT hst hA
            cases hv : F c
            · rw [hv] at hcf
              have HV := Lib.hid hv
              rcases c with _ | j
              · clear hv hC
                go_wp2_with fail
                go_roundw
                case rel =>
                  have Z := HS.out false hcl (by rw [HTT.out, HV.out]; simp)
                  exact ⟨1, _, by omega, by go_num, Z.1, Z.2.1, Z.2.2.1, Z.2.2.2⟩
                case measure => simp [intOf]
              · have hcj := hC.1 j (by omega)
                have HJ := Lib.hid (HG.out j (by omega))
                clear hv hC
                go_wp2_with fail
                go_roundw
                case rel =>
                  have Z := HS.out (F2 j) hcl (by rw [HTT.out, HV.out, HJ.out]; simp)
                  exact ⟨j + 1 + 1, _, by omega, by go_num, Z.1, Z.2.1, Z.2.2.1, Z.2.2.2⟩
                case measure => simp [intOf]; omega
            · rw [hv] at hcf
              have HV := Lib.hid hv
              clear hv hC
              go_wp2_with fail
              go_roundw
              case rel =>
                have Z := HS.out true hcl (by rw [HTT.out, HV.out]; simp)
                exact ⟨c + 1, _, by omega, by go_num, Z.1, Z.2.1, Z.2.2.1, Z.2.2.2⟩
              case measure => simp [intOf]; omega
          · have hst : starP ((ps.map Ds.bl)[r]'HR.out) = false := by rw [HXB.out]; exact decide_eq_false (fun e => hxx ((Ds.bl_eq x [42, 42]).2 e))
            have hnx := Ds.bl_beq x [42, 42] hxx
            clear hxx hC
            rcases c with _ | j
            · have HTT := Lib.hid (Ds.fw_one0 starP Ds.mtQ (ps.map Ds.bl) (ns.map Ds.bl) r HR.out hst)
              clear hst hA
              go_wp2_with fail
              go_region
              go_wp2_with fail
              go_roundw
              case rel =>
                have Z := HS.out false hcl (by rw [HTT.out])
                exact ⟨1, _, by omega, by go_num, Z.1.drew, Z.2.1.drew, Z.2.2.1, Z.2.2.2.drew⟩
              case measure => simp [intOf]
            · have hjs : j < ns.length := by omega
              have hjl : j < (ns.map Ds.bl).length := by simpa using hjs
              have hT := Ds.fw_one starP Ds.mtQ (ps.map Ds.bl) (ns.map Ds.bl) r j HR.out hjl hst
              obtain ⟨y, hy⟩ : ∃ y, y = ns[j] := ⟨_, rfl⟩
              have hys : y.size ≤ 1000 := by rw [hy]; exact hns.out j hjs
              have hyc : wr.cell? ⟨bb, j, none⟩ = some (.string y) := by rw [hy]; exact HSB.out j hjs
              rw [← HF.out j (by omega), HXB.out, show (ns.map Ds.bl)[j]'hjl = Ds.bl y by rw [hy]; simp] at hT
              have HTT := Lib.hid hT
              have hcj := hA.1 j (by omega)
              clear hst hT hjl hy hA
              cases hv : F j
              · rw [hv] at hcj
                have HV := Lib.hid hv
                clear hv
                go_wp2_with fail
                go_region
                go_wp2_with fail
                go_roundw
                case rel =>
                  have Z := HS.out false hcl (by rw [HTT.out, HV.out]; simp)
                  exact ⟨j + 1 + 1, _, by omega, by go_num, Z.1.drew, Z.2.1.drew, Z.2.2.1, Z.2.2.2.drew⟩
                case measure => simp [intOf]; omega
              · rw [hv] at hcj
                have HV := Lib.hid hv
                have KS := KJ.start (c := j + 1) HSA.out HSB.out HAA.out HCC.out HBI.out
                have H0 := Lib.hid (show SKP w2 ba bb ps ns g wo.heap.size (ns.length + 1) (j + 1) F F2 r j x y wr.drew from ⟨hcj, hxc, hyc, bvc_of cz, fz, KS⟩)
                have d1 : ba ≠ wo.heap.size := by omega
                have d2 : bb ≠ wo.heap.size := by omega
                clear hv KS
                go_wp2_with fail
                have b1 : IntKind.i64.wrap (j : Int) = (j : Int) := IntWalk.i64_in _ (by omega)
                have b2 : (0 : Int) ≤ (j : Int) := by omega
                have b3 : (j : Int) < ns.length := by omega
                have b4 : (j : Int) + 1 < (ns.length : Int) + 1 := by omega
                have b5 : (0 : Int) ≤ (j : Int) + 1 := by omega
                have b6 : (0 : Int) < (j : Int) + 1 := by omega
                have b7 : (r : Int) < ps.length := by omega
                have b8 : (0 : Int) ≤ (r : Int) := by omega
                have b9 : (j : Int) < (ns.length : Int) + 1 := by omega
                have b10 : ((j : Int)).toNat = j := by omega
                have b11 : ((j : Int) + 1).toNat = j + 1 := by omega
                have b12 : ((r : Int)).toNat = r := by omega
                go_region_held3 (fun w' => w'.cell? ⟨g, j, none⟩ = some (.bool true) ∧ w'.cell? ⟨ba, r, none⟩ = some (.string x) ∧ w'.cell? ⟨bb, j, none⟩ = some (.string y) ∧ w'.cell? ⟨wo.heap.size, j + 1, none⟩ = some (.bool (bvc w' wo.heap.size (j + 1))) ∧ (∀ o, w'.frozen? ⟨wo.heap.size, o, none⟩ = false) ∧ KJ w2 ba bb ps ns g wo.heap.size (ns.length + 1) (j + 1) F F2 w') (first | exact H0.out | exact SKP.call hcl hb (by assumption) | exact SKP.store hcl d1 d2 hne hsz _ (by assumption)) (first | (go_at_call 39; (with_reducible refine (rds_partMatch x y _ hxs hys).mono ?_); rintro e w5 ⟨rfl, hb⟩))
                have S2 := SKP.call hcl hb H0.out
                have Z := S2.2.2.2.2.2.set hcl d1 d2 hne hsz (Ds.mtQ (Ds.bl x) (Ds.bl y))
                have HZ := Lib.hid (And.intro Z.1 (And.intro Z.2.1 Z.2.2.1))
                have HW := Lib.hid (show ∀ c', c' < j + 1 + 1 → (if c' = j + 1 then Ds.mtQ (Ds.bl x) (Ds.bl y) else F2 c') = Ds.fw starP Ds.mtQ (ps.map Ds.bl) (ns.map Ds.bl) (r + 1) c' by
                  intro c' h'
                  by_cases e : c' = j + 1
                  · rw [if_pos e, e, HTT.out, HV.out, Bool.true_and]
                  · rw [if_neg e]; exact HG.out c' (by omega))
                clear S2 Z b1 b2 b3 b4 b5 b6 b7 b8 b9 b10 b11 b12
                go_wp2_with fail
                go_roundw
                case rel => exact ⟨j + 1 + 1, _, by omega, by go_num, HZ.out.1, HZ.out.2.1, HW.out, HZ.out.2.2⟩
                case measure => simp [intOf]; omega
        · obtain rfl : c = ns.length + 1 := by omega
          clear hA hC
          go_wp2_with fail
          go_roundw
          case rel => exact ⟨r + 1, wo.heap.size, F2, by omega, by go_num, rfl, hsz, HCC.out, HG.out, HBI.out⟩
          case measure => simp [intOf]; omega
    · obtain rfl : r = ps.length := by omega
      have hcl := HA.out.1 ns.length (by omega)
      have HV := Lib.hid (HF.out ns.length (by omega))
      go_wp2_with fail
      go_ret
      refine ⟨ret_bool ?_, B.trans (BRH.out.mono B.size)⟩
      rw [HV.out, D.out, ← HP.out, ← HN.out]
      have := Ds.fw_all starP Ds.mtQ (ps.map Ds.bl) (ns.map Ds.bl)
      rw [List.length_map, List.length_map] at this
      exact this
end Go.Proofs.YtdboejjognfmfaaDoor
