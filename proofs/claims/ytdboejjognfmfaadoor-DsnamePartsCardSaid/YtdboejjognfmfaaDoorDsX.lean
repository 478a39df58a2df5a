/- Contracts of the reference: partMatch, Match. -/
import Derived.Test.YtdboejjognfmfaaDoorDsV
import Derived.OwnWalk
import Derived.Laws.OwnMore
namespace Go.Proofs.YtdboejjognfmfaaDoor
open Go.RowKit
set_option maxHeartbeats 800000
set_option maxRecDepth 4000
/-- a block of truth values -/
def BI (w : World) (g n : Nat) (F : Nat → Bool) : Prop := (∀ k, k < n → w.cell? ⟨g, k, none⟩ = some (.bool (F k))) ∧ (∀ o, w.frozen? ⟨g, o, none⟩ = false)
theorem BI.lt {w : World} {g n : Nat} {F : Nat → Bool} (h : BI w g n F) (hn : 0 < n) : g < w.heap.size := block_lt_of_cell (h.1 0 hn)
theorem BI.below {w w' : World} {g n : Nat} {F : Nat → Bool} (h : BI w g n F) (hb : Below w.heap.size w w') (hn : 0 < n) : BI w' g n F :=
  ⟨fun k hk => below_cell hb (h.1 k hk), fun o => by rw [(bcell hb).2 g o (h.lt hn)]; exact h.2 o⟩
theorem BI.drew {w : World} {g n : Nat} {F : Nat → Bool} (h : BI w g n F) : BI w.drew g n F := h
theorem BI.drewN {w : World} {g n : Nat} {F : Nat → Bool} (h : BI w g n F) (m : Nat) : BI (w.drewN m) g n F := h
theorem BI.grown {w w' : World} {g n : Nat} {F : Nat → Bool} (h : BI w g n F) (hg : w.grownBy w' none) (hn : 0 < n) : BI w' g n F := by
  have hb := hg.block g (h.lt hn) (by simp)
  refine ⟨fun k hk => ?_, fun o => ?_⟩
  · rw [World.cell?_of_block (a := ⟨g, k, none⟩) hb]; exact h.1 k hk
  · rw [World.frozen?_of_block (a := ⟨g, o, none⟩) hb]; exact h.2 o
theorem BI.set {w : World} {g n : Nat} {F : Nat → Bool} (h : BI w g n F) (c : Nat) (hc : c < n) (v : Bool) : BI (w.setCell ⟨g, c, none⟩ (.bool v)) g n (fun k => if k = c then v else F k) := by
  refine ⟨fun k hk => ?_, fun o => by have := h.2 o; simpa using this⟩
  have h1 := h.1 k hk
  have h0 := h.1 c hc
  by_cases e : k = c
  · subst e; simp [go_sem, h0]
  · show _ = some (Value.bool (if k = c then v else F k))
    rw [if_neg e, ← h1]
    have e' : c ≠ k := fun h => e h.symm
    have e'' : (c == k) = false := by simpa using e'
    simp [go_sem]
theorem BI.other {w : World} {g n : Nat} {F : Nat → Bool} (h : BI w g n F) (g2 c : Nat) (hne : g ≠ g2) (v : Value) : BI (w.setCell ⟨g2, c, none⟩ v) g n F := by
  refine ⟨fun k hk => ?_, fun o => by have := h.2 o; simpa using this⟩
  rw [← h.1 k hk]
  have e' : (g2 == g) = false := by simpa using fun h => hne h.symm
  simp [go_sem]
theorem BI.made {w : World} {B e g n : Nat} (h : w.ownsRow B e 1 (.slice (some ⟨g, 0, none⟩) n n) n (madeCells (Value.bool false).cells (n * 1)).toList) : BI w g n (fun _ => false) := by
  refine ⟨fun k hk => ?_, fun o => h.frozenAt o⟩
  rw [h.cellAt k (by omega)]
  show (madeCells #[Value.bool false] (n * 1)).toList[k]? = _
  rw [toList_madeCells_one, List.getElem?_replicate, if_pos (by omega)]
theorem Ds.ne42 (c : UInt8) (h : ¬ c.toNat = 42) : decide (c = 42) = false := decide_eq_false fun e => h (by rw [e]; rfl)
theorem Ds.beq_u8 (c d : UInt8) : ((c.toNat : Int) == d.toNat) = decide (c = d) := by
  rw [Bool.eq_iff_iff]
  simp only [beq_iff_eq, decide_eq_true_eq]
  exact ⟨fun h => UInt8.toNat_inj.1 (by omega), fun h => by rw [h]⟩
theorem boolInfo : (Tryd.prog.info? 4).map (fun i => (i.zero, i.size, i.bytes)) = some (some (.bool false), 1, 1) := by kernel_rfl
/-- one cell more of the next row -/
theorem pm_step {w wi : World} {B g g2 n : Nat} {F F2 T : Nat → Bool} {c : Nat} (hA : BI wi g n F) (hB : BI wi g2 n F2) (hne : g ≠ g2) (hc : c < n) (v : Bool) (hv : v = T c) (hT : ∀ c', c' < c → F2 c' = T c') (hb : Below B w wi) (hg : B ≤ g2) :
    BI (wi.setCell ⟨g2, c, none⟩ (.bool v)) g n F ∧ BI (wi.setCell ⟨g2, c, none⟩ (.bool v)) g2 n (fun k => if k = c then v else F2 k) ∧ (∀ c', c' < c + 1 → (if c' = c then v else F2 c') = T c') ∧ Below B w (wi.setCell ⟨g2, c, none⟩ (.bool v)) := by
  refine ⟨hA.other g2 c hne _, hB.set c hc v, fun c' h' => ?_, hb.setCell (by simpa using hg) _⟩
  by_cases e : c' = c
  · subst e; rw [if_pos rfl]; exact hv
  · rw [if_neg e]; exact hT c' (by omega)
theorem rds_partMatch (p s : ByteArray) (w : World) (hp : p.size ≤ 1000) (hs : s.size ≤ 1000) :
    Calls Tryd.prog 39 #[.string p, .string s] w fun e w' => e = .returned (.bool (Ds.mtQ (Ds.bl p) (Ds.bl s))) ∧ Below w.heap.size w w' := by
  obtain ⟨i0, hi, hz0, hz1, hz2⟩ := info_parts boolInfo
  have HI := Lib.hid hi
  have HZ0 := Lib.hid hz0
  have HZ1 := Lib.hid hz1
  have HZ2 := Lib.hid hz2
  have HM : Hid (i0.bytes * (s.size + 1) ≤ 281474976710656) := Lib.hid (by rw [hz2]; omega)
  have hmx : s.size + 1 ≤ maxLen := by unfold maxLen; omega
  have HX := Lib.hid hmx
  clear hi hz0 hz1 hz2 hmx
  go_enter Tryd.func39, Tryd.ntmps39
  go_wp2_with (at_make; refine wpList_make_full _ rfl _ _ 45 rfl w.heap.size 4 i0 (.bool false) 1 Tryd.underlying45 HI.out HZ0.out HZ1.out _ _ _ _ (s.size + 1) rfl rfl (by omega) (by omega) HM.out HX.out (Nat.le_refl _) ?_; intro w1 hown hgrow; have hB0 := BI.made hown; have h0 := hB0.1 0 (by omega); have f0 := hB0.2 0; have B := (Below.refl w.heap.size w).grown hgrow (Nat.le_refl _) (by simp); have HB := Lib.hid hB0; clear hown hgrow hB0)
  go_loopw [5, 6, 7, 8] (fun v i _ _ wr => ∃ (r g : Nat) (F : Nat → Bool), r ≤ p.size ∧ i = .int .i64 r ∧ v = .slice (some ⟨g, 0, none⟩) (s.size + 1) (s.size + 1) ∧ BI wr g (s.size + 1) F ∧ (∀ k, k < s.size + 1 → F k = Ds.fw (fun c => decide (c = 42)) (fun c d => decide (c = d)) (Ds.bl p) (Ds.bl s) r k) ∧ Below w.heap.size w wr) (fun _ i _ _ _ => p.size - (intOf i).toNat)
  case atStart =>
    refine ⟨0, w.heap.size, _, by omega, rfl, rfl, HB.out.set 0 (by omega) true, ?_, B.setCell (by simp) _⟩
    intro k hk
    rw [Ds.fw_zero _ _ _ _ _ (by rw [Ds.bl_length]; omega)]
    by_cases e : k = 0 <;> simp [e]
  case round =>
    clear HB h0 f0 B
    obtain ⟨r, g, F, hr, rfl, rfl, hA, hF, B⟩ := hrel
    have HF := Lib.hid hF
    have HA := Lib.hid hA
    have hgl := hA.lt (by omega)
    clear hF hA
    by_cases hlt : r < p.size
    · have hrl : r < (Ds.bl p).length := by rw [Ds.bl_length]; exact hlt
      have hpr := Ds.bl_get p r hlt
      have HR := Lib.hid hrl
      have HPR := Lib.hid hpr
      clear hrl hpr
      obtain ⟨wo, hwo⟩ : ∃ wo : World, wo = wr := ⟨_, rfl⟩
      subst hwo
      go_wp2_with (at_make; refine wpList_make_full _ rfl _ _ 45 rfl w.heap.size 4 i0 (.bool false) 1 Tryd.underlying45 HI.out HZ0.out HZ1.out _ _ _ _ (s.size + 1) rfl rfl (by omega) (by omega) HM.out HX.out B.size ?_; intro w1 hown hgrow; have hB0 := Lib.hid (BI.made hown); have hA2 := Lib.hid (HA.out.grown hgrow (by omega)); have B2 := B.grown hgrow B.size (by simp); clear hown hgrow)
      go_loopw [8] (fun k wi => ∃ (c : Nat) (F2 : Nat → Bool), c ≤ s.size + 1 ∧ k = .int .i64 c ∧ BI wi g (s.size + 1) F ∧ BI wi wo.heap.size (s.size + 1) F2 ∧ (∀ c', c' < c → F2 c' = Ds.fw (fun c => decide (c = 42)) (fun c d => decide (c = d)) (Ds.bl p) (Ds.bl s) (r + 1) c') ∧ Below w.heap.size w wi) (fun k _ => s.size + 1 - (intOf k).toNat)
      case atStart => exact ⟨0, _, by omega, rfl, hA2.out, hB0.out, by intro c' h; omega, B2⟩
      case round =>
        have hB1 := B.size
        clear hB0 hA2 B2 B HA
        obtain ⟨c, F2, hc, rfl, hA, hC, hG, B⟩ := hrel
        have HG := Lib.hid hG
        clear hG
        have hne : g ≠ wo.heap.size := by omega
        have HS := Lib.hid (fun (v : Bool) (hcs : c < s.size + 1) hv => pm_step hA hC hne hcs v hv HG.out B hB1)
        have fz := hC.2 c
        by_cases hcl : c < s.size + 1
        · have cz := hC.1 c hcl
          by_cases h42 : p[r].toNat = 42
          · have e42 : ((p[r].toNat : Int) == 42) = true := by simp [h42]
            have hst : decide ((Ds.bl p)[r]'HR.out = 42) = true := by rw [← HPR.out]; exact decide_eq_true (UInt8.toNat_inj.1 h42)
            have hT := Ds.fw_star (fun c => decide (c = 42)) (fun c d => decide (c = d)) (Ds.bl p) (Ds.bl s) r c HR.out (by rw [Ds.bl_length]; omega) hst
            rw [← HF.out c hcl] at hT
            have HT := Lib.hid hT
            have hcf := hA.1 c hcl
            clear hT h42 hst
            cases hv : F c
            · rw [hv] at hcf
              have HV := Lib.hid hv
              rcases c with _ | j
              · clear hv
                go_wp2_with fail
                go_roundw
                case rel => 
                  have Z := HS.out false hcl (by rw [HT.out, HV.out]; simp)
                  exact ⟨1, _, by omega, by go_num, Z.1, Z.2.1, Z.2.2.1, Z.2.2.2⟩
                case measure => simp [intOf]
              · have hcj := hC.1 j (by omega)
                have HJ := Lib.hid (HG.out j (by omega))
                clear hv
                go_wp2_with fail
                go_roundw
                case rel => 
                  have Z := HS.out (F2 j) hcl (by rw [HT.out, HV.out, HJ.out]; simp)
                  exact ⟨j + 1 + 1, _, by omega, by go_num, Z.1, Z.2.1, Z.2.2.1, Z.2.2.2⟩
                case measure => simp [intOf]; omega
            · rw [hv] at hcf
              have HV := Lib.hid hv
              clear hv
              go_wp2_with fail
              go_roundw
              case rel => 
                have Z := HS.out true hcl (by rw [HT.out, HV.out]; simp)
                exact ⟨c + 1, _, by omega, by go_num, Z.1, Z.2.1, Z.2.2.1, Z.2.2.2⟩
              case measure => simp [intOf]; omega
          · have e42 : ((p[r].toNat : Int) == 42) = false := by simp; omega
            have hst : decide ((Ds.bl p)[r]'HR.out = 42) = false := by
              rw [← HPR.out]; exact Ds.ne42 _ h42
            rcases c with _ | j
            · have HT := Lib.hid (Ds.fw_one0 (fun c => decide (c = 42)) (fun c d => decide (c = d)) (Ds.bl p) (Ds.bl s) r HR.out hst)
              clear h42 hst
              go_wp2_with fail
              go_region
              go_wp2_with fail
              go_roundw
              case rel => 
                have Z := HS.out false hcl (by rw [HT.out])
                exact ⟨1, _, by omega, by go_num, Z.1.drew, Z.2.1.drew, Z.2.2.1, Z.2.2.2.drew⟩
              case measure => simp [intOf]
            · have hjs : j < s.size := by omega
              have hjl : j < (Ds.bl s).length := by rw [Ds.bl_length]; exact hjs
              have hT := Ds.fw_one (fun c => decide (c = 42)) (fun c d => decide (c = d)) (Ds.bl p) (Ds.bl s) r j HR.out hjl hst
              rw [← HF.out j (by omega), ← HPR.out, ← Ds.bl_get s j hjs] at hT
              have HT := Lib.hid hT
              have hcj := hA.1 j (by omega)
              clear h42 hst hT hjl
              cases hv : F j
              · rw [hv] at hcj
                have HV := Lib.hid hv
                clear hv
                go_wp2_with fail
                go_region
                go_wp2_with fail
                go_roundw
                case rel => 
                  have Z := HS.out false hcl (by rw [HT.out, HV.out]; simp)
                  exact ⟨j + 1 + 1, _, by omega, by go_num, Z.1.drew, Z.2.1.drew, Z.2.2.1, Z.2.2.2.drew⟩
                case measure => simp [intOf]; omega
              · rw [hv] at hcj
                have HV := Lib.hid hv
                clear hv
                have HE := Lib.hid (Ds.beq_u8 p[r] s[j])
                go_wp2_with fail
                go_region
                go_wp2_with fail
                go_roundw
                case rel => 
                  have Z := HS.out ((p[r].toNat : Int) == s[j].toNat) hcl (by rw [HT.out, HV.out, HE.out, Bool.true_and]; exact decide_eq_decide.2 Iff.rfl)
                  exact ⟨j + 1 + 1, _, by omega, by go_num, Z.1.drew, Z.2.1.drew, Z.2.2.1, Z.2.2.2.drew⟩
                case measure => simp [intOf]; omega
        · obtain rfl : c = s.size + 1 := by omega
          have HC := Lib.hid hC
          clear fz hA hC
          go_wp2_with fail
          go_roundw
          case rel => exact ⟨r + 1, wo.heap.size, F2, by omega, by go_num, rfl, HC.out, HG.out, B⟩
          case measure => simp [intOf]; omega
    · obtain rfl : r = p.size := by omega
      have hcl := HA.out.1 s.size (by omega)
      have HV := Lib.hid (HF.out s.size (by omega))
      go_wp2_with fail
      go_ret
      refine ⟨ret_bool ?_, B⟩
      rw [HV.out]
      have := Ds.fw_all (fun c : UInt8 => decide (c = 42)) (fun c d => decide (c = d)) (Ds.bl p) (Ds.bl s)
      rw [Ds.bl_length, Ds.bl_length] at this
      exact this
end Go.Proofs.YtdboejjognfmfaaDoor
