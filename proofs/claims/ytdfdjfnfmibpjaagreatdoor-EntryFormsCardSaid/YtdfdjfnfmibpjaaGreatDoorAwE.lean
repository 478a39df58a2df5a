/- Chapter 33: the example of the chapter (awake). -/
import Derived.Test.YtdfdjfnfmibpjaaGreatDoorTxC
import Derived.Test.YtdfdjfnfmibpjaaGreatDoorDcA
import Derived.Test.YtdfdjfnfmibpjaaGreatDoorSaC
import Derived.Deep.RegionHeld3
namespace Go.Proofs.YtdfdjfnfmibpjaaGreatDoor
open Go.RowKit
set_option maxHeartbeats 8000000
set_option maxRecDepth 8000
def ePay : En := { En.zero with kind := 2, name := ⟨#[80, 65, 89]⟩, target := ⟨#[80, 65, 89, 46, 77, 65, 83, 84, 69, 82]⟩ }
def xPay : Fu := (ePay, [], [])
def litE : Array Value := #[.int .i64 2, .string ⟨#[80, 65, 89]⟩, .int .i64 0, .int .i64 0, .int .i64 0, .int .i64 0, .int .i64 0, .int .i64 0, .int .i64 0, .int .i64 0, .int .i64 0, .int .i64 0, .int .i64 0, .int .i64 0, .int .i64 0, .int .i64 0, .bool false, .int .i64 0, .string ⟨#[]⟩, .string ⟨#[]⟩, .int .i64 0, .int .i64 0, .bool false, .slice none 0 0, .int .i64 0, .int .i64 0, .int .i64 0, .bool false, .string ⟨#[]⟩, .string ⟨#[80, 65, 89, 46, 77, 65, 83, 84, 69, 82]⟩, .int .i64 0, .int .i64 0, .slice none 0 0]
theorem epay_lit : ePay.vals (.slice none 0 0) (.slice none 0 0) = litE := by unfold En.vals; rfl
theorem ok_alias : okX xPay = true := by
  have k0 : ¬ xPay.1.kind = 0 := by decide
  have k1 : ¬ xPay.1.kind = 1 := by decide
  have k2 : xPay.1.kind = 2 := rfl
  unfold okX
  rw [if_neg k0, if_neg k1, if_pos k2]
  unfold okA xPay
  show (Vp.nameA (Ds.bl ePay.name) && Vp.ali ePay && sameE (onlyA ePay) ePay [] [] [] []) = true
  rw [(sameE_eq (onlyA ePay) ePay [] [] [] []).2 ⟨rfl, rfl, rfl⟩]
  decide +kernel
def sPay : ByteArray := ⟨(recX xPay).toArray⟩
theorem spay_bl : Ds.bl sPay = recX xPay := Ds.bl_mk _
theorem rec_pay : recX xPay = [65, 80, 65, 89] ++ List.replicate 28 32 ++ [10, 80, 65, 89, 46, 77, 65, 83, 84, 69, 82] := by decide +kernel
theorem spay_size : sPay.size = 43 := by rw [← Ds.bl_length, spay_bl, rec_pay]; rfl
def r28 : ByteArray := ⟨(List.replicate 28 32).toArray⟩
theorem r28_size : r28.size = 28 := by rw [← Ds.bl_length, r28, Ds.bl_mk]; rfl
def kPay : ByteArray := ⟨(Ek.key 2 [80, 65, 89]).toArray⟩
theorem bl_beq' (a b : ByteArray) (h : Ds.bl a = Ds.bl b) : (a.toList == b.toList) = true := by rw [Ds.bl_inj h]; simp
theorem pay_eq : (sPay.toList == ((⟨#[65, 80, 65, 89]⟩ : ByteArray) ++ r28 ++ ⟨#[10, 80, 65, 89, 46, 77, 65, 83, 84, 69, 82]⟩).toList) = true := by
  refine bl_beq' _ _ ?_
  rw [spay_bl, rec_pay, Ds.bl_append, Ds.bl_append, r28, Ds.bl_mk]; rfl
theorem key_eq : (kPay.toList == (sPay.extract 0 32).toList) = true := by
  refine bl_beq' _ _ ?_
  have e1 : Ds.bl (sPay.extract 0 32) = (recX xPay).take 32 := by
    rw [← spay_bl]; unfold Ds.bl
    rw [ByteArray.data_extract, Array.toList_extract]
    rfl
  rw [e1, rec_pay, kPay, Ds.bl_mk]
  decide +kernel
theorem aw33_enc (w : World) (hm : MaxL w) (hT : Tab w) : Calls Tryz.prog 45 #[.agg litE] w fun r w' => r = .returned (.tuple #[.string sPay, .int .i64 0]) ∧ Below w.heap.size w w' := by
  rw [← epay_lit]
  refine (en_encode ePay _ _ [] [] w hm hT (by decide) (IS.nil w) (GS.nil w)).mono ?_
  rintro r w' ⟨t, rfl, ht, hb⟩
  rw [show okX (ePay, [], []) = true from ok_alias] at ht ⊢
  simp only [if_true] at ht ⊢
  have : t = sPay := Ds.bl_inj (ht.trans spay_bl.symm)
  subst this
  exact ⟨rfl, hb⟩
theorem aw33_dec (w : World) (hm : MaxL w) (hT : Tab w) : Calls Tryz.prog 46 #[.string sPay] w fun r w' => ∃ al gr, r = .returned (.tuple #[.agg (ePay.vals al gr), .int .i64 0]) ∧ IS w' al [] ∧ GS w' gr [] ∧ Below w.heap.size w w' := by
  refine (en_decode sPay w hm hT).mono ?_
  rintro r w' ⟨x, al, gr, code, rfl, h1, h2, hb, h3⟩
  have hd := decX_rec xPay ok_alias (recX_len _ ok_alias)
  rw [spay_bl, hd] at h3
  rcases h3 with ⟨h, rfl⟩ | ⟨h, _⟩
  · cases Option.some.inj h
    exact ⟨al, gr, rfl, h1, h2, hb⟩
  · cases h
theorem aw33_valid (w : World) (hm : MaxL w) (hT : Tab w) : Calls Tryz.prog 10 #[.agg litE] w fun r w' => r = .returned (.bool true) ∧ Below w.heap.size w w' := by
  rw [← epay_lit]
  have := va_any ePay _ _ [] [] w hm hT (by decide) (IS.nil w) (GS.nil w)
  rw [show okX (ePay, [], []) = true from ok_alias] at this
  exact this
theorem aw33_rep (w : World) : Calls Tryz.prog 47 #[.string ⟨#[32]⟩, .int .i64 28] w fun r w' => r = .returned (.string r28) ∧ Below w.heap.size w w' := by
  refine (Tryz.strings_Repeat ⟨#[32]⟩ 28 w (by omega) (by show 1 * 28 ≤ _; omega)).mono ?_
  rintro e w' ⟨rfl, hb⟩
  exact ⟨by rw [show (⟨#[32]⟩ : ByteArray).data.toList = [32] from rfl, repeatL_one]; rfl, hb⟩
theorem aw33_same (al gr : Value) (w : World) (h1 : IS w al []) (h2 : GS w gr []) : Calls Tryz.prog 12 #[.agg litE, .agg (ePay.vals al gr)] w fun r w' => r = .returned (.bool true) ∧ Below w.heap.size w w' := by
  rw [← epay_lit]
  have := en_same ePay ePay _ _ al gr [] [] [] [] w (IS.nil w) h1 (GS.nil w) h2
  rw [(sameE_eq ePay ePay [] [] [] []).2 ⟨rfl, rfl, rfl⟩] at this
  exact this
theorem aw33_text (w : World) (hm : MaxL w) (hT : Tab w) : Calls Tryz.prog 17 #[.agg litE] w fun r w' => ∃ g cap, r = .returned (.slice (some ⟨g, 0, none⟩) 2 cap) ∧ Below w.heap.size w w' := by
  rw [← epay_lit]
  refine (tx_alias ePay _ _ [] [] w rfl ok_alias hm hT (by decide) (by decide) (by decide) (IS.nil w) (GS.nil w)).mono ?_
  rintro r w' ⟨g, cap, ps, rfl, _, rfl, hb⟩
  exact ⟨g, cap, rfl, hb⟩
theorem aw33_key (w : World) : Calls Tryz.prog 14 #[.int .i64 2, .string ⟨#[80, 65, 89]⟩] w fun r w' => r = .returned (.string kPay) ∧ Below w.heap.size w w' := by
  refine (en_key 2 ⟨#[80, 65, 89]⟩ w).mono ?_
  rintro r w' ⟨t, rfl, ht, hb⟩
  have : t = kPay := Ds.bl_inj (ht.trans (Ds.bl_mk _).symm)
  subst this
  exact ⟨rfl, hb⟩
/-- behind the example's entries -/
def SW (w w3 : World) (xs : Array Value) (w' : World) : Prop := row w' w.heap.size = litE ∧ row w' w3.heap.size = xs ∧ Below w3.heap.size w3 w'
theorem SW.keep {w w3 w1 w2 : World} {xs : Array Value} (hb : Below w1.heap.size w1 w2) (h : row w1 w.heap.size = litE ∧ row w1 w3.heap.size = xs ∧ Below w3.heap.size w3 w1) (h0 : 0 < xs.size) : row w2 w.heap.size = litE ∧ row w2 w3.heap.size = xs ∧ Below w3.heap.size w3 w2 :=
  ⟨row_below hb h.1 (by decide), row_below hb h.2.1 h0, bt h.2.2 hb⟩
attribute [local go_sem ↓] ldEnt stEnt
theorem litE_size : litE.size = 33 := rfl
attribute [local go_sem] litE_size isHead_mk headOf_mk cellsOfV_mk isAggV_mk row_new row_new2 row_new2' row_drew row_drewN vals_size allOne_nil allOne_cons one_int one_bool one_string one_pointer one_slice one_func
theorem aw33 (w : World) (hm : MaxL w) (hT : Tab w) : Calls Tryz.prog 8 #[] w fun r w' => r = .returned (.bool true) ∧ Below w.heap.size w w' := by
  have h1 := fun W (b : Below w.heap.size w W) => aw33_enc W (hm.below b) (hT.below b)
  have h2 := fun W (b : Below w.heap.size w W) => aw33_dec W (hm.below b) (hT.below b)
  have h3 := fun W (b : Below w.heap.size w W) => aw33_valid W (hm.below b) (hT.below b)
  have h4 := fun W => aw33_rep W
  have h6 := fun W (b : Below w.heap.size w W) => aw33_text W (hm.below b) (hT.below b)
  have h7 := fun W => aw33_key W
  have e1 := pay_eq
  have e2 := key_eq
  have e3 := spay_size
  have e4 := r28_size
  have hL : litE.size = 33 := rfl
  generalize sPay = sp at *
  generalize kPay = kp at *
  generalize r28 = rp at *
  have H1 := Lib.hid h1
  have H2 := Lib.hid h2
  have H3 := Lib.hid h3
  have H4 := Lib.hid h4
  have H6 := Lib.hid h6
  have H7 := Lib.hid h7
  clear h1 h2 h3 h4 h6 h7
  have h5 := fun al gr W h1 h2 => aw33_same al gr W h1 h2
  have hlr := row_new (w := w) (cs := litE)
  unfold litE at H1
  have H5 := Lib.hid h5
  clear h5
  go_enter Tryz.func8, Tryz.ntmps8
  go_upto_region 4 with (first
    | (go_at_call 45; (with_reducible refine (H1.out _ (by exact belA)).mono ?_); rintro _ w1 ⟨rfl, hb⟩; have R1 : row w1 w.heap.size = litE := row_below hb (hlr _ _) (by rw [hL]; decide); have B1 := Below.trans (show Below w.heap.size w _ by exact belA) (hb.mono (by simp)); have z1 : w.heap.size < w1.heap.size := (by have := hb.size; simp at this; omega); clear hb)
    | (go_at_call 46; (with_reducible refine (H2.out _ B1).mono ?_); rintro _ w2 ⟨al, gr, rfl, hI, hG, hb⟩; have R2 : row w2 w.heap.size = litE := row_below hb R1 (by rw [hL]; decide); have B2 := bt B1 hb; have hone := vals_one ePay al gr (is_one hI) (gs_one hG); have z2 : w.heap.size < w2.heap.size := (by have := hb.size; omega); have HI := Lib.hid hI; have HG := Lib.hid hG; clear hb hI hG))
  have hst : ∀ t, row ((w2.alloc (.cells (ePay.vals al gr) t)).drew) w.heap.size = litE ∧ row ((w2.alloc (.cells (ePay.vals al gr) t)).drew) w2.heap.size = ePay.vals al gr ∧ Below w2.heap.size w2 ((w2.alloc (.cells (ePay.vals al gr) t)).drew) := fun t => by
    refine ⟨?_, by rw [row_drew]; exact row_new _ _ _ _, by exact belA⟩
    rw [row_drew]
    exact (row_below ((Below.refl w2.heap.size w2).alloc (Nat.le_refl _) _) R2 (by rw [hL]; decide))
  go_region_held3 (fun w' => row w' w.heap.size = litE ∧ row w' w2.heap.size = ePay.vals al gr ∧ Below w2.heap.size w2 w') (first | exact hst _ | exact ⟨row_below hb (by assumption : row _ _ = _ ∧ row _ _ = _ ∧ Below _ _ _).1 (by rw [hL]; decide), row_below hb (by assumption : row _ _ = _ ∧ row _ _ = _ ∧ Below _ _ _).2.1 (by simp [vals_size]), bt (by assumption : row _ _ = _ ∧ row _ _ = _ ∧ Below _ _ _).2.2 hb⟩) (first
    | (go_at_call 10; (with_reducible refine (H3.out _ (bt B2 (by assumption : row _ _ = _ ∧ row _ _ = _ ∧ Below _ _ _).2.2)).mono ?_); rintro e w3 ⟨rfl, hb⟩)
    | (go_at_call 47; (with_reducible refine (H4.out _).mono ?_); rintro e w3 ⟨rfl, hb⟩)
    | (go_at_call 12; (with_reducible refine (H5.out al gr _ (HI.out.below (by assumption : row _ _ = _ ∧ row _ _ = _ ∧ Below _ _ _).2.2) (HG.out.below (by assumption : row _ _ = _ ∧ row _ _ = _ ∧ Below _ _ _).2.2)).mono ?_); rintro e w3 ⟨rfl, hb⟩)
    | (go_at_call 17; (with_reducible refine (H6.out _ (bt B2 (by assumption : row _ _ = _ ∧ row _ _ = _ ∧ Below _ _ _).2.2)).mono ?_); rintro e w3 ⟨g, cap, rfl, hb⟩)
    | (go_at_call 14; (with_reducible refine (H7.out _).mono ?_); rintro e w3 ⟨rfl, hb⟩))
  all_goals
    have B3 := bt B2 (by assumption : row _ _ = _ ∧ row _ _ = _ ∧ Below _ _ _).2.2
    go_wp2_with fail
    go_ret
    exact ⟨rfl, B3⟩
end Go.Proofs.YtdfdjfnfmibpjaaGreatDoor
