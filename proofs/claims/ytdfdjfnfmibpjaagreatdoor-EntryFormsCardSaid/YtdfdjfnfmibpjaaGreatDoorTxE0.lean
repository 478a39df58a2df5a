/- Contract of package entry: Text at kind 0. -/
import Derived.Test.YtdfdjfnfmibpjaaGreatDoorTxU
namespace Go.Proofs.YtdfdjfnfmibpjaaGreatDoor
open Go.RowKit
set_option maxHeartbeats 64000000
set_option maxRecDepth 8000
set_option linter.unusedSimpArgs false
attribute [local go_sem ↓] ldEnt stEnt ldDat stDat
attribute [local go_sem] isDat_mk isHead_mk headOf_mk cellsOfV_mk isAggV_mk row_new row_new2 row_new2' row_drew row_drewN vals_size vals_dat dat_size dat_one allOne_nil allOne_cons one_int one_bool one_string one_pointer one_slice one_func
theorem tx_k0 (x : Fu) (al gr : Value) (w : World) (hok : okX x = true) (hkd : x.1.kind = 0) (hm : MaxL w) (hT : Tab w) (h1 : IS w al x.2.1) (h2 : GS w gr x.2.2) :
    Calls Tryz.prog 17 #[.agg (x.1.vals al gr)] w fun r w' => ∃ (g n cap : Nat), n = (txX x).length ∧ r = .returned (.slice (some ⟨g, 0, none⟩) n cap) ∧ Strs w' g (txX x) ∧ Below w.heap.size w w' := by
  obtain ⟨e, l2, g2⟩ := x
  dsimp only at h1 h2 hkd ⊢
  have hsz : e.name.size ≤ 60 := Nat.le_trans (kf_name _ hok) (by decide)
  have hv := va_any e al gr l2 g2
  have hv := fun W (b : Below w.heap.size w W) => hv W (hm.below b) (hT.below b) (by omega) (h1.below b) (h2.below b)
  rw [hok] at hv
  have hk := okX_kind _ hok
  dsimp only at hk
  have HV := Lib.hid hv
  have HKD := Lib.hid hkd.symm
  have HOK := Lib.hid hok
  obtain ⟨kw, hkw⟩ : ∃ kw, kw = atW kindsW e.kind := ⟨_, rfl⟩
  have hks : kw.size ≤ 7 := by rw [hkw]; exact atW_size _ _ (by decide) _
  have HP1 := Lib.hid (hkw ▸ pick_A e.kind hk.1 hk.2)
  have HP2 := Lib.hid (hkw ▸ pick_B e.kind hk.1 hk.2)
  have HKW := Lib.hid hkw
  clear hv hk hok hkw hkd
  have l1 : ¬ 9223372036854775807 < kw.size + 1 + e.name.size := by omega
  have l2' : ¬ 9223372036854775807 < kw.size + 1 := by omega
  go_enter Tryz.func17, Tryz.ntmps17
  go_upto_region 4 with (first | (go_at_call 10; (with_reducible refine (HV.out _ (by exact belA)).mono ?_); rintro _ w2 ⟨rfl, hb⟩; have R2 := row_below hb (row_new w _ _ _) (by simp [vals_size]); have B2 := Below.trans (show Below w.heap.size w _ by exact belA) (hb.mono (by simp)); have z2 : w.heap.size < w2.heap.size := (by have := hb.size; simp at this; omega); clear hb))
  have n0 := cell_row R2 0 _ (vals_0 e al gr)
  have n1 := cell_row R2 1 _ (vals_1 e al gr)
  have z3 : w.heap.size < w2.heap.size + 1 := by omega
  have z4 : w.heap.size < w2.heap.size + 1 + 1 := by omega
  have z5 : w.heap.size < w2.heap.size + 1 + 1 + 1 := by omega
  go_cut [4] (fun t4 wx => ∃ o g, t4 = .pointer (some ⟨o, 0, none⟩) ∧ TX wx w.heap.size o g [(kw ++ ⟨#[32]⟩) ++ e.name] ∧ row wx w.heap.size = e.vals al gr ∧ row wx w2.heap.size = e.dat ∧ w.heap.size < wx.heap.size ∧ w2.heap.size < wx.heap.size ∧ w.heap.size ≠ o ∧ w.heap.size ≠ g ∧ w2.heap.size ≠ o ∧ w2.heap.size ≠ g ∧ Below w.heap.size w wx)
  case first =>
    have z2 : w.heap.size < w2.heap.size := z2
    have KS : ∀ {W' : World}, Below w2.heap.size w2 W' → W'.cell? ⟨w.heap.size, 0, none⟩ = some (.int .i64 e.kind) ∧ W'.cell? ⟨w.heap.size, 1, none⟩ = some (.string e.name) ∧ Below w2.heap.size w2 W' := fun h => ⟨(h.cell (p := ⟨w.heap.size, 0, none⟩) z2).trans n0, (h.cell (p := ⟨w.heap.size, 1, none⟩) z2).trans n1, h⟩
    refine wp_region_held_drew (S := fun w' => w'.cell? ⟨w.heap.size, 0, none⟩ = some (.int .i64 e.kind) ∧ w'.cell? ⟨w.heap.size, 1, none⟩ = some (.string e.name) ∧ Below w2.heap.size w2 w') (by kernel_rfl) ?_ (fun hHeld => ?_)
    · exact KS (by exact belA)
    obtain ⟨X, hX⟩ : ∃ X : World, (w2.alloc (.cells e.dat 23)).drew = X := ⟨_, rfl⟩
    rw [hX] at hHeld ⊢
    have bX : Below w2.heap.size w2 X := by rw [← hX]; exact belA
    have rX : row X w2.heap.size = e.dat := by rw [← hX]; exact row_new w2 e.dat 23 (0, 0)
    have sX : X.heap.size = w2.heap.size + 1 := by rw [← hX]; simp
    have fin : ∀ (W : World) (o g : Nat), Below X.heap.size X W → TX W w.heap.size o g [(kw ++ ⟨#[32]⟩) ++ e.name] → w.heap.size < o → w.heap.size < g → w2.heap.size < o → w2.heap.size < g → ∃ o' g', (Value.pointer (some ⟨o, 0, none⟩)) = .pointer (some ⟨o', 0, none⟩) ∧ TX W w.heap.size o' g' [(kw ++ ⟨#[32]⟩) ++ e.name] ∧ row W w.heap.size = e.vals al gr ∧ row W w2.heap.size = e.dat ∧ w.heap.size < W.heap.size ∧ w2.heap.size < W.heap.size ∧ w.heap.size ≠ o' ∧ w.heap.size ≠ g' ∧ w2.heap.size ≠ o' ∧ w2.heap.size ≠ g' ∧ Below w.heap.size w W := fun W o g hb ht h1 h2 h3 h4 => by
      have hs := hb.size
      exact ⟨o, g, rfl, ht, row_below (bX.trans (hb.mono (by omega))) R2 (by simp [vals_size]), row_below hb rX (by rw [dat_size]; decide), by omega, by omega, by omega, by omega, by omega, by omega, B2.trans ((bX.trans (hb.mono (by omega))).mono (by omega))⟩
    have HFIN := Lib.hid fin
    clear fin hX
    (refine rg_y (i := 0) (some 23) (v := ?_) rfl rfl (by kernel_rfl) (by kernel_rfl) (by kernel_rfl) (fun _ _ _ h => h) (by kernel_rfl) ?_ (by assumption) ?_; rotate_left 1; focus (intro w hSw; (try dsimp only at hSw); (first | (go_simp; done) | (go_simp; with_reducible rfl))); (try simp only [Act.put, List.setIfInBounds_toArray, List.set_cons_zero, List.set_cons_succ]))
    (refine rg_y (i := 1) (some 24) (v := ?_) rfl rfl (by kernel_rfl) (by kernel_rfl) (by kernel_rfl) (fun _ _ _ h => h) (by kernel_rfl) ?_ (by assumption) ?_; rotate_left 1; focus (intro w hSw; (try dsimp only at hSw); (first | (go_simp; done) | (go_simp; with_reducible rfl))); (try simp only [Act.put, List.setIfInBounds_toArray, List.set_cons_zero, List.set_cons_succ]))
    (refine rg_y (i := 5) (some 28) (v := ?_) rfl rfl (by kernel_rfl) (by kernel_rfl) (by kernel_rfl) (fun _ _ _ h => h) (by kernel_rfl) ?_ (by assumption) ?_; rotate_left 1; focus (intro w hSw; (try dsimp only at hSw); (first | (go_simp; done) | (go_simp; with_reducible rfl))); (try simp only [Act.put, List.setIfInBounds_toArray, List.set_cons_zero, List.set_cons_succ]))
    (refine rg_y (i := 6) (some 29) (v := ?_) rfl rfl (by kernel_rfl) (by kernel_rfl) (by kernel_rfl) (fun _ _ _ h => h) (by kernel_rfl) ?_ (by assumption) ?_; rotate_left 1; focus (intro w hSw; (try dsimp only at hSw); (first | (go_simp; done) | (go_simp; with_reducible rfl))); (try simp only [Act.put, List.setIfInBounds_toArray, List.set_cons_zero, List.set_cons_succ]))
    refine wpAnyH_ready (rs := [2, 9]) (by kernel_rfl) (by simp) ?_
    refine AllReadyH.cons (o := _) rfl (fun K hK => ?_) (AllReadyH.cons (o := _) rfl (fun K hK => ?_) AllReadyH.nil)
    · go_simp
      have b1 : Below w2.heap.size w2 (X.alloc (.cells #[.string ⟨#[100, 97, 116, 97]⟩, .string ⟨#[103, 114, 111, 117, 112]⟩, .string ⟨#[97, 108, 105, 97, 115]⟩, .string ⟨#[99, 97, 116, 97, 108, 111, 103]⟩, .string ⟨#[112, 114, 111, 102, 105, 108, 101]⟩] 9)) := bX.trans (show Below w2.heap.size X (X.alloc (.cells #[.string ⟨#[100, 97, 116, 97]⟩, .string ⟨#[103, 114, 111, 117, 112]⟩, .string ⟨#[97, 108, 105, 97, 115]⟩, .string ⟨#[99, 97, 116, 97, 108, 111, 103]⟩, .string ⟨#[112, 114, 111, 102, 105, 108, 101]⟩] 9)) by have hzz := sX; exact belA)
      refine hK.out _ _ (KS b1) (fun hHeld => ?_)
      (clear hK K; (try simp only [Act.put, List.setIfInBounds_toArray, List.set_cons_zero, List.set_cons_succ]))
      refine wpAnyH_ready (rs := [3, 9]) (by kernel_rfl) (by simp) ?_
      refine AllReadyH.cons (o := _) rfl (fun K hK => ?_) (AllReadyH.cons (o := _) rfl (fun K hK => ?_) AllReadyH.nil)
      · go_simp
        go_at_call 65
        refine (HP1.out _ _  _ (by first | rfl | omega | (simp; omega))).mono ?_
        rintro _ w3 ⟨rfl, rfl⟩
        refine hK.out _ _ (KS b1) (fun hHeld => ?_)
        (clear hK K; (try simp only [Act.put, List.setIfInBounds_toArray, List.set_cons_zero, List.set_cons_succ]))
        (refine rg_y (i := 4) (some 27) (v := ?_) rfl rfl (by kernel_rfl) (by kernel_rfl) (by kernel_rfl) (fun _ _ _ h => h) (by kernel_rfl) ?_ (by assumption) ?_; rotate_left 1; focus (intro w hSw; (try dsimp only at hSw); (first | (go_simp; done) | (go_simp; with_reducible rfl))); (try simp only [Act.put, List.setIfInBounds_toArray, List.set_cons_zero, List.set_cons_succ]))
        (refine rg_y (i := 7) (some 30) (v := ?_) rfl rfl (by kernel_rfl) (by kernel_rfl) (by kernel_rfl) (fun _ _ _ h => h) (by kernel_rfl) ?_ (by assumption) ?_; rotate_left 1; focus (intro w hSw; (try dsimp only at hSw); (first | (go_simp; done) | (go_simp; with_reducible rfl))); (try simp only [Act.put, List.setIfInBounds_toArray, List.set_cons_zero, List.set_cons_succ]))
        refine wpAnyH_ready (rs := [8, 9]) (by kernel_rfl) (by simp) ?_
        refine AllReadyH.cons (o := _) rfl (fun K hK => ?_) (AllReadyH.cons (o := _) rfl (fun K hK => ?_) AllReadyH.nil)
        · go_simp
          have b2 : Below w2.heap.size w2 ((X.alloc (.cells #[.string ⟨#[100, 97, 116, 97]⟩, .string ⟨#[103, 114, 111, 117, 112]⟩, .string ⟨#[97, 108, 105, 97, 115]⟩, .string ⟨#[99, 97, 116, 97, 108, 111, 103]⟩, .string ⟨#[112, 114, 111, 102, 105, 108, 101]⟩] 9)).alloc (.cells #[.string ((kw ++ ⟨#[32]⟩) ++ e.name)] 9)) := bX.trans (show Below w2.heap.size X ((X.alloc (.cells #[.string ⟨#[100, 97, 116, 97]⟩, .string ⟨#[103, 114, 111, 117, 112]⟩, .string ⟨#[97, 108, 105, 97, 115]⟩, .string ⟨#[99, 97, 116, 97, 108, 111, 103]⟩, .string ⟨#[112, 114, 111, 102, 105, 108, 101]⟩] 9)).alloc (.cells #[.string ((kw ++ ⟨#[32]⟩) ++ e.name)] 9)) by have hzz := sX; exact belA)
          refine hK.out _ _ (KS b2) (fun hHeld => ?_)
          (clear hK K; (try simp only [Act.put, List.setIfInBounds_toArray, List.set_cons_zero, List.set_cons_succ]))
          (refine wpAnyH_ready (rs := [9]) (by kernel_rfl) (by simp) ?_; refine AllReadyH.cons (o := _) rfl (fun K hK => ?_) AllReadyH.nil)
          go_simp
          have b3 : Below w2.heap.size w2 (((X.alloc (.cells #[.string ⟨#[100, 97, 116, 97]⟩, .string ⟨#[103, 114, 111, 117, 112]⟩, .string ⟨#[97, 108, 105, 97, 115]⟩, .string ⟨#[99, 97, 116, 97, 108, 111, 103]⟩, .string ⟨#[112, 114, 111, 102, 105, 108, 101]⟩] 9)).alloc (.cells #[.string ((kw ++ ⟨#[32]⟩) ++ e.name)] 9)).alloc (.cells #[.slice none 0 0] 33)) := bX.trans (show Below w2.heap.size X (((X.alloc (.cells #[.string ⟨#[100, 97, 116, 97]⟩, .string ⟨#[103, 114, 111, 117, 112]⟩, .string ⟨#[97, 108, 105, 97, 115]⟩, .string ⟨#[99, 97, 116, 97, 108, 111, 103]⟩, .string ⟨#[112, 114, 111, 102, 105, 108, 101]⟩] 9)).alloc (.cells #[.string ((kw ++ ⟨#[32]⟩) ++ e.name)] 9)).alloc (.cells #[.slice none 0 0] 33)) by have hzz := sX; exact belA)
          refine hK.out _ _ (KS b3) (fun hHeld => ?_)
          (clear hK K; (try simp only [Act.put, List.setIfInBounds_toArray, List.set_cons_zero, List.set_cons_succ]))
          (refine wpAnyH_ready (rs := [10]) (by kernel_rfl) (by simp) ?_; refine AllReadyH.cons (o := _) rfl (fun K hK => ?_) AllReadyH.nil)
          go_simp
          have ht := TX.a (X.alloc (.cells #[.string ⟨#[100, 97, 116, 97]⟩, .string ⟨#[103, 114, 111, 117, 112]⟩, .string ⟨#[97, 108, 105, 97, 115]⟩, .string ⟨#[99, 97, 116, 97, 108, 111, 103]⟩, .string ⟨#[112, 114, 111, 102, 105, 108, 101]⟩] 9)) w.heap.size ((kw ++ ⟨#[32]⟩) ++ e.name) 33 (by first | omega | (simp; omega))
          rw [show (X.alloc (.cells #[.string ⟨#[100, 97, 116, 97]⟩, .string ⟨#[103, 114, 111, 117, 112]⟩, .string ⟨#[97, 108, 105, 97, 115]⟩, .string ⟨#[99, 97, 116, 97, 108, 111, 103]⟩, .string ⟨#[112, 114, 111, 102, 105, 108, 101]⟩] 9)).heap.size = w2.heap.size + 1 + 1 by first | exact sX | simp [sX]] at ht
          refine hK.out _ _ (KS (bX.trans (show Below w2.heap.size X _ by have hzz := sX; exact belA))) (fun hHeld => ?_)
          (clear hK K; (try simp only [Act.put, List.setIfInBounds_toArray, List.set_cons_zero, List.set_cons_succ]))
          refine wpAnyH_done (by kernel_rfl) ?_ _
          go_wp2_with fail
          go_meet
          exact HFIN.out _ _ _ (show Below X.heap.size X _ by exact belA) ht (by omega) (by omega) (by omega) (by omega)
        · go_simp
          have b2 : Below w2.heap.size w2 ((X.alloc (.cells #[.string ⟨#[100, 97, 116, 97]⟩, .string ⟨#[103, 114, 111, 117, 112]⟩, .string ⟨#[97, 108, 105, 97, 115]⟩, .string ⟨#[99, 97, 116, 97, 108, 111, 103]⟩, .string ⟨#[112, 114, 111, 102, 105, 108, 101]⟩] 9)).alloc (.cells #[.slice none 0 0] 33)) := bX.trans (show Below w2.heap.size X ((X.alloc (.cells #[.string ⟨#[100, 97, 116, 97]⟩, .string ⟨#[103, 114, 111, 117, 112]⟩, .string ⟨#[97, 108, 105, 97, 115]⟩, .string ⟨#[99, 97, 116, 97, 108, 111, 103]⟩, .string ⟨#[112, 114, 111, 102, 105, 108, 101]⟩] 9)).alloc (.cells #[.slice none 0 0] 33)) by have hzz := sX; exact belA)
          refine hK.out _ _ (KS b2) (fun hHeld => ?_)
          (clear hK K; (try simp only [Act.put, List.setIfInBounds_toArray, List.set_cons_zero, List.set_cons_succ]))
          (refine wpAnyH_ready (rs := [8]) (by kernel_rfl) (by simp) ?_; refine AllReadyH.cons (o := _) rfl (fun K hK => ?_) AllReadyH.nil)
          go_simp
          have b3 : Below w2.heap.size w2 (((X.alloc (.cells #[.string ⟨#[100, 97, 116, 97]⟩, .string ⟨#[103, 114, 111, 117, 112]⟩, .string ⟨#[97, 108, 105, 97, 115]⟩, .string ⟨#[99, 97, 116, 97, 108, 111, 103]⟩, .string ⟨#[112, 114, 111, 102, 105, 108, 101]⟩] 9)).alloc (.cells #[.slice none 0 0] 33)).alloc (.cells #[.string ((kw ++ ⟨#[32]⟩) ++ e.name)] 9)) := bX.trans (show Below w2.heap.size X (((X.alloc (.cells #[.string ⟨#[100, 97, 116, 97]⟩, .string ⟨#[103, 114, 111, 117, 112]⟩, .string ⟨#[97, 108, 105, 97, 115]⟩, .string ⟨#[99, 97, 116, 97, 108, 111, 103]⟩, .string ⟨#[112, 114, 111, 102, 105, 108, 101]⟩] 9)).alloc (.cells #[.slice none 0 0] 33)).alloc (.cells #[.string ((kw ++ ⟨#[32]⟩) ++ e.name)] 9)) by have hzz := sX; exact belA)
          refine hK.out _ _ (KS b3) (fun hHeld => ?_)
          (clear hK K; (try simp only [Act.put, List.setIfInBounds_toArray, List.set_cons_zero, List.set_cons_succ]))
          (refine wpAnyH_ready (rs := [10]) (by kernel_rfl) (by simp) ?_; refine AllReadyH.cons (o := _) rfl (fun K hK => ?_) AllReadyH.nil)
          go_simp
          have ht := TX.b (X.alloc (.cells #[.string ⟨#[100, 97, 116, 97]⟩, .string ⟨#[103, 114, 111, 117, 112]⟩, .string ⟨#[97, 108, 105, 97, 115]⟩, .string ⟨#[99, 97, 116, 97, 108, 111, 103]⟩, .string ⟨#[112, 114, 111, 102, 105, 108, 101]⟩] 9)) w.heap.size ((kw ++ ⟨#[32]⟩) ++ e.name) 33 (by first | omega | (simp; omega))
          rw [show (X.alloc (.cells #[.string ⟨#[100, 97, 116, 97]⟩, .string ⟨#[103, 114, 111, 117, 112]⟩, .string ⟨#[97, 108, 105, 97, 115]⟩, .string ⟨#[99, 97, 116, 97, 108, 111, 103]⟩, .string ⟨#[112, 114, 111, 102, 105, 108, 101]⟩] 9)).heap.size = w2.heap.size + 1 + 1 by first | exact sX | simp [sX]] at ht
          refine hK.out _ _ (KS (bX.trans (show Below w2.heap.size X _ by have hzz := sX; exact belA))) (fun hHeld => ?_)
          (clear hK K; (try simp only [Act.put, List.setIfInBounds_toArray, List.set_cons_zero, List.set_cons_succ]))
          refine wpAnyH_done (by kernel_rfl) ?_ _
          go_wp2_with fail
          go_meet
          exact HFIN.out _ _ _ (show Below X.heap.size X _ by exact belA) ht (by omega) (by omega) (by omega) (by omega)
      · go_simp
        have b2 : Below w2.heap.size w2 ((X.alloc (.cells #[.string ⟨#[100, 97, 116, 97]⟩, .string ⟨#[103, 114, 111, 117, 112]⟩, .string ⟨#[97, 108, 105, 97, 115]⟩, .string ⟨#[99, 97, 116, 97, 108, 111, 103]⟩, .string ⟨#[112, 114, 111, 102, 105, 108, 101]⟩] 9)).alloc (.cells #[.slice none 0 0] 33)) := bX.trans (show Below w2.heap.size X ((X.alloc (.cells #[.string ⟨#[100, 97, 116, 97]⟩, .string ⟨#[103, 114, 111, 117, 112]⟩, .string ⟨#[97, 108, 105, 97, 115]⟩, .string ⟨#[99, 97, 116, 97, 108, 111, 103]⟩, .string ⟨#[112, 114, 111, 102, 105, 108, 101]⟩] 9)).alloc (.cells #[.slice none 0 0] 33)) by have hzz := sX; exact belA)
        refine hK.out _ _ (KS b2) (fun hHeld => ?_)
        (clear hK K; (try simp only [Act.put, List.setIfInBounds_toArray, List.set_cons_zero, List.set_cons_succ]))
        (refine wpAnyH_ready (rs := [3]) (by kernel_rfl) (by simp) ?_; refine AllReadyH.cons (o := _) rfl (fun K hK => ?_) AllReadyH.nil)
        go_simp
        go_at_call 65
        refine (HP2.out _ _ _ _ (by first | rfl | omega | (simp; omega))).mono ?_
        rintro _ w3 ⟨rfl, rfl⟩
        refine hK.out _ _ (KS b2) (fun hHeld => ?_)
        (clear hK K; (try simp only [Act.put, List.setIfInBounds_toArray, List.set_cons_zero, List.set_cons_succ]))
        (refine rg_y (i := 4) (some 27) (v := ?_) rfl rfl (by kernel_rfl) (by kernel_rfl) (by kernel_rfl) (fun _ _ _ h => h) (by kernel_rfl) ?_ (by assumption) ?_; rotate_left 1; focus (intro w hSw; (try dsimp only at hSw); (first | (go_simp; done) | (go_simp; with_reducible rfl))); (try simp only [Act.put, List.setIfInBounds_toArray, List.set_cons_zero, List.set_cons_succ]))
        (refine rg_y (i := 7) (some 30) (v := ?_) rfl rfl (by kernel_rfl) (by kernel_rfl) (by kernel_rfl) (fun _ _ _ h => h) (by kernel_rfl) ?_ (by assumption) ?_; rotate_left 1; focus (intro w hSw; (try dsimp only at hSw); (first | (go_simp; done) | (go_simp; with_reducible rfl))); (try simp only [Act.put, List.setIfInBounds_toArray, List.set_cons_zero, List.set_cons_succ]))
        (refine wpAnyH_ready (rs := [8]) (by kernel_rfl) (by simp) ?_; refine AllReadyH.cons (o := _) rfl (fun K hK => ?_) AllReadyH.nil)
        go_simp
        have b3 : Below w2.heap.size w2 (((X.alloc (.cells #[.string ⟨#[100, 97, 116, 97]⟩, .string ⟨#[103, 114, 111, 117, 112]⟩, .string ⟨#[97, 108, 105, 97, 115]⟩, .string ⟨#[99, 97, 116, 97, 108, 111, 103]⟩, .string ⟨#[112, 114, 111, 102, 105, 108, 101]⟩] 9)).alloc (.cells #[.slice none 0 0] 33)).alloc (.cells #[.string ((kw ++ ⟨#[32]⟩) ++ e.name)] 9)) := bX.trans (show Below w2.heap.size X (((X.alloc (.cells #[.string ⟨#[100, 97, 116, 97]⟩, .string ⟨#[103, 114, 111, 117, 112]⟩, .string ⟨#[97, 108, 105, 97, 115]⟩, .string ⟨#[99, 97, 116, 97, 108, 111, 103]⟩, .string ⟨#[112, 114, 111, 102, 105, 108, 101]⟩] 9)).alloc (.cells #[.slice none 0 0] 33)).alloc (.cells #[.string ((kw ++ ⟨#[32]⟩) ++ e.name)] 9)) by have hzz := sX; exact belA)
        refine hK.out _ _ (KS b3) (fun hHeld => ?_)
        (clear hK K; (try simp only [Act.put, List.setIfInBounds_toArray, List.set_cons_zero, List.set_cons_succ]))
        (refine wpAnyH_ready (rs := [10]) (by kernel_rfl) (by simp) ?_; refine AllReadyH.cons (o := _) rfl (fun K hK => ?_) AllReadyH.nil)
        go_simp
        have ht := TX.b (X.alloc (.cells #[.string ⟨#[100, 97, 116, 97]⟩, .string ⟨#[103, 114, 111, 117, 112]⟩, .string ⟨#[97, 108, 105, 97, 115]⟩, .string ⟨#[99, 97, 116, 97, 108, 111, 103]⟩, .string ⟨#[112, 114, 111, 102, 105, 108, 101]⟩] 9)) w.heap.size ((kw ++ ⟨#[32]⟩) ++ e.name) 33 (by first | omega | (simp; omega))
        rw [show (X.alloc (.cells #[.string ⟨#[100, 97, 116, 97]⟩, .string ⟨#[103, 114, 111, 117, 112]⟩, .string ⟨#[97, 108, 105, 97, 115]⟩, .string ⟨#[99, 97, 116, 97, 108, 111, 103]⟩, .string ⟨#[112, 114, 111, 102, 105, 108, 101]⟩] 9)).heap.size = w2.heap.size + 1 + 1 by first | exact sX | simp [sX]] at ht
        refine hK.out _ _ (KS (bX.trans (show Below w2.heap.size X _ by have hzz := sX; exact belA))) (fun hHeld => ?_)
        (clear hK K; (try simp only [Act.put, List.setIfInBounds_toArray, List.set_cons_zero, List.set_cons_succ]))
        refine wpAnyH_done (by kernel_rfl) ?_ _
        go_wp2_with fail
        go_meet
        exact HFIN.out _ _ _ (show Below X.heap.size X _ by exact belA) ht (by omega) (by omega) (by omega) (by omega)
    · go_simp
      have b1 : Below w2.heap.size w2 (X.alloc (.cells #[.slice none 0 0] 33)) := bX.trans (show Below w2.heap.size X (X.alloc (.cells #[.slice none 0 0] 33)) by have hzz := sX; exact belA)
      refine hK.out _ _ (KS b1) (fun hHeld => ?_)
      (clear hK K; (try simp only [Act.put, List.setIfInBounds_toArray, List.set_cons_zero, List.set_cons_succ]))
      (refine wpAnyH_ready (rs := [2]) (by kernel_rfl) (by simp) ?_; refine AllReadyH.cons (o := _) rfl (fun K hK => ?_) AllReadyH.nil)
      go_simp
      have b2 : Below w2.heap.size w2 ((X.alloc (.cells #[.slice none 0 0] 33)).alloc (.cells #[.string ⟨#[100, 97, 116, 97]⟩, .string ⟨#[103, 114, 111, 117, 112]⟩, .string ⟨#[97, 108, 105, 97, 115]⟩, .string ⟨#[99, 97, 116, 97, 108, 111, 103]⟩, .string ⟨#[112, 114, 111, 102, 105, 108, 101]⟩] 9)) := bX.trans (show Below w2.heap.size X ((X.alloc (.cells #[.slice none 0 0] 33)).alloc (.cells #[.string ⟨#[100, 97, 116, 97]⟩, .string ⟨#[103, 114, 111, 117, 112]⟩, .string ⟨#[97, 108, 105, 97, 115]⟩, .string ⟨#[99, 97, 116, 97, 108, 111, 103]⟩, .string ⟨#[112, 114, 111, 102, 105, 108, 101]⟩] 9)) by have hzz := sX; exact belA)
      refine hK.out _ _ (KS b2) (fun hHeld => ?_)
      (clear hK K; (try simp only [Act.put, List.setIfInBounds_toArray, List.set_cons_zero, List.set_cons_succ]))
      (refine wpAnyH_ready (rs := [3]) (by kernel_rfl) (by simp) ?_; refine AllReadyH.cons (o := _) rfl (fun K hK => ?_) AllReadyH.nil)
      go_simp
      go_at_call 65
      refine (HP1.out _ _  _ (by first | rfl | omega | (simp; omega))).mono ?_
      rintro _ w3 ⟨rfl, rfl⟩
      refine hK.out _ _ (KS b2) (fun hHeld => ?_)
      (clear hK K; (try simp only [Act.put, List.setIfInBounds_toArray, List.set_cons_zero, List.set_cons_succ]))
      (refine rg_y (i := 4) (some 27) (v := ?_) rfl rfl (by kernel_rfl) (by kernel_rfl) (by kernel_rfl) (fun _ _ _ h => h) (by kernel_rfl) ?_ (by assumption) ?_; rotate_left 1; focus (intro w hSw; (try dsimp only at hSw); (first | (go_simp; done) | (go_simp; with_reducible rfl))); (try simp only [Act.put, List.setIfInBounds_toArray, List.set_cons_zero, List.set_cons_succ]))
      (refine rg_y (i := 7) (some 30) (v := ?_) rfl rfl (by kernel_rfl) (by kernel_rfl) (by kernel_rfl) (fun _ _ _ h => h) (by kernel_rfl) ?_ (by assumption) ?_; rotate_left 1; focus (intro w hSw; (try dsimp only at hSw); (first | (go_simp; done) | (go_simp; with_reducible rfl))); (try simp only [Act.put, List.setIfInBounds_toArray, List.set_cons_zero, List.set_cons_succ]))
      (refine wpAnyH_ready (rs := [8]) (by kernel_rfl) (by simp) ?_; refine AllReadyH.cons (o := _) rfl (fun K hK => ?_) AllReadyH.nil)
      go_simp
      have b3 : Below w2.heap.size w2 (((X.alloc (.cells #[.slice none 0 0] 33)).alloc (.cells #[.string ⟨#[100, 97, 116, 97]⟩, .string ⟨#[103, 114, 111, 117, 112]⟩, .string ⟨#[97, 108, 105, 97, 115]⟩, .string ⟨#[99, 97, 116, 97, 108, 111, 103]⟩, .string ⟨#[112, 114, 111, 102, 105, 108, 101]⟩] 9)).alloc (.cells #[.string ((kw ++ ⟨#[32]⟩) ++ e.name)] 9)) := bX.trans (show Below w2.heap.size X (((X.alloc (.cells #[.slice none 0 0] 33)).alloc (.cells #[.string ⟨#[100, 97, 116, 97]⟩, .string ⟨#[103, 114, 111, 117, 112]⟩, .string ⟨#[97, 108, 105, 97, 115]⟩, .string ⟨#[99, 97, 116, 97, 108, 111, 103]⟩, .string ⟨#[112, 114, 111, 102, 105, 108, 101]⟩] 9)).alloc (.cells #[.string ((kw ++ ⟨#[32]⟩) ++ e.name)] 9)) by have hzz := sX; exact belA)
      refine hK.out _ _ (KS b3) (fun hHeld => ?_)
      (clear hK K; (try simp only [Act.put, List.setIfInBounds_toArray, List.set_cons_zero, List.set_cons_succ]))
      (refine wpAnyH_ready (rs := [10]) (by kernel_rfl) (by simp) ?_; refine AllReadyH.cons (o := _) rfl (fun K hK => ?_) AllReadyH.nil)
      go_simp
      have ht := TX.c X (.cells #[.string ⟨#[100, 97, 116, 97]⟩, .string ⟨#[103, 114, 111, 117, 112]⟩, .string ⟨#[97, 108, 105, 97, 115]⟩, .string ⟨#[99, 97, 116, 97, 108, 111, 103]⟩, .string ⟨#[112, 114, 111, 102, 105, 108, 101]⟩] 9) w.heap.size ((kw ++ ⟨#[32]⟩) ++ e.name) 33 (by first | omega | (simp; omega))
      rw [show (X).heap.size = w2.heap.size + 1 by first | exact sX | simp [sX]] at ht
      refine hK.out _ _ (KS (bX.trans (show Below w2.heap.size X _ by have hzz := sX; exact belA))) (fun hHeld => ?_)
      (clear hK K; (try simp only [Act.put, List.setIfInBounds_toArray, List.set_cons_zero, List.set_cons_succ]))
      refine wpAnyH_done (by kernel_rfl) ?_ _
      go_wp2_with fail
      go_meet
      exact HFIN.out _ _ _ (show Below X.heap.size X _ by exact belA) ht (by omega) (by omega) (by omega) (by omega)
  case rest =>
    obtain ⟨o, g, rfl, hTX, hrow, hrd, hlt, hlt2, hno, hng, hno2, hng2, hB⟩ := hcut
    have n0 := cell_row hrow 0 _ (vals_0 e al gr)
    have hsz2 := hB.size
    have HH := Lib.hid hTX
    have HR := Lib.hid hrow
    have HRD := Lib.hid hrd
    have HB := Lib.hid hB
    clear hTX hrow hrd hB
    rw [← HKD.out] at n0
    go_upto_region 11 with fail
    obtain ⟨hx, hl⟩ := HX.start HH.out HB.out ⟨hlt, hno, hng⟩ ⟨hlt2, hno2, hng2⟩ HR.out HRD.out 104
    generalize hW0 : World.alloc (World.alloc wc _) _ = W0 at hx hl ⊢
    generalize hf : wc.heap.size = f at hx ⊢
    have HXX := Lib.hid hx
    have HL := Lib.hid hl
    have HHD := Lib.hid (show kw ++ ⟨#[32]⟩ ++ e.name = hdB e by unfold hdB; rw [HKW.out])
    rw [HHD.out] at HL
    clear hx hl hW0 hf HH HR HRD HB n0 hlt hlt2 hsz2
    have hq := kf_0 _ HOK.out HKD.out.symm
    dsimp only at hq
    have HQ := Lib.hid hq
    obtain ⟨la, lc, rfl, -, hcl⟩ := h1
    have HCL := Lib.hid hcl
    clear hq hcl
    have cf := HL.out.fn HXX.out.lf
    have c0 := HXX.out.d HL.out 0 _ (dat_0 e)
    go_upto_region 13 with (go_at_call 67; (with_reducible refine (tx_num HL.out HXX.out.lf ⟨#[105, 100]⟩ e.d0 hT LL (by decide) HQ.out.d0.1 HQ.out.d0.2).mono ?_); rintro _ w4 ⟨rfl, hL⟩; have HL1 := Lib.hid hL; clear hL)
    clear cf c0
    have cf := HL1.out.fn HXX.out.lf
    have c1 := HXX.out.d HL1.out 1 _ (dat_1 e)
    have f1 : f < w4.heap.size := Nat.lt_of_lt_of_le HXX.out.lf.1 HL1.out.sz
    have f2 : w2.heap.size < w4.heap.size := Nat.lt_of_lt_of_le HXX.out.lD.1 HL1.out.sz
    have hos := orgW_size e.d1
    go_cut [50] (fun v wx => LX w W0 o g wx ([hdB e] ++ ln ⟨#[105, 100]⟩ (nmB e.d0) ++ ln ⟨#[111, 114, 103, 97, 110, 105, 115, 97, 116, 105, 111, 110]⟩ (atW orgW e.d1)))
    case first =>
      refine wp_region_held_drew (S := fun w' => w'.cell? ⟨f, 0, none⟩ = some (.func (.func 66) #[] #[.pointer (some ⟨o, 0, none⟩)]) ∧ w'.cell? ⟨w2.heap.size, 1, none⟩ = some (.int .i64 e.d1)) (by kernel_rfl) ?_ (fun hHeld => ?_)
      · exact ⟨cf, c1⟩
      (refine rg_y (i := 0) (some 45) (v := ?_) rfl rfl (by kernel_rfl) (by kernel_rfl) (by kernel_rfl) (fun _ _ _ h => h) (by kernel_rfl) ?_ (by assumption) ?_; rotate_left 1; focus (intro w hSw; (try dsimp only at hSw); (first | (go_simp; done) | (go_simp; with_reducible rfl))); (try simp only [Act.put, List.setIfInBounds_toArray, List.set_cons_zero, List.set_cons_succ]))
      (refine rg_y (i := 1) (some 46) (v := ?_) rfl rfl (by kernel_rfl) (by kernel_rfl) (by kernel_rfl) (fun _ _ _ h => h) (by kernel_rfl) ?_ (by assumption) ?_; rotate_left 1; focus (intro w hSw; (try dsimp only at hSw); (first | (go_simp; done) | (go_simp; with_reducible rfl))); (try simp only [Act.put, List.setIfInBounds_toArray, List.set_cons_zero, List.set_cons_succ]))
      (refine rg_y (i := 2) (some 47) (v := ?_) rfl rfl (by kernel_rfl) (by kernel_rfl) (by kernel_rfl) (fun _ _ _ h => h) (by kernel_rfl) ?_ (by assumption) ?_; rotate_left 1; focus (intro w hSw; (try dsimp only at hSw); (first | (go_simp; done) | (go_simp; with_reducible rfl))); (try simp only [Act.put, List.setIfInBounds_toArray, List.set_cons_zero, List.set_cons_succ]))
      (refine wpAnyH_ready (rs := [3]) (by kernel_rfl) (by simp) ?_; refine AllReadyH.cons (o := _) rfl (fun K hK => ?_) AllReadyH.nil)
      go_simp
      have b1 : Below w4.heap.size w4 ((w4.alloc (.cells #[.string ⟨#[115, 101, 113, 117, 101, 110, 116, 105, 97, 108]⟩, .string ⟨#[101, 110, 116, 114, 121]⟩, .string ⟨#[114, 101, 108, 97, 116, 105, 118, 101]⟩, .string ⟨#[107, 101, 121, 101, 100]⟩] 9)).drew) := by exact belA
      refine hK.out _ _ ⟨(b1.cell (p := ⟨f, 0, none⟩) f1).trans cf, (b1.cell (p := ⟨w2.heap.size, 1, none⟩) f2).trans c1⟩ (fun hHeld => ?_)
      (clear hK K; (try simp only [Act.put, List.setIfInBounds_toArray, List.set_cons_zero, List.set_cons_succ]))
      (refine wpAnyH_ready (rs := [4]) (by kernel_rfl) (by simp) ?_; refine AllReadyH.cons (o := _) rfl (fun K hK => ?_) AllReadyH.nil)
      go_simp
      go_at_call 65
      refine (pick_o1 e.d1 HQ.out.d1.1 HQ.out.d1.2 _ _ _ (by first | rfl | simp)).mono ?_
      rintro _ w5 ⟨rfl, rfl⟩
      refine hK.out _ _ hHeld (fun hHeld => ?_)
      (clear hK K; (try simp only [Act.put, List.setIfInBounds_toArray, List.set_cons_zero, List.set_cons_succ]))
      (refine wpAnyH_ready (rs := [5]) (by kernel_rfl) (by simp) ?_; refine AllReadyH.cons (o := _) rfl (fun K hK => ?_) AllReadyH.nil)
      go_simp
      go_at_call 66
      refine (tx_lineL (HL1.out.keep b1) ⟨#[111, 114, 103, 97, 110, 105, 115, 97, 116, 105, 111, 110]⟩ (atW orgW e.d1) LL (by decide) (by omega)).mono ?_
      rintro _ w5 ⟨rfl, hL⟩
      refine hK.out _ _ ⟨hL.fn HXX.out.lf, HXX.out.d hL 1 _ (dat_1 e)⟩ (fun hHeld => ?_)
      (clear hK K; (try simp only [Act.put, List.setIfInBounds_toArray, List.set_cons_zero, List.set_cons_succ]))
      refine wpAnyH_done (by kernel_rfl) ?_ _
      go_wp2_with fail
      go_meet
      exact hL
    have HL2 := Lib.hid hcut
    clear cf c1 f1 f2 hos hcut
    have cf := HL2.out.fn HXX.out.lf
    have c2 := HXX.out.d HL2.out 2 _ (dat_2 e)
    have f1 : f < wc.heap.size := Nat.lt_of_lt_of_le HXX.out.lf.1 HL2.out.sz
    have f2 : w2.heap.size < wc.heap.size := Nat.lt_of_lt_of_le HXX.out.lD.1 HL2.out.sz
    have hos := fmtW_size e.d2
    obtain ⟨wd2, hwd2⟩ : ∃ wd2, wd2 = wc := ⟨_, rfl⟩
    subst hwd2
    go_upto_region 14 with fail
    go_cut [56] (fun v wx => LX w W0 o g wx ([hdB e] ++ ln ⟨#[105, 100]⟩ (nmB e.d0) ++ ln ⟨#[111, 114, 103, 97, 110, 105, 115, 97, 116, 105, 111, 110]⟩ (atW orgW e.d1) ++ ln ⟨#[102, 111, 114, 109, 97, 116]⟩ (atW fmtW e.d2)))
    case first =>
      refine wp_region_held_drew (S := fun w' => w'.cell? ⟨f, 0, none⟩ = some (.func (.func 66) #[] #[.pointer (some ⟨o, 0, none⟩)]) ∧ w'.cell? ⟨w2.heap.size, 2, none⟩ = some (.int .i64 e.d2)) (by kernel_rfl) ?_ (fun hHeld => ?_)
      · exact ⟨cf, c2⟩
      (refine rg_y (i := 0) (some 51) (v := ?_) rfl rfl (by kernel_rfl) (by kernel_rfl) (by kernel_rfl) (fun _ _ _ h => h) (by kernel_rfl) ?_ (by assumption) ?_; rotate_left 1; focus (intro w hSw; (try dsimp only at hSw); (first | (go_simp; done) | (go_simp; with_reducible rfl))); (try simp only [Act.put, List.setIfInBounds_toArray, List.set_cons_zero, List.set_cons_succ]))
      (refine rg_y (i := 1) (some 52) (v := ?_) rfl rfl (by kernel_rfl) (by kernel_rfl) (by kernel_rfl) (fun _ _ _ h => h) (by kernel_rfl) ?_ (by assumption) ?_; rotate_left 1; focus (intro w hSw; (try dsimp only at hSw); (first | (go_simp; done) | (go_simp; with_reducible rfl))); (try simp only [Act.put, List.setIfInBounds_toArray, List.set_cons_zero, List.set_cons_succ]))
      (refine rg_y (i := 2) (some 53) (v := ?_) rfl rfl (by kernel_rfl) (by kernel_rfl) (by kernel_rfl) (fun _ _ _ h => h) (by kernel_rfl) ?_ (by assumption) ?_; rotate_left 1; focus (intro w hSw; (try dsimp only at hSw); (first | (go_simp; done) | (go_simp; with_reducible rfl))); (try simp only [Act.put, List.setIfInBounds_toArray, List.set_cons_zero, List.set_cons_succ]))
      (refine wpAnyH_ready (rs := [3]) (by kernel_rfl) (by simp) ?_; refine AllReadyH.cons (o := _) rfl (fun K hK => ?_) AllReadyH.nil)
      go_simp
      have b1 : Below wd2.heap.size wd2 ((wd2.alloc (.cells #[.string ⟨#[]⟩, .string ⟨#[118, 97, 114, 105, 97, 98, 108, 101]⟩, .string ⟨#[115, 112, 97, 110, 110, 101, 100]⟩] 9)).drew) := by exact belA
      refine hK.out _ _ ⟨(b1.cell (p := ⟨f, 0, none⟩) f1).trans cf, (b1.cell (p := ⟨w2.heap.size, 2, none⟩) f2).trans c2⟩ (fun hHeld => ?_)
      (clear hK K; (try simp only [Act.put, List.setIfInBounds_toArray, List.set_cons_zero, List.set_cons_succ]))
      (refine wpAnyH_ready (rs := [4]) (by kernel_rfl) (by simp) ?_; refine AllReadyH.cons (o := _) rfl (fun K hK => ?_) AllReadyH.nil)
      go_simp
      go_at_call 65
      refine (pick_f1 e.d2 HQ.out.d2.1 HQ.out.d2.2 _ _ _ (by first | rfl | simp)).mono ?_
      rintro _ w5 ⟨rfl, rfl⟩
      refine hK.out _ _ hHeld (fun hHeld => ?_)
      (clear hK K; (try simp only [Act.put, List.setIfInBounds_toArray, List.set_cons_zero, List.set_cons_succ]))
      (refine wpAnyH_ready (rs := [5]) (by kernel_rfl) (by simp) ?_; refine AllReadyH.cons (o := _) rfl (fun K hK => ?_) AllReadyH.nil)
      go_simp
      go_at_call 66
      refine (tx_lineL (HL2.out.keep b1) ⟨#[102, 111, 114, 109, 97, 116]⟩ (atW fmtW e.d2) LL (by decide) (by omega)).mono ?_
      rintro _ w5 ⟨rfl, hL⟩
      refine hK.out _ _ ⟨hL.fn HXX.out.lf, HXX.out.d hL 2 _ (dat_2 e)⟩ (fun hHeld => ?_)
      (clear hK K; (try simp only [Act.put, List.setIfInBounds_toArray, List.set_cons_zero, List.set_cons_succ]))
      refine wpAnyH_done (by kernel_rfl) ?_ _
      go_wp2_with fail
      go_meet
      exact hL
    have HL3 := Lib.hid hcut
    clear cf c2 f1 f2 hos hcut
    have d3 := HXX.out.d HL3.out 3 _ (dat_3 e)
    have d4 := HXX.out.d HL3.out 4 _ (dat_4 e)
    have d5 := HXX.out.d HL3.out 5 _ (dat_5 e)
    have d6 := HXX.out.d HL3.out 6 _ (dat_6 e)
    have d7 := HXX.out.d HL3.out 7 _ (dat_7 e)
    have d8 := HXX.out.d HL3.out 8 _ (dat_8 e)
    have d9 := HXX.out.d HL3.out 9 _ (dat_9 e)
    have d10 := HXX.out.d HL3.out 10 _ (dat_10 e)
    have d11 := HXX.out.d HL3.out 11 _ (dat_11 e)
    have d12 := HXX.out.d HL3.out 12 _ (dat_12 e)
    have d13 := HXX.out.d HL3.out 13 _ (dat_13 e)
    obtain ⟨g1, hx5, hl5, hn1, hn2⟩ := HXX.out.rebase2 HL3.out (.cells #[.int .i64 e.d3, .int .i64 e.d4, .int .i64 e.d5, .int .i64 e.d6, .int .i64 e.d7, .int .i64 e.d8, .int .i64 e.d9, .int .i64 e.d10, .int .i64 e.d11, .int .i64 e.d12, .int .i64 e.d13] 3)
    have hN : ∀ k, k < 11 → (wc.alloc (.cells #[.int .i64 e.d3, .int .i64 e.d4, .int .i64 e.d5, .int .i64 e.d6, .int .i64 e.d7, .int .i64 e.d8, .int .i64 e.d9, .int .i64 e.d10, .int .i64 e.d11, .int .i64 e.d12, .int .i64 e.d13] 3)).cell? ⟨wc.heap.size, k, none⟩ = some (.int .i64 ((numT e).getD k 0)) := by
      intro k hk
      rw [cell_of_row _ _ k _ 3 (0, 0) (heap_alloc_new wc _)]
      show ((numT e).map (Value.int .i64)).toArray[k]? = _
      have hl : k < (numT e).length := hk
      rw [List.getElem?_toArray, List.getElem?_map, List.getElem?_eq_getElem hl, List.getD_eq_getElem?_getD, List.getElem?_eq_getElem hl]
      rfl
    have hN1 : wc.heap.size < (wc.alloc (.cells #[.int .i64 e.d3, .int .i64 e.d4, .int .i64 e.d5, .int .i64 e.d6, .int .i64 e.d7, .int .i64 e.d8, .int .i64 e.d9, .int .i64 e.d10, .int .i64 e.d11, .int .i64 e.d12, .int .i64 e.d13] 3)).heap.size := by simp
    go_wp2_with fail
    generalize hW5 : World.alloc wc (.cells #[.int .i64 e.d3, .int .i64 e.d4, .int .i64 e.d5, .int .i64 e.d6, .int .i64 e.d7, .int .i64 e.d8, .int .i64 e.d9, .int .i64 e.d10, .int .i64 e.d11, .int .i64 e.d12, .int .i64 e.d13] 3) = W5 at hx5 hl5 hN hN1 ⊢
    have HX5 := Lib.hid hx5
    have HL5 := Lib.hid hl5
    have HN5 := Lib.hid hN
    clear hx5 hl5 hN hW5 d3 d4 d5 d6 d7 d8 d9 d10 d11 d12 d13
    go_loopw [81] (fun i wr => ∃ k : Nat, k ≤ 11 ∧ i = .int .i64 k ∧ LX w W5 o g1 wr (nsT e ([hdB e] ++ ln ⟨#[105, 100]⟩ (nmB e.d0) ++ ln ⟨#[111, 114, 103, 97, 110, 105, 115, 97, 116, 105, 111, 110]⟩ (atW orgW e.d1) ++ ln ⟨#[102, 111, 114, 109, 97, 116]⟩ (atW fmtW e.d2)) k)) (fun i _ => 11 - (intOf i).toNat)
    case atStart => exact ⟨0, Nat.zero_le _, rfl, HL5.out⟩
    case round =>
      obtain ⟨k, hk, rfl, hL⟩ := hrel
      have HLr := Lib.hid hL
      clear hL
      by_cases hlt : k < 11
      · obtain ⟨wd, hwd⟩ : ∃ wd, wd = numW.getD k ⟨#[]⟩ := ⟨_, rfl⟩
        obtain ⟨nv, hnv⟩ : ∃ nv, nv = (numT e).getD k 0 := ⟨_, rfl⟩
        have hz := numT_at HQ.out k
        rw [← hnv] at hz
        have hws : wd.size ≤ 1000 := by rw [hwd]; exact Nat.le_trans (numW_size2 k) (by decide)
        have hlen : (nsT e ([hdB e] ++ ln ⟨#[105, 100]⟩ (nmB e.d0) ++ ln ⟨#[111, 114, 103, 97, 110, 105, 115, 97, 116, 105, 111, 110]⟩ (atW orgW e.d1) ++ ln ⟨#[102, 111, 114, 109, 97, 116]⟩ (atW fmtW e.d2)) k).length ≤ 1000 := by
          have := nsT_len e ([hdB e] ++ ln ⟨#[105, 100]⟩ (nmB e.d0) ++ ln ⟨#[111, 114, 103, 97, 110, 105, 115, 97, 116, 105, 111, 110]⟩ (atW orgW e.d1) ++ ln ⟨#[102, 111, 114, 109, 97, 116]⟩ (atW fmtW e.d2)) k
          have : ([hdB e] ++ ln ⟨#[105, 100]⟩ (nmB e.d0) ++ ln ⟨#[111, 114, 103, 97, 110, 105, 115, 97, 116, 105, 111, 110]⟩ (atW orgW e.d1) ++ ln ⟨#[102, 111, 114, 109, 97, 116]⟩ (atW fmtW e.d2)).length ≤ 4 := LenLe.h
          omega
        have HPK := Lib.hid (hwd ▸ pick_n k hlt)
        have p2 : wr.cell? ⟨wc.heap.size, k, none⟩ = some (.int .i64 nv) := (HLr.out.cell hN1 hn1 hn2).trans ((HN5.out k hlt).trans (by rw [hnv]))
        have HE := Lib.hid (show nsT e ([hdB e] ++ ln ⟨#[105, 100]⟩ (nmB e.d0) ++ ln ⟨#[111, 114, 103, 97, 110, 105, 115, 97, 116, 105, 111, 110]⟩ (atW orgW e.d1) ++ ln ⟨#[102, 111, 114, 109, 97, 116]⟩ (atW fmtW e.d2)) (k + 1) = nsT e ([hdB e] ++ ln ⟨#[105, 100]⟩ (nmB e.d0) ++ ln ⟨#[111, 114, 103, 97, 110, 105, 115, 97, 116, 105, 111, 110]⟩ (atW orgW e.d1) ++ ln ⟨#[102, 111, 114, 109, 97, 116]⟩ (atW fmtW e.d2)) k ++ ln wd (nmB nv) by rw [nsT, hwd, hnv])
        have j1 : (0 : Int) ≤ (k : Int) := by omega
        have j2 : (k : Int) < 11 := by omega
        clear hwd hnv
        go_wp2_with (first
          | (go_at_call 65; (with_reducible refine (HPK.out _ _ _ rfl).mono ?_); rintro _ w5 ⟨rfl, rfl⟩)
          | (go_at_call 67; (refine (tx_num (HLr.out.keep (show Below wr.heap.size wr _ by exact belA)) HX5.out.lf wd nv hT hlen hws hz.1 hz.2).mono ?_); rintro _ w5 ⟨rfl, hL⟩))
        go_roundw
        case rel => exact ⟨k + 1, by omega, by go_num, by rw [HE.out]; exact hL⟩
        case measure => simp [intOf]; omega
      · obtain rfl : k = 11 := by omega
        have HXX := HX5
        have HL := Lib.hid (show LX w W5 o g1 wr (nsT e (txD0 e [hdB e]) 11) from HLr.out)
        clear HLr HX5 HL5 HN5 hn1 hn2 hN1
        have cf := HL.out.fn HXX.out.lf
        have cn0 := HXX.out.d HL.out 14 _ (dat_14 e)
        go_wp2_with (first | (go_at_call 71; (with_reducible refine (tx_yes HL.out HXX.out.lf ⟨#[117, 110, 105, 113, 117, 101]⟩ e.uq LL (by decide)).mono ?_); rintro _ w4 ⟨rfl, hL⟩; have HL := Lib.hid hL; have cf := hL.fn HXX.out.lf; have cn0 := HXX.out.d hL 15 _ (dat_15 e); clear hL) | (go_at_call 67; (with_reducible refine (tx_num HL.out HXX.out.lf ⟨#[99, 108, 97, 115, 115]⟩ e.cls hT LL (by decide) HQ.out.cls.1 (by have := HQ.out.cls; omega)).mono ?_); rintro _ w4 ⟨rfl, hL⟩; have HL := Lib.hid hL; have cf := hL.fn HXX.out.lf; have cn0 := HXX.out.d hL 16 _ (dat_16 e); clear hL) | (go_at_call 66; (with_reducible refine (tx_lineL HL.out ⟨#[118, 111, 108, 117, 109, 101]⟩ e.vol LL (by decide) (by have := HQ.out.vol; omega)).mono ?_); rintro _ w4 ⟨rfl, hL⟩; have HL := Lib.hid hL; have cf := hL.fn HXX.out.lf; have cn0 := HXX.out.d hL 17 _ (dat_17 e); clear hL) | (go_at_call 66; (with_reducible refine (tx_lineL HL.out ⟨#[111, 119, 110, 101, 114]⟩ e.own LL (by decide) (by have := HQ.out.own; omega)).mono ?_); rintro _ w4 ⟨rfl, hL⟩; have HL := Lib.hid hL; have cf := hL.fn HXX.out.lf; have cn0 := HXX.out.d hL 18 _ (dat_18 e); clear hL) | (go_at_call 69; (with_reducible refine (tx_date HL.out HXX.out.lf ⟨#[99, 114, 101, 97, 116, 101, 100]⟩ e.cr hT LL (by decide)).mono ?_); rintro _ w4 ⟨rfl, hL⟩; have HL := Lib.hid hL; have cf := hL.fn HXX.out.lf; have cn0 := HXX.out.d hL 19 _ (dat_19 e); clear hL) | (go_at_call 69; (with_reducible refine (tx_date HL.out HXX.out.lf ⟨#[101, 120, 112, 105, 114, 101, 115]⟩ e.ex hT LL (by decide)).mono ?_); rintro _ w4 ⟨rfl, hL⟩; have HL := Lib.hid hL; have cf := hL.fn HXX.out.lf; have cn0 := HXX.out.d hL 20 _ (dat_20 e); clear hL) | (go_at_call 71; (with_reducible refine (tx_yes HL.out HXX.out.lf ⟨#[97, 114, 99, 104, 105, 118, 101, 100]⟩ e.ar LL (by decide)).mono ?_); rintro _ w4 ⟨rfl, hL⟩; have HL := Lib.hid hL; have cf := hL.fn HXX.out.lf; have ca := HXX.out.e hL 23 _ (vals_23 e _ _); clear hL))
        have hal := HXX.out.e HL.out 23 _ (vals_23 e _ _)
        clear hal ca
        have HL7 := Lib.hid (show LX w W5 o g1 w4 (txD1 e (nsT e (txD0 e [hdB e]) 11)) from HL.out)
        clear HL cf
        obtain ⟨w7, hw7⟩ : ∃ w7, w7 = w4 := ⟨_, rfl⟩
        subst hw7
        have hl4 := HQ.out.l4
        have hzz : (altB l2).size ≤ 1000 := by
          have := altS_size HQ.out (fun n h1 h2 => (itoa_pos n h1 h2).2) l2.length (Nat.le_refl _)
          rw [altS_all] at this
          omega
        go_loopw [12, 124] (fun v i wr => ∃ (k : Nat) (a : Option Addr) (n c : Nat), k ≤ l2.length ∧ i = .int .i64 k ∧ v = .slice a n c ∧ SX w7.heap.size w7 wr (.slice a n c) (altL l2 k) []) (fun _ i _ => l2.length - (intOf i).toNat)
        case atStart => exact ⟨0, none, 0, 0, Nat.zero_le _, rfl, rfl, SX.start (OW.nil _ _) (Below.refl _ _) (Nat.le_refl _)⟩
        case round =>
          obtain ⟨k, a, n, c, hk, rfl, rfl, hS⟩ := hrel
          have HS := Lib.hid hS
          have hle := hS.2.2.2
          have HBW := Lib.hid (HL7.out.b.trans (hS.2.2.1.mono HL7.out.le))
          clear hS
          by_cases hlt : k < l2.length
          · obtain ⟨b, o', rfl, hb, hcell⟩ := HCL.out (by omega)
            have p0 := (HBW.out.cell (p := ⟨b, o' + k, none⟩) hb).trans (hcell k hlt)
            have hn := HQ.out.al l2[k] (List.getElem_mem _)
            have HIT := Lib.hid (fun W (B : Below w.heap.size w W) => itoa l2[k] W (by omega) (by omega) (hT.below B))
            have HAL := Lib.hid (altL_succ l2 k hlt)
            generalize (⟨(Lib.itoa l2[k]).toArray⟩ : ByteArray) = d at HIT HAL
            have hlen : (altL l2 k).length + [d].length ≤ 1000 := by rw [altL_len l2 k hk]; show k + 1 ≤ 1000; omega
            have j1 : (0 : Int) ≤ (k : Int) := by omega
            have j2 : (k : Int) < (l2.length : Int) := by omega
            clear hcell hn
            go_wp2_with (first
              | (go_at_call 68; (with_reducible refine (HIT.out _ HBW.out).mono ?_); rintro _ w8 ⟨rfl, hb8⟩; have HS8 := Lib.hid ((HS.out.below hb8).lit1 d); clear hb8)
              | (at_builtin; refine wp_appT rfl (.tmp 128) (.tmp 131) rfl HS8.out (List.mem_cons_self ..) rfl rfl hlen ?_; intro a2 n2 c2 w9 hS9 _ _))
            go_roundw
            case rel => exact ⟨k + 1, a2, n2, c2, by omega, by go_num, rfl, by rw [HAL.out]; exact hS9.done⟩
            case measure => simp [intOf]; omega
          · obtain rfl : k = l2.length := by omega
            have hjj : (Lib.join ((altL l2 l2.length).map Ds.bl) [32]).length ≤ 1000 := by
              have e := congrArg ByteArray.size (altL_join l2)
              rw [show (⟨(Lib.join ((altL l2 l2.length).map Ds.bl) [32]).toArray⟩ : ByteArray).size = (Lib.join ((altL l2 l2.length).map Ds.bl) [32]).length from List.size_toArray] at e
              omega
            have hj := fun W (B : Below wr.heap.size wr W) => tx_joinsp (altL l2 l2.length) a n c w7.heap.size W (HS.out.1.below B) (by rw [altL_len l2 _ (Nat.le_refl _)]; omega) hjj
            rw [altL_join] at hj
            have HJ := Lib.hid hj
            have HL8 := Lib.hid (HL7.out.keep HS.out.2.2.1)
            have cf := HL8.out.fn HXX.out.lf
            have f1 : f < wr.heap.size := Nat.lt_of_lt_of_le HXX.out.lf.1 HL8.out.sz
            clear hj hjj HS HL7 HBW hle
            go_upto_region 33 with fail
            go_cut [137] (fun v wx => LX w W5 o g1 wx (txD1 e (nsT e (txD0 e [hdB e]) 11) ++ ln ⟨#[97, 108, 116, 101, 114, 110, 97, 116, 101, 115]⟩ (altB l2)))
            case first =>
              refine wp_region_held_drew (S := fun w' => w'.cell? ⟨f, 0, none⟩ = some (.func (.func 66) #[] #[.pointer (some ⟨o, 0, none⟩)])) (by kernel_rfl) ?_ (fun hHeld => ?_)
              · exact cf
              (refine rg_y (i := 0) (some 134) (v := ?_) rfl rfl (by kernel_rfl) (by kernel_rfl) (by kernel_rfl) (fun _ _ _ h => h) (by kernel_rfl) ?_ (by assumption) ?_; rotate_left 1; focus (intro w hSw; (try dsimp only at hSw); (first | (go_simp; done) | (go_simp; with_reducible rfl))); (try simp only [Act.put, List.setIfInBounds_toArray, List.set_cons_zero, List.set_cons_succ]))
              (refine rg_y (i := 1) (some 135) (v := ?_) rfl rfl (by kernel_rfl) (by kernel_rfl) (by kernel_rfl) (fun _ _ _ h => h) (by kernel_rfl) ?_ (by assumption) ?_; rotate_left 1; focus (intro w hSw; (try dsimp only at hSw); (first | (go_simp; done) | (go_simp; with_reducible rfl))); (try simp only [Act.put, List.setIfInBounds_toArray, List.set_cons_zero, List.set_cons_succ]))
              (refine wpAnyH_ready (rs := [2]) (by kernel_rfl) (by simp) ?_; refine AllReadyH.cons (o := _) rfl (fun K hK => ?_) AllReadyH.nil)
              go_simp
              go_at_call 72
              refine (HJ.out _ (show Below wr.heap.size wr _ by first | exact Below.refl _ _ | exact belA)).mono ?_
              rintro _ w9 ⟨rfl, hb9⟩
              have b9 : Below wr.heap.size wr w9 := (Below.refl wr.heap.size wr).drew.trans hb9
              refine hK.out _ _ ((b9.cell (p := ⟨f, 0, none⟩) f1).trans cf) (fun hHeld => ?_)
              (clear hK K; (try simp only [Act.put, List.setIfInBounds_toArray, List.set_cons_zero, List.set_cons_succ]))
              (refine wpAnyH_ready (rs := [3]) (by kernel_rfl) (by simp) ?_; refine AllReadyH.cons (o := _) rfl (fun K hK => ?_) AllReadyH.nil)
              go_simp
              go_at_call 66
              refine (tx_lineL (HL8.out.keep b9) ⟨#[97, 108, 116, 101, 114, 110, 97, 116, 101, 115]⟩ (altB l2) LL (by decide) hzz).mono ?_
              rintro _ w10 ⟨rfl, hL⟩
              refine hK.out _ _ (hL.fn HXX.out.lf) (fun hHeld => ?_)
              (clear hK K; (try simp only [Act.put, List.setIfInBounds_toArray, List.set_cons_zero, List.set_cons_succ]))
              refine wpAnyH_done (by kernel_rfl) ?_ _
              go_wp2_with fail
              go_meet
              exact hL
            have HL9 := Lib.hid hcut
            have cu := HXX.out.e hcut 24 _ (vals_24 e _ _)
            clear hcut cf f1 HL8 HJ
            go_wp2_with (go_at_call 69; (with_reducible refine (tx_date HL9.out HXX.out.lf ⟨#[117, 115, 101, 100]⟩ e.used hT LL (by decide)).mono ?_); rintro _ w10 ⟨rfl, hL⟩; have HL := Lib.hid hL; obtain ⟨og, on, oc, hon, ho, hst⟩ := hL.out; have HST := Lib.hid hst; have HON := Lib.hid hon; clear hon hst hL)
            go_ret
            exact ⟨og, on, oc, by rw [txX_0 _ HKD.out.symm]; exact HON.out, rfl, by rw [txX_0 _ HKD.out.symm]; exact HST.out, HL.out.b⟩
end Go.Proofs.YtdfdjfnfmibpjaaGreatDoor
