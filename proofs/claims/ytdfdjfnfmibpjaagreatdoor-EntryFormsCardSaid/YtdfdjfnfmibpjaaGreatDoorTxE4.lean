/- Contract of package entry: Text at kind 4. -/
import Derived.Test.YtdfdjfnfmibpjaaGreatDoorTxU
namespace Go.Proofs.YtdfdjfnfmibpjaaGreatDoor
open Go.RowKit
set_option maxHeartbeats 64000000
set_option maxRecDepth 8000
set_option linter.unusedSimpArgs false
attribute [local go_sem ↓] ldEnt stEnt ldDat stDat
attribute [local go_sem] isDat_mk isHead_mk headOf_mk cellsOfV_mk isAggV_mk row_new row_new2 row_new2' row_drew row_drewN vals_size vals_dat dat_size dat_one allOne_nil allOne_cons one_int one_bool one_string one_pointer one_slice one_func
theorem tx_k4 (x : Fu) (al gr : Value) (w : World) (hok : okX x = true) (hkd : x.1.kind = 4) (hm : MaxL w) (hT : Tab w) (h1 : IS w al x.2.1) (h2 : GS w gr x.2.2) :
    Calls Tryz.prog 17 #[.agg (x.1.vals al gr)] w fun r w' => ∃ (g n cap : Nat), n = (txX x).length ∧ r = .returned (.slice (some ⟨g, 0, none⟩) n cap) ∧ Strs w' g (txX x) ∧ Below w.heap.size w w' := by
  obtain ⟨e, l2, g2⟩ := x
  dsimp only at h1 h2 hkd ⊢
  have hsz : e.name.size ≤ 60 := Nat.le_trans (kf_name _ hok) (by decide)
  have hv := va_any e al gr l2 g2
  have hv := fun W (b : Below w.heap.size w W) => hv W (hm.below b) (hT.below b) (by omega) (h1.below b) (h2.below b)
  rw [hok] at hv
  have hk := okX_kind _ hok
  dsimp only at hk
  have HV := Lib.hid hv
  have HKD := Lib.hid hkd.symm
  have HOK := Lib.hid hok
  obtain ⟨kw, hkw⟩ : ∃ kw, kw = atW kindsW e.kind := ⟨_, rfl⟩
  have hks : kw.size ≤ 7 := by rw [hkw]; exact atW_size _ _ (by decide) _
  have HP1 := Lib.hid (hkw ▸ pick_A e.kind hk.1 hk.2)
  have HP2 := Lib.hid (hkw ▸ pick_B e.kind hk.1 hk.2)
  have HKW := Lib.hid hkw
  clear hv hk hok hkw hkd
  have l1 : ¬ 9223372036854775807 < kw.size + 1 + e.name.size := by omega
  have l2' : ¬ 9223372036854775807 < kw.size + 1 := by omega
  go_enter Tryz.func17, Tryz.ntmps17
  go_upto_region 4 with (first | (go_at_call 10; (with_reducible refine (HV.out _ (by exact belA)).mono ?_); rintro _ w2 ⟨rfl, hb⟩; have R2 := row_below hb (row_new w _ _ _) (by simp [vals_size]); have B2 := Below.trans (show Below w.heap.size w _ by exact belA) (hb.mono (by simp)); have z2 : w.heap.size < w2.heap.size := (by have := hb.size; simp at this; omega); clear hb))
  have n0 := cell_row R2 0 _ (vals_0 e al gr)
  have n1 := cell_row R2 1 _ (vals_1 e al gr)
  have z3 : w.heap.size < w2.heap.size + 1 := by omega
  have z4 : w.heap.size < w2.heap.size + 1 + 1 := by omega
  have z5 : w.heap.size < w2.heap.size + 1 + 1 + 1 := by omega
  go_cut [4] (fun t4 wx => ∃ o g, t4 = .pointer (some ⟨o, 0, none⟩) ∧ TX wx w.heap.size o g [(kw ++ ⟨#[32]⟩) ++ e.name] ∧ row wx w.heap.size = e.vals al gr ∧ row wx w2.heap.size = e.dat ∧ w.heap.size < wx.heap.size ∧ w2.heap.size < wx.heap.size ∧ w.heap.size ≠ o ∧ w.heap.size ≠ g ∧ w2.heap.size ≠ o ∧ w2.heap.size ≠ g ∧ Below w.heap.size w wx)
  case first =>
    have z2 : w.heap.size < w2.heap.size := z2
    have KS : ∀ {W' : World}, Below w2.heap.size w2 W' → W'.cell? ⟨w.heap.size, 0, none⟩ = some (.int .i64 e.kind) ∧ W'.cell? ⟨w.heap.size, 1, none⟩ = some (.string e.name) ∧ Below w2.heap.size w2 W' := fun h => ⟨(h.cell (p := ⟨w.heap.size, 0, none⟩) z2).trans n0, (h.cell (p := ⟨w.heap.size, 1, none⟩) z2).trans n1, h⟩
    refine wp_region_held_drew (S := fun w' => w'.cell? ⟨w.heap.size, 0, none⟩ = some (.int .i64 e.kind) ∧ w'.cell? ⟨w.heap.size, 1, none⟩ = some (.string e.name) ∧ Below w2.heap.size w2 w') (by kernel_rfl) ?_ (fun hHeld => ?_)
    · exact KS (by exact belA)
    obtain ⟨X, hX⟩ : ∃ X : World, (w2.alloc (.cells e.dat 23)).drew = X := ⟨_, rfl⟩
    rw [hX] at hHeld ⊢
    have bX : Below w2.heap.size w2 X := by rw [← hX]; exact belA
    have rX : row X w2.heap.size = e.dat := by rw [← hX]; exact row_new w2 e.dat 23 (0, 0)
    have sX : X.heap.size = w2.heap.size + 1 := by rw [← hX]; simp
    have fin : ∀ (W : World) (o g : Nat), Below X.heap.size X W → TX W w.heap.size o g [(kw ++ ⟨#[32]⟩) ++ e.name] → w.heap.size < o → w.heap.size < g → w2.heap.size < o → w2.heap.size < g → ∃ o' g', (Value.pointer (some ⟨o, 0, none⟩)) = .pointer (some ⟨o', 0, none⟩) ∧ TX W w.heap.size o' g' [(kw ++ ⟨#[32]⟩) ++ e.name] ∧ row W w.heap.size = e.vals al gr ∧ row W w2.heap.size = e.dat ∧ w.heap.size < W.heap.size ∧ w2.heap.size < W.heap.size ∧ w.heap.size ≠ o' ∧ w.heap.size ≠ g' ∧ w2.heap.size ≠ o' ∧ w2.heap.size ≠ g' ∧ Below w.heap.size w W := fun W o g hb ht h1 h2 h3 h4 => by
      have hs := hb.size
      exact ⟨o, g, rfl, ht, row_below (bX.trans (hb.mono (by omega))) R2 (by simp [vals_size]), row_below hb rX (by rw [dat_size]; decide), by omega, by omega, by omega, by omega, by omega, by omega, B2.trans ((bX.trans (hb.mono (by omega))).mono (by omega))⟩
    have HFIN := Lib.hid fin
    clear fin hX
    (refine rg_y (i := 0) (some 23) (v := ?_) rfl rfl (by kernel_rfl) (by kernel_rfl) (by kernel_rfl) (fun _ _ _ h => h) (by kernel_rfl) ?_ (by assumption) ?_; rotate_left 1; focus (intro w hSw; (try dsimp only at hSw); (first | (go_simp; done) | (go_simp; with_reducible rfl))); (try simp only [Act.put, List.setIfInBounds_toArray, List.set_cons_zero, List.set_cons_succ]))
    (refine rg_y (i := 1) (some 24) (v := ?_) rfl rfl (by kernel_rfl) (by kernel_rfl) (by kernel_rfl) (fun _ _ _ h => h) (by kernel_rfl) ?_ (by assumption) ?_; rotate_left 1; focus (intro w hSw; (try dsimp only at hSw); (first | (go_simp; done) | (go_simp; with_reducible rfl))); (try simp only [Act.put, List.setIfInBounds_toArray, List.set_cons_zero, List.set_cons_succ]))
    (refine rg_y (i := 5) (some 28) (v := ?_) rfl rfl (by kernel_rfl) (by kernel_rfl) (by kernel_rfl) (fun _ _ _ h => h) (by kernel_rfl) ?_ (by assumption) ?_; rotate_left 1; focus (intro w hSw; (try dsimp only at hSw); (first | (go_simp; done) | (go_simp; with_reducible rfl))); (try simp only [Act.put, List.setIfInBounds_toArray, List.set_cons_zero, List.set_cons_succ]))
    (refine rg_y (i := 6) (some 29) (v := ?_) rfl rfl (by kernel_rfl) (by kernel_rfl) (by kernel_rfl) (fun _ _ _ h => h) (by kernel_rfl) ?_ (by assumption) ?_; rotate_left 1; focus (intro w hSw; (try dsimp only at hSw); (first | (go_simp; done) | (go_simp; with_reducible rfl))); (try simp only [Act.put, List.setIfInBounds_toArray, List.set_cons_zero, List.set_cons_succ]))
    refine wpAnyH_ready (rs := [2, 9]) (by kernel_rfl) (by simp) ?_
    refine AllReadyH.cons (o := _) rfl (fun K hK => ?_) (AllReadyH.cons (o := _) rfl (fun K hK => ?_) AllReadyH.nil)
    · go_simp
      have b1 : Below w2.heap.size w2 (X.alloc (.cells #[.string ⟨#[100, 97, 116, 97]⟩, .string ⟨#[103, 114, 111, 117, 112]⟩, .string ⟨#[97, 108, 105, 97, 115]⟩, .string ⟨#[99, 97, 116, 97, 108, 111, 103]⟩, .string ⟨#[112, 114, 111, 102, 105, 108, 101]⟩] 9)) := bX.trans (show Below w2.heap.size X (X.alloc (.cells #[.string ⟨#[100, 97, 116, 97]⟩, .string ⟨#[103, 114, 111, 117, 112]⟩, .string ⟨#[97, 108, 105, 97, 115]⟩, .string ⟨#[99, 97, 116, 97, 108, 111, 103]⟩, .string ⟨#[112, 114, 111, 102, 105, 108, 101]⟩] 9)) by have hzz := sX; exact belA)
      refine hK.out _ _ (KS b1) (fun hHeld => ?_)
      (clear hK K; (try simp only [Act.put, List.setIfInBounds_toArray, List.set_cons_zero, List.set_cons_succ]))
      refine wpAnyH_ready (rs := [3, 9]) (by kernel_rfl) (by simp) ?_
      refine AllReadyH.cons (o := _) rfl (fun K hK => ?_) (AllReadyH.cons (o := _) rfl (fun K hK => ?_) AllReadyH.nil)
      · go_simp
        go_at_call 65
        refine (HP1.out _ _  _ (by first | rfl | omega | (simp; omega))).mono ?_
        rintro _ w3 ⟨rfl, rfl⟩
        refine hK.out _ _ (KS b1) (fun hHeld => ?_)
        (clear hK K; (try simp only [Act.put, List.setIfInBounds_toArray, List.set_cons_zero, List.set_cons_succ]))
        (refine rg_y (i := 4) (some 27) (v := ?_) rfl rfl (by kernel_rfl) (by kernel_rfl) (by kernel_rfl) (fun _ _ _ h => h) (by kernel_rfl) ?_ (by assumption) ?_; rotate_left 1; focus (intro w hSw; (try dsimp only at hSw); (first | (go_simp; done) | (go_simp; with_reducible rfl))); (try simp only [Act.put, List.setIfInBounds_toArray, List.set_cons_zero, List.set_cons_succ]))
        (refine rg_y (i := 7) (some 30) (v := ?_) rfl rfl (by kernel_rfl) (by kernel_rfl) (by kernel_rfl) (fun _ _ _ h => h) (by kernel_rfl) ?_ (by assumption) ?_; rotate_left 1; focus (intro w hSw; (try dsimp only at hSw); (first | (go_simp; done) | (go_simp; with_reducible rfl))); (try simp only [Act.put, List.setIfInBounds_toArray, List.set_cons_zero, List.set_cons_succ]))
        refine wpAnyH_ready (rs := [8, 9]) (by kernel_rfl) (by simp) ?_
        refine AllReadyH.cons (o := _) rfl (fun K hK => ?_) (AllReadyH.cons (o := _) rfl (fun K hK => ?_) AllReadyH.nil)
        · go_simp
          have b2 : Below w2.heap.size w2 ((X.alloc (.cells #[.string ⟨#[100, 97, 116, 97]⟩, .string ⟨#[103, 114, 111, 117, 112]⟩, .string ⟨#[97, 108, 105, 97, 115]⟩, .string ⟨#[99, 97, 116, 97, 108, 111, 103]⟩, .string ⟨#[112, 114, 111, 102, 105, 108, 101]⟩] 9)).alloc (.cells #[.string ((kw ++ ⟨#[32]⟩) ++ e.name)] 9)) := bX.trans (show Below w2.heap.size X ((X.alloc (.cells #[.string ⟨#[100, 97, 116, 97]⟩, .string ⟨#[103, 114, 111, 117, 112]⟩, .string ⟨#[97, 108, 105, 97, 115]⟩, .string ⟨#[99, 97, 116, 97, 108, 111, 103]⟩, .string ⟨#[112, 114, 111, 102, 105, 108, 101]⟩] 9)).alloc (.cells #[.string ((kw ++ ⟨#[32]⟩) ++ e.name)] 9)) by have hzz := sX; exact belA)
          refine hK.out _ _ (KS b2) (fun hHeld => ?_)
          (clear hK K; (try simp only [Act.put, List.setIfInBounds_toArray, List.set_cons_zero, List.set_cons_succ]))
          (refine wpAnyH_ready (rs := [9]) (by kernel_rfl) (by simp) ?_; refine AllReadyH.cons (o := _) rfl (fun K hK => ?_) AllReadyH.nil)
          go_simp
          have b3 : Below w2.heap.size w2 (((X.alloc (.cells #[.string ⟨#[100, 97, 116, 97]⟩, .string ⟨#[103, 114, 111, 117, 112]⟩, .string ⟨#[97, 108, 105, 97, 115]⟩, .string ⟨#[99, 97, 116, 97, 108, 111, 103]⟩, .string ⟨#[112, 114, 111, 102, 105, 108, 101]⟩] 9)).alloc (.cells #[.string ((kw ++ ⟨#[32]⟩) ++ e.name)] 9)).alloc (.cells #[.slice none 0 0] 33)) := bX.trans (show Below w2.heap.size X (((X.alloc (.cells #[.string ⟨#[100, 97, 116, 97]⟩, .string ⟨#[103, 114, 111, 117, 112]⟩, .string ⟨#[97, 108, 105, 97, 115]⟩, .string ⟨#[99, 97, 116, 97, 108, 111, 103]⟩, .string ⟨#[112, 114, 111, 102, 105, 108, 101]⟩] 9)).alloc (.cells #[.string ((kw ++ ⟨#[32]⟩) ++ e.name)] 9)).alloc (.cells #[.slice none 0 0] 33)) by have hzz := sX; exact belA)
          refine hK.out _ _ (KS b3) (fun hHeld => ?_)
          (clear hK K; (try simp only [Act.put, List.setIfInBounds_toArray, List.set_cons_zero, List.set_cons_succ]))
          (refine wpAnyH_ready (rs := [10]) (by kernel_rfl) (by simp) ?_; refine AllReadyH.cons (o := _) rfl (fun K hK => ?_) AllReadyH.nil)
          go_simp
          have ht := TX.a (X.alloc (.cells #[.string ⟨#[100, 97, 116, 97]⟩, .string ⟨#[103, 114, 111, 117, 112]⟩, .string ⟨#[97, 108, 105, 97, 115]⟩, .string ⟨#[99, 97, 116, 97, 108, 111, 103]⟩, .string ⟨#[112, 114, 111, 102, 105, 108, 101]⟩] 9)) w.heap.size ((kw ++ ⟨#[32]⟩) ++ e.name) 33 (by first | omega | (simp; omega))
          rw [show (X.alloc (.cells #[.string ⟨#[100, 97, 116, 97]⟩, .string ⟨#[103, 114, 111, 117, 112]⟩, .string ⟨#[97, 108, 105, 97, 115]⟩, .string ⟨#[99, 97, 116, 97, 108, 111, 103]⟩, .string ⟨#[112, 114, 111, 102, 105, 108, 101]⟩] 9)).heap.size = w2.heap.size + 1 + 1 by first | exact sX | simp [sX]] at ht
          refine hK.out _ _ (KS (bX.trans (show Below w2.heap.size X _ by have hzz := sX; exact belA))) (fun hHeld => ?_)
          (clear hK K; (try simp only [Act.put, List.setIfInBounds_toArray, List.set_cons_zero, List.set_cons_succ]))
          refine wpAnyH_done (by kernel_rfl) ?_ _
          go_wp2_with fail
          go_meet
          exact HFIN.out _ _ _ (show Below X.heap.size X _ by exact belA) ht (by omega) (by omega) (by omega) (by omega)
        · go_simp
          have b2 : Below w2.heap.size w2 ((X.alloc (.cells #[.string ⟨#[100, 97, 116, 97]⟩, .string ⟨#[103, 114, 111, 117, 112]⟩, .string ⟨#[97, 108, 105, 97, 115]⟩, .string ⟨#[99, 97, 116, 97, 108, 111, 103]⟩, .string ⟨#[112, 114, 111, 102, 105, 108, 101]⟩] 9)).alloc (.cells #[.slice none 0 0] 33)) := bX.trans (show Below w2.heap.size X ((X.alloc (.cells #[.string ⟨#[100, 97, 116, 97]⟩, .string ⟨#[103, 114, 111, 117, 112]⟩, .string ⟨#[97, 108, 105, 97, 115]⟩, .string ⟨#[99, 97, 116, 97, 108, 111, 103]⟩, .string ⟨#[112, 114, 111, 102, 105, 108, 101]⟩] 9)).alloc (.cells #[.slice none 0 0] 33)) by have hzz := sX; exact belA)
          refine hK.out _ _ (KS b2) (fun hHeld => ?_)
          (clear hK K; (try simp only [Act.put, List.setIfInBounds_toArray, List.set_cons_zero, List.set_cons_succ]))
          (refine wpAnyH_ready (rs := [8]) (by kernel_rfl) (by simp) ?_; refine AllReadyH.cons (o := _) rfl (fun K hK => ?_) AllReadyH.nil)
          go_simp
          have b3 : Below w2.heap.size w2 (((X.alloc (.cells #[.string ⟨#[100, 97, 116, 97]⟩, .string ⟨#[103, 114, 111, 117, 112]⟩, .string ⟨#[97, 108, 105, 97, 115]⟩, .string ⟨#[99, 97, 116, 97, 108, 111, 103]⟩, .string ⟨#[112, 114, 111, 102, 105, 108, 101]⟩] 9)).alloc (.cells #[.slice none 0 0] 33)).alloc (.cells #[.string ((kw ++ ⟨#[32]⟩) ++ e.name)] 9)) := bX.trans (show Below w2.heap.size X (((X.alloc (.cells #[.string ⟨#[100, 97, 116, 97]⟩, .string ⟨#[103, 114, 111, 117, 112]⟩, .string ⟨#[97, 108, 105, 97, 115]⟩, .string ⟨#[99, 97, 116, 97, 108, 111, 103]⟩, .string ⟨#[112, 114, 111, 102, 105, 108, 101]⟩] 9)).alloc (.cells #[.slice none 0 0] 33)).alloc (.cells #[.string ((kw ++ ⟨#[32]⟩) ++ e.name)] 9)) by have hzz := sX; exact belA)
          refine hK.out _ _ (KS b3) (fun hHeld => ?_)
          (clear hK K; (try simp only [Act.put, List.setIfInBounds_toArray, List.set_cons_zero, List.set_cons_succ]))
          (refine wpAnyH_ready (rs := [10]) (by kernel_rfl) (by simp) ?_; refine AllReadyH.cons (o := _) rfl (fun K hK => ?_) AllReadyH.nil)
          go_simp
          have ht := TX.b (X.alloc (.cells #[.string ⟨#[100, 97, 116, 97]⟩, .string ⟨#[103, 114, 111, 117, 112]⟩, .string ⟨#[97, 108, 105, 97, 115]⟩, .string ⟨#[99, 97, 116, 97, 108, 111, 103]⟩, .string ⟨#[112, 114, 111, 102, 105, 108, 101]⟩] 9)) w.heap.size ((kw ++ ⟨#[32]⟩) ++ e.name) 33 (by first | omega | (simp; omega))
          rw [show (X.alloc (.cells #[.string ⟨#[100, 97, 116, 97]⟩, .string ⟨#[103, 114, 111, 117, 112]⟩, .string ⟨#[97, 108, 105, 97, 115]⟩, .string ⟨#[99, 97, 116, 97, 108, 111, 103]⟩, .string ⟨#[112, 114, 111, 102, 105, 108, 101]⟩] 9)).heap.size = w2.heap.size + 1 + 1 by first | exact sX | simp [sX]] at ht
          refine hK.out _ _ (KS (bX.trans (show Below w2.heap.size X _ by have hzz := sX; exact belA))) (fun hHeld => ?_)
          (clear hK K; (try simp only [Act.put, List.setIfInBounds_toArray, List.set_cons_zero, List.set_cons_succ]))
          refine wpAnyH_done (by kernel_rfl) ?_ _
          go_wp2_with fail
          go_meet
          exact HFIN.out _ _ _ (show Below X.heap.size X _ by exact belA) ht (by omega) (by omega) (by omega) (by omega)
      · go_simp
        have b2 : Below w2.heap.size w2 ((X.alloc (.cells #[.string ⟨#[100, 97, 116, 97]⟩, .string ⟨#[103, 114, 111, 117, 112]⟩, .string ⟨#[97, 108, 105, 97, 115]⟩, .string ⟨#[99, 97, 116, 97, 108, 111, 103]⟩, .string ⟨#[112, 114, 111, 102, 105, 108, 101]⟩] 9)).alloc (.cells #[.slice none 0 0] 33)) := bX.trans (show Below w2.heap.size X ((X.alloc (.cells #[.string ⟨#[100, 97, 116, 97]⟩, .string ⟨#[103, 114, 111, 117, 112]⟩, .string ⟨#[97, 108, 105, 97, 115]⟩, .string ⟨#[99, 97, 116, 97, 108, 111, 103]⟩, .string ⟨#[112, 114, 111, 102, 105, 108, 101]⟩] 9)).alloc (.cells #[.slice none 0 0] 33)) by have hzz := sX; exact belA)
        refine hK.out _ _ (KS b2) (fun hHeld => ?_)
        (clear hK K; (try simp only [Act.put, List.setIfInBounds_toArray, List.set_cons_zero, List.set_cons_succ]))
        (refine wpAnyH_ready (rs := [3]) (by kernel_rfl) (by simp) ?_; refine AllReadyH.cons (o := _) rfl (fun K hK => ?_) AllReadyH.nil)
        go_simp
        go_at_call 65
        refine (HP2.out _ _ _ _ (by first | rfl | omega | (simp; omega))).mono ?_
        rintro _ w3 ⟨rfl, rfl⟩
        refine hK.out _ _ (KS b2) (fun hHeld => ?_)
        (clear hK K; (try simp only [Act.put, List.setIfInBounds_toArray, List.set_cons_zero, List.set_cons_succ]))
        (refine rg_y (i := 4) (some 27) (v := ?_) rfl rfl (by kernel_rfl) (by kernel_rfl) (by kernel_rfl) (fun _ _ _ h => h) (by kernel_rfl) ?_ (by assumption) ?_; rotate_left 1; focus (intro w hSw; (try dsimp only at hSw); (first | (go_simp; done) | (go_simp; with_reducible rfl))); (try simp only [Act.put, List.setIfInBounds_toArray, List.set_cons_zero, List.set_cons_succ]))
        (refine rg_y (i := 7) (some 30) (v := ?_) rfl rfl (by kernel_rfl) (by kernel_rfl) (by kernel_rfl) (fun _ _ _ h => h) (by kernel_rfl) ?_ (by assumption) ?_; rotate_left 1; focus (intro w hSw; (try dsimp only at hSw); (first | (go_simp; done) | (go_simp; with_reducible rfl))); (try simp only [Act.put, List.setIfInBounds_toArray, List.set_cons_zero, List.set_cons_succ]))
        (refine wpAnyH_ready (rs := [8]) (by kernel_rfl) (by simp) ?_; refine AllReadyH.cons (o := _) rfl (fun K hK => ?_) AllReadyH.nil)
        go_simp
        have b3 : Below w2.heap.size w2 (((X.alloc (.cells #[.string ⟨#[100, 97, 116, 97]⟩, .string ⟨#[103, 114, 111, 117, 112]⟩, .string ⟨#[97, 108, 105, 97, 115]⟩, .string ⟨#[99, 97, 116, 97, 108, 111, 103]⟩, .string ⟨#[112, 114, 111, 102, 105, 108, 101]⟩] 9)).alloc (.cells #[.slice none 0 0] 33)).alloc (.cells #[.string ((kw ++ ⟨#[32]⟩) ++ e.name)] 9)) := bX.trans (show Below w2.heap.size X (((X.alloc (.cells #[.string ⟨#[100, 97, 116, 97]⟩, .string ⟨#[103, 114, 111, 117, 112]⟩, .string ⟨#[97, 108, 105, 97, 115]⟩, .string ⟨#[99, 97, 116, 97, 108, 111, 103]⟩, .string ⟨#[112, 114, 111, 102, 105, 108, 101]⟩] 9)).alloc (.cells #[.slice none 0 0] 33)).alloc (.cells #[.string ((kw ++ ⟨#[32]⟩) ++ e.name)] 9)) by have hzz := sX; exact belA)
        refine hK.out _ _ (KS b3) (fun hHeld => ?_)
        (clear hK K; (try simp only [Act.put, List.setIfInBounds_toArray, List.set_cons_zero, List.set_cons_succ]))
        (refine wpAnyH_ready (rs := [10]) (by kernel_rfl) (by simp) ?_; refine AllReadyH.cons (o := _) rfl (fun K hK => ?_) AllReadyH.nil)
        go_simp
        have ht := TX.b (X.alloc (.cells #[.string ⟨#[100, 97, 116, 97]⟩, .string ⟨#[103, 114, 111, 117, 112]⟩, .string ⟨#[97, 108, 105, 97, 115]⟩, .string ⟨#[99, 97, 116, 97, 108, 111, 103]⟩, .string ⟨#[112, 114, 111, 102, 105, 108, 101]⟩] 9)) w.heap.size ((kw ++ ⟨#[32]⟩) ++ e.name) 33 (by first | omega | (simp; omega))
        rw [show (X.alloc (.cells #[.string ⟨#[100, 97, 116, 97]⟩, .string ⟨#[103, 114, 111, 117, 112]⟩, .string ⟨#[97, 108, 105, 97, 115]⟩, .string ⟨#[99, 97, 116, 97, 108, 111, 103]⟩, .string ⟨#[112, 114, 111, 102, 105, 108, 101]⟩] 9)).heap.size = w2.heap.size + 1 + 1 by first | exact sX | simp [sX]] at ht
        refine hK.out _ _ (KS (bX.trans (show Below w2.heap.size X _ by have hzz := sX; exact belA))) (fun hHeld => ?_)
        (clear hK K; (try simp only [Act.put, List.setIfInBounds_toArray, List.set_cons_zero, List.set_cons_succ]))
        refine wpAnyH_done (by kernel_rfl) ?_ _
        go_wp2_with fail
        go_meet
        exact HFIN.out _ _ _ (show Below X.heap.size X _ by exact belA) ht (by omega) (by omega) (by omega) (by omega)
    · go_simp
      have b1 : Below w2.heap.size w2 (X.alloc (.cells #[.slice none 0 0] 33)) := bX.trans (show Below w2.heap.size X (X.alloc (.cells #[.slice none 0 0] 33)) by have hzz := sX; exact belA)
      refine hK.out _ _ (KS b1) (fun hHeld => ?_)
      (clear hK K; (try simp only [Act.put, List.setIfInBounds_toArray, List.set_cons_zero, List.set_cons_succ]))
      (refine wpAnyH_ready (rs := [2]) (by kernel_rfl) (by simp) ?_; refine AllReadyH.cons (o := _) rfl (fun K hK => ?_) AllReadyH.nil)
      go_simp
      have b2 : Below w2.heap.size w2 ((X.alloc (.cells #[.slice none 0 0] 33)).alloc (.cells #[.string ⟨#[100, 97, 116, 97]⟩, .string ⟨#[103, 114, 111, 117, 112]⟩, .string ⟨#[97, 108, 105, 97, 115]⟩, .string ⟨#[99, 97, 116, 97, 108, 111, 103]⟩, .string ⟨#[112, 114, 111, 102, 105, 108, 101]⟩] 9)) := bX.trans (show Below w2.heap.size X ((X.alloc (.cells #[.slice none 0 0] 33)).alloc (.cells #[.string ⟨#[100, 97, 116, 97]⟩, .string ⟨#[103, 114, 111, 117, 112]⟩, .string ⟨#[97, 108, 105, 97, 115]⟩, .string ⟨#[99, 97, 116, 97, 108, 111, 103]⟩, .string ⟨#[112, 114, 111, 102, 105, 108, 101]⟩] 9)) by have hzz := sX; exact belA)
      refine hK.out _ _ (KS b2) (fun hHeld => ?_)
      (clear hK K; (try simp only [Act.put, List.setIfInBounds_toArray, List.set_cons_zero, List.set_cons_succ]))
      (refine wpAnyH_ready (rs := [3]) (by kernel_rfl) (by simp) ?_; refine AllReadyH.cons (o := _) rfl (fun K hK => ?_) AllReadyH.nil)
      go_simp
      go_at_call 65
      refine (HP1.out _ _  _ (by first | rfl | omega | (simp; omega))).mono ?_
      rintro _ w3 ⟨rfl, rfl⟩
      refine hK.out _ _ (KS b2) (fun hHeld => ?_)
      (clear hK K; (try simp only [Act.put, List.setIfInBounds_toArray, List.set_cons_zero, List.set_cons_succ]))
      (refine rg_y (i := 4) (some 27) (v := ?_) rfl rfl (by kernel_rfl) (by kernel_rfl) (by kernel_rfl) (fun _ _ _ h => h) (by kernel_rfl) ?_ (by assumption) ?_; rotate_left 1; focus (intro w hSw; (try dsimp only at hSw); (first | (go_simp; done) | (go_simp; with_reducible rfl))); (try simp only [Act.put, List.setIfInBounds_toArray, List.set_cons_zero, List.set_cons_succ]))
      (refine rg_y (i := 7) (some 30) (v := ?_) rfl rfl (by kernel_rfl) (by kernel_rfl) (by kernel_rfl) (fun _ _ _ h => h) (by kernel_rfl) ?_ (by assumption) ?_; rotate_left 1; focus (intro w hSw; (try dsimp only at hSw); (first | (go_simp; done) | (go_simp; with_reducible rfl))); (try simp only [Act.put, List.setIfInBounds_toArray, List.set_cons_zero, List.set_cons_succ]))
      (refine wpAnyH_ready (rs := [8]) (by kernel_rfl) (by simp) ?_; refine AllReadyH.cons (o := _) rfl (fun K hK => ?_) AllReadyH.nil)
      go_simp
      have b3 : Below w2.heap.size w2 (((X.alloc (.cells #[.slice none 0 0] 33)).alloc (.cells #[.string ⟨#[100, 97, 116, 97]⟩, .string ⟨#[103, 114, 111, 117, 112]⟩, .string ⟨#[97, 108, 105, 97, 115]⟩, .string ⟨#[99, 97, 116, 97, 108, 111, 103]⟩, .string ⟨#[112, 114, 111, 102, 105, 108, 101]⟩] 9)).alloc (.cells #[.string ((kw ++ ⟨#[32]⟩) ++ e.name)] 9)) := bX.trans (show Below w2.heap.size X (((X.alloc (.cells #[.slice none 0 0] 33)).alloc (.cells #[.string ⟨#[100, 97, 116, 97]⟩, .string ⟨#[103, 114, 111, 117, 112]⟩, .string ⟨#[97, 108, 105, 97, 115]⟩, .string ⟨#[99, 97, 116, 97, 108, 111, 103]⟩, .string ⟨#[112, 114, 111, 102, 105, 108, 101]⟩] 9)).alloc (.cells #[.string ((kw ++ ⟨#[32]⟩) ++ e.name)] 9)) by have hzz := sX; exact belA)
      refine hK.out _ _ (KS b3) (fun hHeld => ?_)
      (clear hK K; (try simp only [Act.put, List.setIfInBounds_toArray, List.set_cons_zero, List.set_cons_succ]))
      (refine wpAnyH_ready (rs := [10]) (by kernel_rfl) (by simp) ?_; refine AllReadyH.cons (o := _) rfl (fun K hK => ?_) AllReadyH.nil)
      go_simp
      have ht := TX.c X (.cells #[.string ⟨#[100, 97, 116, 97]⟩, .string ⟨#[103, 114, 111, 117, 112]⟩, .string ⟨#[97, 108, 105, 97, 115]⟩, .string ⟨#[99, 97, 116, 97, 108, 111, 103]⟩, .string ⟨#[112, 114, 111, 102, 105, 108, 101]⟩] 9) w.heap.size ((kw ++ ⟨#[32]⟩) ++ e.name) 33 (by first | omega | (simp; omega))
      rw [show (X).heap.size = w2.heap.size + 1 by first | exact sX | simp [sX]] at ht
      refine hK.out _ _ (KS (bX.trans (show Below w2.heap.size X _ by have hzz := sX; exact belA))) (fun hHeld => ?_)
      (clear hK K; (try simp only [Act.put, List.setIfInBounds_toArray, List.set_cons_zero, List.set_cons_succ]))
      refine wpAnyH_done (by kernel_rfl) ?_ _
      go_wp2_with fail
      go_meet
      exact HFIN.out _ _ _ (show Below X.heap.size X _ by exact belA) ht (by omega) (by omega) (by omega) (by omega)
  case rest =>
    obtain ⟨o, g, rfl, hTX, hrow, hrd, hlt, hlt2, hno, hng, hno2, hng2, hB⟩ := hcut
    have n0 := cell_row hrow 0 _ (vals_0 e al gr)
    have hsz2 := hB.size
    have HH := Lib.hid hTX
    have HR := Lib.hid hrow
    have HRD := Lib.hid hrd
    have HB := Lib.hid hB
    clear hTX hrow hrd hB
    rw [← HKD.out] at n0
    go_upto_region 11 with fail
    obtain ⟨hx, hl⟩ := HX.start HH.out HB.out ⟨hlt, hno, hng⟩ ⟨hlt2, hno2, hng2⟩ HR.out HRD.out 104
    generalize hW0 : World.alloc (World.alloc wc _) _ = W0 at hx hl ⊢
    generalize hf : wc.heap.size = f at hx ⊢
    have HXX := Lib.hid hx
    have HL := Lib.hid hl
    have HHD := Lib.hid (show kw ++ ⟨#[32]⟩ ++ e.name = hdB e by unfold hdB; rw [HKW.out])
    rw [HHD.out] at HL
    clear hx hl hW0 hf HH HR HRD HB n0 hlt hlt2 hsz2
    have hq := kf_4 _ HOK.out HKD.out.symm
    dsimp only at hq
    obtain ⟨ga, gc, rfl, -, hgc⟩ := h2
    have HGC := Lib.hid hgc
    have HQ4 := Lib.hid hq.2.2.2
    have hq1 := hq.1
    have hq2 := hq.2.1
    have hq3 := hq.2.2.1
    clear hgc hq
    obtain ⟨lw, hlw⟩ : ∃ lw, lw = atW levW e.lev := ⟨_, rfl⟩
    have hlws : lw.size ≤ 6 := by rw [hlw]; exact levW_size _
    have HLW := Lib.hid hlw
    have cf := HL.out.fn HXX.out.lf
    have ce := HXX.out.e HL.out 31 _ (vals_31 e _ _)
    have cl := HXX.out.lw HL.out e.lev hq1.1 hq1.2
    rw [← hlw] at cl
    have q3 : e.lev < 4 := by omega
    have q0 := hq1.1
    clear hlw
    go_upto_region 45 with fail
    go_cut [180] (fun v wx => LX w W0 o g wx ([hdB e] ++ ln ⟨#[108, 101, 118, 101, 108]⟩ (atW levW e.lev)))
    case first =>
      refine wp_region_held_drew (S := fun w' => w'.cell? ⟨f, 0, none⟩ = some (.func (.func 66) #[] #[.pointer (some ⟨o, 0, none⟩)]) ∧ w'.cell? ⟨w.heap.size, 31, none⟩ = some (.int .i64 e.lev) ∧ w'.cell? ⟨f + 1, e.lev.toNat, none⟩ = some (.string lw)) (by kernel_rfl) ?_ (fun hHeld => ?_)
      · exact ⟨cf, ce, cl⟩
      (refine rg_y (i := 0) (some 174) (v := ?_) rfl rfl (by kernel_rfl) (by kernel_rfl) (by kernel_rfl) (fun _ _ _ h => h) (by kernel_rfl) ?_ (by assumption) ?_; rotate_left 1; focus (intro w hSw; (try dsimp only at hSw); (first | (go_simp; done) | (go_simp; with_reducible rfl))); (try simp only [Act.put, List.setIfInBounds_toArray, List.set_cons_zero, List.set_cons_succ]))
      (refine rg_y (i := 1) (some 175) (v := ?_) rfl rfl (by kernel_rfl) (by kernel_rfl) (by kernel_rfl) (fun _ _ _ h => h) (by kernel_rfl) ?_ (by assumption) ?_; rotate_left 1; focus (intro w hSw; (try dsimp only at hSw); (first | (go_simp; done) | (go_simp; with_reducible rfl))); (try simp only [Act.put, List.setIfInBounds_toArray, List.set_cons_zero, List.set_cons_succ]))
      (refine rg_y (i := 2) (some 176) (v := ?_) rfl rfl (by kernel_rfl) (by kernel_rfl) (by kernel_rfl) (fun _ _ _ h => h) (by kernel_rfl) ?_ (by assumption) ?_; rotate_left 1; focus (intro w hSw; (try dsimp only at hSw); (first | (go_simp; done) | (go_simp; with_reducible rfl))); (try simp only [Act.put, List.setIfInBounds_toArray, List.set_cons_zero, List.set_cons_succ]))
      (refine rg_y (i := 3) (some 177) (v := ?_) rfl rfl (by kernel_rfl) (by kernel_rfl) (by kernel_rfl) (fun _ _ _ h => h) (by kernel_rfl) ?_ (by assumption) ?_; rotate_left 1; focus (intro w hSw; (try dsimp only at hSw); (first | (go_simp; done) | (go_simp; with_reducible rfl))); (try simp only [Act.put, List.setIfInBounds_toArray, List.set_cons_zero, List.set_cons_succ]))
      (refine rg_y (i := 4) (some 178) (v := ?_) rfl rfl (by kernel_rfl) (by kernel_rfl) (by kernel_rfl) (fun _ _ _ h => h) (by kernel_rfl) ?_ (by assumption) ?_; rotate_left 1; focus (intro w hSw; (try dsimp only at hSw); (first | (go_simp; done) | (go_simp; with_reducible rfl))); (try simp only [Act.put, List.setIfInBounds_toArray, List.set_cons_zero, List.set_cons_succ]))
      (refine rg_y (i := 5) (some 179) (v := ?_) rfl rfl (by kernel_rfl) (by kernel_rfl) (by kernel_rfl) (fun _ _ _ h => h) (by kernel_rfl) ?_ (by assumption) ?_; rotate_left 1; focus (intro w hSw; (try dsimp only at hSw); (first | (go_simp; done) | (go_simp; with_reducible rfl))); (try simp only [Act.put, List.setIfInBounds_toArray, List.set_cons_zero, List.set_cons_succ]))
      (refine wpAnyH_ready (rs := [6]) (by kernel_rfl) (by simp) ?_; refine AllReadyH.cons (o := _) rfl (fun K hK => ?_) AllReadyH.nil)
      go_simp
      go_at_call 66
      refine (tx_lineL (HL.out.keep (show Below W0.heap.size W0 _ by first | exact Below.refl _ _ | exact belA)) ⟨#[108, 101, 118, 101, 108]⟩ lw LL (by decide) (by omega)).mono ?_
      rintro _ w4 ⟨rfl, hL⟩
      refine hK.out _ _ ⟨hL.fn HXX.out.lf, HXX.out.e hL 31 _ (vals_31 e _ _), by rw [HLW.out]; exact HXX.out.lw hL e.lev q0 (by omega)⟩ (fun hHeld => ?_)
      (clear hK K; (try simp only [Act.put, List.setIfInBounds_toArray, List.set_cons_zero, List.set_cons_succ]))
      refine wpAnyH_done (by kernel_rfl) ?_ _
      go_wp2_with fail
      go_meet
      rw [← HLW.out]
      exact hL
    have HL := Lib.hid hcut
    have cf := hcut.fn HXX.out.lf
    have co := HXX.out.e hcut 28 _ (vals_28 e _ _)
    have cg := HXX.out.e hcut 32 _ (vals_32 e _ _)
    clear hcut cl ce q3 q0
    go_wp2_with (go_at_call 66; (with_reducible refine (tx_lineL HL.out ⟨#[111, 119, 110, 101, 114]⟩ e.owner LL (by decide) (by omega)).mono ?_); rintro _ w4 ⟨rfl, hL⟩; have HL2 := Lib.hid hL; have cg2 := HXX.out.e hL 32 _ (vals_32 e _ _); clear hL)
    clear cf co cg cg2
    go_loopw [188] (fun i wr => ∃ k : Nat, k ≤ g2.length ∧ i = .int .i64 k ∧ LX w W0 o g wr (gsT g2 ([hdB e] ++ ln ⟨#[108, 101, 118, 101, 108]⟩ (atW levW e.lev) ++ ln ⟨#[111, 119, 110, 101, 114]⟩ e.owner) k)) (fun i _ => g2.length - (intOf i).toNat)
    case atStart => exact ⟨0, Nat.zero_le _, rfl, HL2.out⟩
    case round =>
      obtain ⟨k, hk, rfl, hL⟩ := hrel
      have HL3 := Lib.hid hL
      clear hL
      by_cases hlt : k < g2.length
      · obtain ⟨b, go_, rfl, hb, hcell⟩ := HGC.out (by omega)
        obtain ⟨q0, q1, q2⟩ := hcell k hlt
        have p0 := (HL3.out.b.cell (p := ⟨b, go_ + k * 3, none⟩) hb).trans q0
        have p1 := (HL3.out.b.cell (p := ⟨b, go_ + k * 3 + 1, none⟩) hb).trans q1
        have p2 := (HL3.out.b.cell (p := ⟨b, go_ + k * 3 + 2, none⟩) hb).trans q2
        clear hcell q0 q1 q2
        have hg := HQ4.out _ (List.getElem_mem hlt)
        have HE := Lib.hid (show gsT g2 ([hdB e] ++ ln ⟨#[108, 101, 118, 101, 108]⟩ (atW levW e.lev) ++ ln ⟨#[111, 119, 110, 101, 114]⟩ e.owner) (k + 1) = gsT g2 ([hdB e] ++ ln ⟨#[108, 101, 118, 101, 108]⟩ (atW levW e.lev) ++ ln ⟨#[111, 119, 110, 101, 114]⟩ e.owner) k ++ ln ⟨#[103, 114, 97, 110, 116]⟩ (grB g2[k]) by rw [gsT, List.getD_eq_getElem?_getD, List.getElem?_eq_getElem hlt]; rfl)
        have hlen : (gsT g2 ([hdB e] ++ ln ⟨#[108, 101, 118, 101, 108]⟩ (atW levW e.lev) ++ ln ⟨#[111, 119, 110, 101, 114]⟩ e.owner) k).length ≤ 1000 := by
          have := gsT_len g2 ([hdB e] ++ ln ⟨#[108, 101, 118, 101, 108]⟩ (atW levW e.lev) ++ ln ⟨#[111, 119, 110, 101, 114]⟩ e.owner) k
          have : ([hdB e] ++ ln ⟨#[108, 101, 118, 101, 108]⟩ (atW levW e.lev) ++ ln ⟨#[111, 119, 110, 101, 114]⟩ e.owner).length ≤ 3 := LenLe.h
          omega
        unfold grB at HE
        obtain ⟨lw, hlw⟩ : ∃ lw, lw = atW levW g2[k].2.2 := ⟨_, rfl⟩
        have cl := HXX.out.lw HL3.out g2[k].2.2 hg.2.1 hg.2.2
        rw [← hlw] at cl HE
        have hlws : lw.size ≤ 6 := by rw [hlw]; exact levW_size _
        have cf := HL3.out.fn HXX.out.lf
        have f1 : f < wr.heap.size := Nat.lt_of_lt_of_le HXX.out.lf.1 HL3.out.sz
        have f2 : f + 1 < wr.heap.size := Nat.lt_of_lt_of_le HXX.out.lL.1 HL3.out.sz
        clear hlw
        generalize hgk : g2[k] = gk at p0 p1 p2 hg cl HE
        obtain ⟨who, grp, lev⟩ := gk
        dsimp only at p0 p1 p2 hg cl HE
        clear hgk
        have j1 : (0 : Int) ≤ (k : Int) := by omega
        have j2 : (k : Int) < (g2.length : Int) := by omega
        have j3 := hg.2.1
        have j4 : lev < 4 := by omega
        have l1 : ¬ 9223372036854775807 < 6 + who.size := by omega
        have l2 : ¬ 9223372036854775807 < 6 + who.size + 1 := by omega
        have l3 : ¬ 9223372036854775807 < 6 + who.size + 1 + lw.size := by omega
        have l4 : ¬ 9223372036854775807 < 5 + who.size := by omega
        have l5 : ¬ 9223372036854775807 < 5 + who.size + 1 := by omega
        have l6 : ¬ 9223372036854775807 < 5 + who.size + 1 + lw.size := by omega
        have hws := hg.1
        clear hg
        cases grp
        · have hvs : ((((⟨#[117, 115, 101, 114, 32]⟩ : ByteArray) ++ who) ++ ⟨#[32]⟩) ++ lw).size ≤ 1000 := by
            rw [ByteArray.size_append, ByteArray.size_append, ByteArray.size_append]
            have : (⟨#[117, 115, 101, 114, 32]⟩ : ByteArray).size = 5 := rfl
            have : (⟨#[32]⟩ : ByteArray).size = 1 := rfl
            omega
          go_upto_region 53 with fail
          refine wp_region_still_tail 12 (by kernel_rfl) (by kernel_rfl) ?_
          simp only [List.take_succ_cons, List.take_zero, List.drop_succ_cons, List.drop_zero]
          change wpStill _ _ (World.alloc wr _).drew (fun a' => wpList _ _ _ _ a' (World.alloc wr _).drew) _ _
          obtain ⟨w3, hw3⟩ : ∃ w3, (wr.alloc (.cells #[.string who, .bool false, .int .i64 lev] 82)).drew = w3 := ⟨_, rfl⟩
          rw [hw3]
          have B2 : Below wr.heap.size wr w3 := by rw [← hw3]; exact belA
          have RW : row w3 wr.heap.size = #[.string who, .bool false, .int .i64 lev] := by rw [← hw3]; exact row_new wr _ 82 (0, 0)
          have m0 := cell_row RW 0 _ rfl
          have m1 := cell_row RW 1 _ rfl
          have m2 := cell_row RW 2 _ rfl
          have m3 := (B2.cell (p := ⟨f, 0, none⟩) f1).trans cf
          have m4 := (B2.cell (p := ⟨f + 1, lev.toNat, none⟩) f2).trans cl
          have HB2 := Lib.hid B2
          clear hw3 RW B2 p0 p1 p2 cf cl
          repeat still_step
          try refine wpStill_nil ?_
          go_wp2_with (go_at_call 66; (with_reducible refine (tx_lineL (HL3.out.keep HB2.out) ⟨#[103, 114, 97, 110, 116]⟩ ((((⟨#[117, 115, 101, 114, 32]⟩ : ByteArray) ++ who) ++ ⟨#[32]⟩) ++ lw) hlen (by decide) hvs).mono ?_); rintro _ w4 ⟨rfl, hL⟩)
          go_roundw
          case rel =>
            exact ⟨k + 1, by omega, by go_num, by rw [HE.out]; exact hL⟩
          case measure => simp [intOf]; omega
        · have hvs : ((((⟨#[103, 114, 111, 117, 112, 32]⟩ : ByteArray) ++ who) ++ ⟨#[32]⟩) ++ lw).size ≤ 1000 := by
            rw [ByteArray.size_append, ByteArray.size_append, ByteArray.size_append]
            have : (⟨#[103, 114, 111, 117, 112, 32]⟩ : ByteArray).size = 6 := rfl
            have : (⟨#[32]⟩ : ByteArray).size = 1 := rfl
            omega
          go_upto_region 53 with fail
          refine wp_region_still_tail 12 (by kernel_rfl) (by kernel_rfl) ?_
          simp only [List.take_succ_cons, List.take_zero, List.drop_succ_cons, List.drop_zero]
          change wpStill _ _ (World.alloc wr _).drew (fun a' => wpList _ _ _ _ a' (World.alloc wr _).drew) _ _
          obtain ⟨w3, hw3⟩ : ∃ w3, (wr.alloc (.cells #[.string who, .bool true, .int .i64 lev] 82)).drew = w3 := ⟨_, rfl⟩
          rw [hw3]
          have B2 : Below wr.heap.size wr w3 := by rw [← hw3]; exact belA
          have RW : row w3 wr.heap.size = #[.string who, .bool true, .int .i64 lev] := by rw [← hw3]; exact row_new wr _ 82 (0, 0)
          have m0 := cell_row RW 0 _ rfl
          have m1 := cell_row RW 1 _ rfl
          have m2 := cell_row RW 2 _ rfl
          have m3 := (B2.cell (p := ⟨f, 0, none⟩) f1).trans cf
          have m4 := (B2.cell (p := ⟨f + 1, lev.toNat, none⟩) f2).trans cl
          have HB2 := Lib.hid B2
          clear hw3 RW B2 p0 p1 p2 cf cl
          repeat still_step
          try refine wpStill_nil ?_
          go_wp2_with (go_at_call 66; (with_reducible refine (tx_lineL (HL3.out.keep HB2.out) ⟨#[103, 114, 97, 110, 116]⟩ ((((⟨#[103, 114, 111, 117, 112, 32]⟩ : ByteArray) ++ who) ++ ⟨#[32]⟩) ++ lw) hlen (by decide) hvs).mono ?_); rintro _ w4 ⟨rfl, hL⟩)
          go_roundw
          case rel =>
            exact ⟨k + 1, by omega, by go_num, by rw [HE.out]; exact hL⟩
          case measure => simp [intOf]; omega
      · obtain rfl : k = g2.length := by omega
        obtain ⟨og, on, oc, hon, ho, hst⟩ := HL3.out.out
        have HST := Lib.hid hst
        have HON := Lib.hid hon
        clear hon hst
        go_wp2_with fail
        go_ret
        exact ⟨og, on, oc, by rw [txX_4 _ HKD.out.symm]; exact HON.out, rfl, by rw [txX_4 _ HKD.out.symm]; exact HST.out, HL3.out.b⟩
end Go.Proofs.YtdfdjfnfmibpjaaGreatDoor
