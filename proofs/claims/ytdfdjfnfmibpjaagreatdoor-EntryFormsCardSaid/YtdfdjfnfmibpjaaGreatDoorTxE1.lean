/- Contract of package entry: Text at kinds 1 to 3. -/
import Derived.Test.YtdfdjfnfmibpjaaGreatDoorTxU
namespace Go.Proofs.YtdfdjfnfmibpjaaGreatDoor
open Go.RowKit
set_option maxHeartbeats 64000000
set_option maxRecDepth 8000
set_option linter.unusedSimpArgs false
attribute [local go_sem ↓] ldEnt stEnt ldDat stDat
attribute [local go_sem] isDat_mk isHead_mk headOf_mk cellsOfV_mk isAggV_mk row_new row_new2 row_new2' row_drew row_drewN vals_size vals_dat dat_size dat_one allOne_nil allOne_cons one_int one_bool one_string one_pointer one_slice one_func
theorem tx_k1 (x : Fu) (al gr : Value) (w : World) (hok : okX x = true) (hkd : x.1.kind = 1) (hm : MaxL w) (hT : Tab w) (h1 : IS w al x.2.1) (h2 : GS w gr x.2.2) :
    Calls Tryz.prog 17 #[.agg (x.1.vals al gr)] w fun r w' => ∃ (g n cap : Nat), n = (txX x).length ∧ r = .returned (.slice (some ⟨g, 0, none⟩) n cap) ∧ Strs w' g (txX x) ∧ Below w.heap.size w w' := by
  obtain ⟨e, l2, g2⟩ := x
  dsimp only at h1 h2 hkd ⊢
  have hsz : e.name.size ≤ 60 := Nat.le_trans (kf_name _ hok) (by decide)
  have hv := va_any e al gr l2 g2
  have hv := fun W (b : Below w.heap.size w W) => hv W (hm.below b) (hT.below b) (by omega) (h1.below b) (h2.below b)
  rw [hok] at hv
  have hk := okX_kind _ hok
  dsimp only at hk
  have HV := Lib.hid hv
  have HKD := Lib.hid hkd.symm
  have HOK := Lib.hid hok
  obtain ⟨kw, hkw⟩ : ∃ kw, kw = atW kindsW e.kind := ⟨_, rfl⟩
  have hks : kw.size ≤ 7 := by rw [hkw]; exact atW_size _ _ (by decide) _
  have HP1 := Lib.hid (hkw ▸ pick_A e.kind hk.1 hk.2)
  have HP2 := Lib.hid (hkw ▸ pick_B e.kind hk.1 hk.2)
  have HKW := Lib.hid hkw
  clear hv hk hok hkw hkd
  have l1 : ¬ 9223372036854775807 < kw.size + 1 + e.name.size := by omega
  have l2' : ¬ 9223372036854775807 < kw.size + 1 := by omega
  go_enter Tryz.func17, Tryz.ntmps17
  go_upto_region 4 with (first | (go_at_call 10; (with_reducible refine (HV.out _ (by exact belA)).mono ?_); rintro _ w2 ⟨rfl, hb⟩; have R2 := row_below hb (row_new w _ _ _) (by simp [vals_size]); have B2 := Below.trans (show Below w.heap.size w _ by exact belA) (hb.mono (by simp)); have z2 : w.heap.size < w2.heap.size := (by have := hb.size; simp at this; omega); clear hb))
  have n0 := cell_row R2 0 _ (vals_0 e al gr)
  have n1 := cell_row R2 1 _ (vals_1 e al gr)
  have z3 : w.heap.size < w2.heap.size + 1 := by omega
  have z4 : w.heap.size < w2.heap.size + 1 + 1 := by omega
  have z5 : w.heap.size < w2.heap.size + 1 + 1 + 1 := by omega
  go_cut [4] (fun t4 wx => ∃ o g, t4 = .pointer (some ⟨o, 0, none⟩) ∧ TX wx w.heap.size o g [(kw ++ ⟨#[32]⟩) ++ e.name] ∧ row wx w.heap.size = e.vals al gr ∧ row wx w2.heap.size = e.dat ∧ w.heap.size < wx.heap.size ∧ w2.heap.size < wx.heap.size ∧ w.heap.size ≠ o ∧ w.heap.size ≠ g ∧ w2.heap.size ≠ o ∧ w2.heap.size ≠ g ∧ Below w.heap.size w wx)
  case first =>
    have z2 : w.heap.size < w2.heap.size := z2
    have KS : ∀ {W' : World}, Below w2.heap.size w2 W' → W'.cell? ⟨w.heap.size, 0, none⟩ = some (.int .i64 e.kind) ∧ W'.cell? ⟨w.heap.size, 1, none⟩ = some (.string e.name) ∧ Below w2.heap.size w2 W' := fun h => ⟨(h.cell (p := ⟨w.heap.size, 0, none⟩) z2).trans n0, (h.cell (p := ⟨w.heap.size, 1, none⟩) z2).trans n1, h⟩
    refine wp_region_held_drew (S := fun w' => w'.cell? ⟨w.heap.size, 0, none⟩ = some (.int .i64 e.kind) ∧ w'.cell? ⟨w.heap.size, 1, none⟩ = some (.string e.name) ∧ Below w2.heap.size w2 w') (by kernel_rfl) ?_ (fun hHeld => ?_)
    · exact KS (by exact belA)
    obtain ⟨X, hX⟩ : ∃ X : World, (w2.alloc (.cells e.dat 23)).drew = X := ⟨_, rfl⟩
    rw [hX] at hHeld ⊢
    have bX : Below w2.heap.size w2 X := by rw [← hX]; exact belA
    have rX : row X w2.heap.size = e.dat := by rw [← hX]; exact row_new w2 e.dat 23 (0, 0)
    have sX : X.heap.size = w2.heap.size + 1 := by rw [← hX]; simp
    have fin : ∀ (W : World) (o g : Nat), Below X.heap.size X W → TX W w.heap.size o g [(kw ++ ⟨#[32]⟩) ++ e.name] → w.heap.size < o → w.heap.size < g → w2.heap.size < o → w2.heap.size < g → ∃ o' g', (Value.pointer (some ⟨o, 0, none⟩)) = .pointer (some ⟨o', 0, none⟩) ∧ TX W w.heap.size o' g' [(kw ++ ⟨#[32]⟩) ++ e.name] ∧ row W w.heap.size = e.vals al gr ∧ row W w2.heap.size = e.dat ∧ w.heap.size < W.heap.size ∧ w2.heap.size < W.heap.size ∧ w.heap.size ≠ o' ∧ w.heap.size ≠ g' ∧ w2.heap.size ≠ o' ∧ w2.heap.size ≠ g' ∧ Below w.heap.size w W := fun W o g hb ht h1 h2 h3 h4 => by
      have hs := hb.size
      exact ⟨o, g, rfl, ht, row_below (bX.trans (hb.mono (by omega))) R2 (by simp [vals_size]), row_below hb rX (by rw [dat_size]; decide), by omega, by omega, by omega, by omega, by omega, by omega, B2.trans ((bX.trans (hb.mono (by omega))).mono (by omega))⟩
    have HFIN := Lib.hid fin
    clear fin hX
    (refine rg_y (i := 0) (some 23) (v := ?_) rfl rfl (by kernel_rfl) (by kernel_rfl) (by kernel_rfl) (fun _ _ _ h => h) (by kernel_rfl) ?_ (by assumption) ?_; rotate_left 1; focus (intro w hSw; (try dsimp only at hSw); (first | (go_simp; done) | (go_simp; with_reducible rfl))); (try simp only [Act.put, List.setIfInBounds_toArray, List.set_cons_zero, List.set_cons_succ]))
    (refine rg_y (i := 1) (some 24) (v := ?_) rfl rfl (by kernel_rfl) (by kernel_rfl) (by kernel_rfl) (fun _ _ _ h => h) (by kernel_rfl) ?_ (by assumption) ?_; rotate_left 1; focus (intro w hSw; (try dsimp only at hSw); (first | (go_simp; done) | (go_simp; with_reducible rfl))); (try simp only [Act.put, List.setIfInBounds_toArray, List.set_cons_zero, List.set_cons_succ]))
    (refine rg_y (i := 5) (some 28) (v := ?_) rfl rfl (by kernel_rfl) (by kernel_rfl) (by kernel_rfl) (fun _ _ _ h => h) (by kernel_rfl) ?_ (by assumption) ?_; rotate_left 1; focus (intro w hSw; (try dsimp only at hSw); (first | (go_simp; done) | (go_simp; with_reducible rfl))); (try simp only [Act.put, List.setIfInBounds_toArray, List.set_cons_zero, List.set_cons_succ]))
    (refine rg_y (i := 6) (some 29) (v := ?_) rfl rfl (by kernel_rfl) (by kernel_rfl) (by kernel_rfl) (fun _ _ _ h => h) (by kernel_rfl) ?_ (by assumption) ?_; rotate_left 1; focus (intro w hSw; (try dsimp only at hSw); (first | (go_simp; done) | (go_simp; with_reducible rfl))); (try simp only [Act.put, List.setIfInBounds_toArray, List.set_cons_zero, List.set_cons_succ]))
    refine wpAnyH_ready (rs := [2, 9]) (by kernel_rfl) (by simp) ?_
    refine AllReadyH.cons (o := _) rfl (fun K hK => ?_) (AllReadyH.cons (o := _) rfl (fun K hK => ?_) AllReadyH.nil)
    · go_simp
      have b1 : Below w2.heap.size w2 (X.alloc (.cells #[.string ⟨#[100, 97, 116, 97]⟩, .string ⟨#[103, 114, 111, 117, 112]⟩, .string ⟨#[97, 108, 105, 97, 115]⟩, .string ⟨#[99, 97, 116, 97, 108, 111, 103]⟩, .string ⟨#[112, 114, 111, 102, 105, 108, 101]⟩] 9)) := bX.trans (show Below w2.heap.size X (X.alloc (.cells #[.string ⟨#[100, 97, 116, 97]⟩, .string ⟨#[103, 114, 111, 117, 112]⟩, .string ⟨#[97, 108, 105, 97, 115]⟩, .string ⟨#[99, 97, 116, 97, 108, 111, 103]⟩, .string ⟨#[112, 114, 111, 102, 105, 108, 101]⟩] 9)) by have hzz := sX; exact belA)
      refine hK.out _ _ (KS b1) (fun hHeld => ?_)
      (clear hK K; (try simp only [Act.put, List.setIfInBounds_toArray, List.set_cons_zero, List.set_cons_succ]))
      refine wpAnyH_ready (rs := [3, 9]) (by kernel_rfl) (by simp) ?_
      refine AllReadyH.cons (o := _) rfl (fun K hK => ?_) (AllReadyH.cons (o := _) rfl (fun K hK => ?_) AllReadyH.nil)
      · go_simp
        go_at_call 65
        refine (HP1.out _ _  _ (by first | rfl | omega | (simp; omega))).mono ?_
        rintro _ w3 ⟨rfl, rfl⟩
        refine hK.out _ _ (KS b1) (fun hHeld => ?_)
        (clear hK K; (try simp only [Act.put, List.setIfInBounds_toArray, List.set_cons_zero, List.set_cons_succ]))
        (refine rg_y (i := 4) (some 27) (v := ?_) rfl rfl (by kernel_rfl) (by kernel_rfl) (by kernel_rfl) (fun _ _ _ h => h) (by kernel_rfl) ?_ (by assumption) ?_; rotate_left 1; focus (intro w hSw; (try dsimp only at hSw); (first | (go_simp; done) | (go_simp; with_reducible rfl))); (try simp only [Act.put, List.setIfInBounds_toArray, List.set_cons_zero, List.set_cons_succ]))
        (refine rg_y (i := 7) (some 30) (v := ?_) rfl rfl (by kernel_rfl) (by kernel_rfl) (by kernel_rfl) (fun _ _ _ h => h) (by kernel_rfl) ?_ (by assumption) ?_; rotate_left 1; focus (intro w hSw; (try dsimp only at hSw); (first | (go_simp; done) | (go_simp; with_reducible rfl))); (try simp only [Act.put, List.setIfInBounds_toArray, List.set_cons_zero, List.set_cons_succ]))
        refine wpAnyH_ready (rs := [8, 9]) (by kernel_rfl) (by simp) ?_
        refine AllReadyH.cons (o := _) rfl (fun K hK => ?_) (AllReadyH.cons (o := _) rfl (fun K hK => ?_) AllReadyH.nil)
        · go_simp
          have b2 : Below w2.heap.size w2 ((X.alloc (.cells #[.string ⟨#[100, 97, 116, 97]⟩, .string ⟨#[103, 114, 111, 117, 112]⟩, .string ⟨#[97, 108, 105, 97, 115]⟩, .string ⟨#[99, 97, 116, 97, 108, 111, 103]⟩, .string ⟨#[112, 114, 111, 102, 105, 108, 101]⟩] 9)).alloc (.cells #[.string ((kw ++ ⟨#[32]⟩) ++ e.name)] 9)) := bX.trans (show Below w2.heap.size X ((X.alloc (.cells #[.string ⟨#[100, 97, 116, 97]⟩, .string ⟨#[103, 114, 111, 117, 112]⟩, .string ⟨#[97, 108, 105, 97, 115]⟩, .string ⟨#[99, 97, 116, 97, 108, 111, 103]⟩, .string ⟨#[112, 114, 111, 102, 105, 108, 101]⟩] 9)).alloc (.cells #[.string ((kw ++ ⟨#[32]⟩) ++ e.name)] 9)) by have hzz := sX; exact belA)
          refine hK.out _ _ (KS b2) (fun hHeld => ?_)
          (clear hK K; (try simp only [Act.put, List.setIfInBounds_toArray, List.set_cons_zero, List.set_cons_succ]))
          (refine wpAnyH_ready (rs := [9]) (by kernel_rfl) (by simp) ?_; refine AllReadyH.cons (o := _) rfl (fun K hK => ?_) AllReadyH.nil)
          go_simp
          have b3 : Below w2.heap.size w2 (((X.alloc (.cells #[.string ⟨#[100, 97, 116, 97]⟩, .string ⟨#[103, 114, 111, 117, 112]⟩, .string ⟨#[97, 108, 105, 97, 115]⟩, .string ⟨#[99, 97, 116, 97, 108, 111, 103]⟩, .string ⟨#[112, 114, 111, 102, 105, 108, 101]⟩] 9)).alloc (.cells #[.string ((kw ++ ⟨#[32]⟩) ++ e.name)] 9)).alloc (.cells #[.slice none 0 0] 33)) := bX.trans (show Below w2.heap.size X (((X.alloc (.cells #[.string ⟨#[100, 97, 116, 97]⟩, .string ⟨#[103, 114, 111, 117, 112]⟩, .string ⟨#[97, 108, 105, 97, 115]⟩, .string ⟨#[99, 97, 116, 97, 108, 111, 103]⟩, .string ⟨#[112, 114, 111, 102, 105, 108, 101]⟩] 9)).alloc (.cells #[.string ((kw ++ ⟨#[32]⟩) ++ e.name)] 9)).alloc (.cells #[.slice none 0 0] 33)) by have hzz := sX; exact belA)
          refine hK.out _ _ (KS b3) (fun hHeld => ?_)
          (clear hK K; (try simp only [Act.put, List.setIfInBounds_toArray, List.set_cons_zero, List.set_cons_succ]))
          (refine wpAnyH_ready (rs := [10]) (by kernel_rfl) (by simp) ?_; refine AllReadyH.cons (o := _) rfl (fun K hK => ?_) AllReadyH.nil)
          go_simp
          have ht := TX.a (X.alloc (.cells #[.string ⟨#[100, 97, 116, 97]⟩, .string ⟨#[103, 114, 111, 117, 112]⟩, .string ⟨#[97, 108, 105, 97, 115]⟩, .string ⟨#[99, 97, 116, 97, 108, 111, 103]⟩, .string ⟨#[112, 114, 111, 102, 105, 108, 101]⟩] 9)) w.heap.size ((kw ++ ⟨#[32]⟩) ++ e.name) 33 (by first | omega | (simp; omega))
          rw [show (X.alloc (.cells #[.string ⟨#[100, 97, 116, 97]⟩, .string ⟨#[103, 114, 111, 117, 112]⟩, .string ⟨#[97, 108, 105, 97, 115]⟩, .string ⟨#[99, 97, 116, 97, 108, 111, 103]⟩, .string ⟨#[112, 114, 111, 102, 105, 108, 101]⟩] 9)).heap.size = w2.heap.size + 1 + 1 by first | exact sX | simp [sX]] at ht
          refine hK.out _ _ (KS (bX.trans (show Below w2.heap.size X _ by have hzz := sX; exact belA))) (fun hHeld => ?_)
          (clear hK K; (try simp only [Act.put, List.setIfInBounds_toArray, List.set_cons_zero, List.set_cons_succ]))
          refine wpAnyH_done (by kernel_rfl) ?_ _
          go_wp2_with fail
          go_meet
          exact HFIN.out _ _ _ (show Below X.heap.size X _ by exact belA) ht (by omega) (by omega) (by omega) (by omega)
        · go_simp
          have b2 : Below w2.heap.size w2 ((X.alloc (.cells #[.string ⟨#[100, 97, 116, 97]⟩, .string ⟨#[103, 114, 111, 117, 112]⟩, .string ⟨#[97, 108, 105, 97, 115]⟩, .string ⟨#[99, 97, 116, 97, 108, 111, 103]⟩, .string ⟨#[112, 114, 111, 102, 105, 108, 101]⟩] 9)).alloc (.cells #[.slice none 0 0] 33)) := bX.trans (show Below w2.heap.size X ((X.alloc (.cells #[.string ⟨#[100, 97, 116, 97]⟩, .string ⟨#[103, 114, 111, 117, 112]⟩, .string ⟨#[97, 108, 105, 97, 115]⟩, .string ⟨#[99, 97, 116, 97, 108, 111, 103]⟩, .string ⟨#[112, 114, 111, 102, 105, 108, 101]⟩] 9)).alloc (.cells #[.slice none 0 0] 33)) by have hzz := sX; exact belA)
          refine hK.out _ _ (KS b2) (fun hHeld => ?_)
          (clear hK K; (try simp only [Act.put, List.setIfInBounds_toArray, List.set_cons_zero, List.set_cons_succ]))
          (refine wpAnyH_ready (rs := [8]) (by kernel_rfl) (by simp) ?_; refine AllReadyH.cons (o := _) rfl (fun K hK => ?_) AllReadyH.nil)
          go_simp
          have b3 : Below w2.heap.size w2 (((X.alloc (.cells #[.string ⟨#[100, 97, 116, 97]⟩, .string ⟨#[103, 114, 111, 117, 112]⟩, .string ⟨#[97, 108, 105, 97, 115]⟩, .string ⟨#[99, 97, 116, 97, 108, 111, 103]⟩, .string ⟨#[112, 114, 111, 102, 105, 108, 101]⟩] 9)).alloc (.cells #[.slice none 0 0] 33)).alloc (.cells #[.string ((kw ++ ⟨#[32]⟩) ++ e.name)] 9)) := bX.trans (show Below w2.heap.size X (((X.alloc (.cells #[.string ⟨#[100, 97, 116, 97]⟩, .string ⟨#[103, 114, 111, 117, 112]⟩, .string ⟨#[97, 108, 105, 97, 115]⟩, .string ⟨#[99, 97, 116, 97, 108, 111, 103]⟩, .string ⟨#[112, 114, 111, 102, 105, 108, 101]⟩] 9)).alloc (.cells #[.slice none 0 0] 33)).alloc (.cells #[.string ((kw ++ ⟨#[32]⟩) ++ e.name)] 9)) by have hzz := sX; exact belA)
          refine hK.out _ _ (KS b3) (fun hHeld => ?_)
          (clear hK K; (try simp only [Act.put, List.setIfInBounds_toArray, List.set_cons_zero, List.set_cons_succ]))
          (refine wpAnyH_ready (rs := [10]) (by kernel_rfl) (by simp) ?_; refine AllReadyH.cons (o := _) rfl (fun K hK => ?_) AllReadyH.nil)
          go_simp
          have ht := TX.b (X.alloc (.cells #[.string ⟨#[100, 97, 116, 97]⟩, .string ⟨#[103, 114, 111, 117, 112]⟩, .string ⟨#[97, 108, 105, 97, 115]⟩, .string ⟨#[99, 97, 116, 97, 108, 111, 103]⟩, .string ⟨#[112, 114, 111, 102, 105, 108, 101]⟩] 9)) w.heap.size ((kw ++ ⟨#[32]⟩) ++ e.name) 33 (by first | omega | (simp; omega))
          rw [show (X.alloc (.cells #[.string ⟨#[100, 97, 116, 97]⟩, .string ⟨#[103, 114, 111, 117, 112]⟩, .string ⟨#[97, 108, 105, 97, 115]⟩, .string ⟨#[99, 97, 116, 97, 108, 111, 103]⟩, .string ⟨#[112, 114, 111, 102, 105, 108, 101]⟩] 9)).heap.size = w2.heap.size + 1 + 1 by first | exact sX | simp [sX]] at ht
          refine hK.out _ _ (KS (bX.trans (show Below w2.heap.size X _ by have hzz := sX; exact belA))) (fun hHeld => ?_)
          (clear hK K; (try simp only [Act.put, List.setIfInBounds_toArray, List.set_cons_zero, List.set_cons_succ]))
          refine wpAnyH_done (by kernel_rfl) ?_ _
          go_wp2_with fail
          go_meet
          exact HFIN.out _ _ _ (show Below X.heap.size X _ by exact belA) ht (by omega) (by omega) (by omega) (by omega)
      · go_simp
        have b2 : Below w2.heap.size w2 ((X.alloc (.cells #[.string ⟨#[100, 97, 116, 97]⟩, .string ⟨#[103, 114, 111, 117, 112]⟩, .string ⟨#[97, 108, 105, 97, 115]⟩, .string ⟨#[99, 97, 116, 97, 108, 111, 103]⟩, .string ⟨#[112, 114, 111, 102, 105, 108, 101]⟩] 9)).alloc (.cells #[.slice none 0 0] 33)) := bX.trans (show Below w2.heap.size X ((X.alloc (.cells #[.string ⟨#[100, 97, 116, 97]⟩, .string ⟨#[103, 114, 111, 117, 112]⟩, .string ⟨#[97, 108, 105, 97, 115]⟩, .string ⟨#[99, 97, 116, 97, 108, 111, 103]⟩, .string ⟨#[112, 114, 111, 102, 105, 108, 101]⟩] 9)).alloc (.cells #[.slice none 0 0] 33)) by have hzz := sX; exact belA)
        refine hK.out _ _ (KS b2) (fun hHeld => ?_)
        (clear hK K; (try simp only [Act.put, List.setIfInBounds_toArray, List.set_cons_zero, List.set_cons_succ]))
        (refine wpAnyH_ready (rs := [3]) (by kernel_rfl) (by simp) ?_; refine AllReadyH.cons (o := _) rfl (fun K hK => ?_) AllReadyH.nil)
        go_simp
        go_at_call 65
        refine (HP2.out _ _ _ _ (by first | rfl | omega | (simp; omega))).mono ?_
        rintro _ w3 ⟨rfl, rfl⟩
        refine hK.out _ _ (KS b2) (fun hHeld => ?_)
        (clear hK K; (try simp only [Act.put, List.setIfInBounds_toArray, List.set_cons_zero, List.set_cons_succ]))
        (refine rg_y (i := 4) (some 27) (v := ?_) rfl rfl (by kernel_rfl) (by kernel_rfl) (by kernel_rfl) (fun _ _ _ h => h) (by kernel_rfl) ?_ (by assumption) ?_; rotate_left 1; focus (intro w hSw; (try dsimp only at hSw); (first | (go_simp; done) | (go_simp; with_reducible rfl))); (try simp only [Act.put, List.setIfInBounds_toArray, List.set_cons_zero, List.set_cons_succ]))
        (refine rg_y (i := 7) (some 30) (v := ?_) rfl rfl (by kernel_rfl) (by kernel_rfl) (by kernel_rfl) (fun _ _ _ h => h) (by kernel_rfl) ?_ (by assumption) ?_; rotate_left 1; focus (intro w hSw; (try dsimp only at hSw); (first | (go_simp; done) | (go_simp; with_reducible rfl))); (try simp only [Act.put, List.setIfInBounds_toArray, List.set_cons_zero, List.set_cons_succ]))
        (refine wpAnyH_ready (rs := [8]) (by kernel_rfl) (by simp) ?_; refine AllReadyH.cons (o := _) rfl (fun K hK => ?_) AllReadyH.nil)
        go_simp
        have b3 : Below w2.heap.size w2 (((X.alloc (.cells #[.string ⟨#[100, 97, 116, 97]⟩, .string ⟨#[103, 114, 111, 117, 112]⟩, .string ⟨#[97, 108, 105, 97, 115]⟩, .string ⟨#[99, 97, 116, 97, 108, 111, 103]⟩, .string ⟨#[112, 114, 111, 102, 105, 108, 101]⟩] 9)).alloc (.cells #[.slice none 0 0] 33)).alloc (.cells #[.string ((kw ++ ⟨#[32]⟩) ++ e.name)] 9)) := bX.trans (show Below w2.heap.size X (((X.alloc (.cells #[.string ⟨#[100, 97, 116, 97]⟩, .string ⟨#[103, 114, 111, 117, 112]⟩, .string ⟨#[97, 108, 105, 97, 115]⟩, .string ⟨#[99, 97, 116, 97, 108, 111, 103]⟩, .string ⟨#[112, 114, 111, 102, 105, 108, 101]⟩] 9)).alloc (.cells #[.slice none 0 0] 33)).alloc (.cells #[.string ((kw ++ ⟨#[32]⟩) ++ e.name)] 9)) by have hzz := sX; exact belA)
        refine hK.out _ _ (KS b3) (fun hHeld => ?_)
        (clear hK K; (try simp only [Act.put, List.setIfInBounds_toArray, List.set_cons_zero, List.set_cons_succ]))
        (refine wpAnyH_ready (rs := [10]) (by kernel_rfl) (by simp) ?_; refine AllReadyH.cons (o := _) rfl (fun K hK => ?_) AllReadyH.nil)
        go_simp
        have ht := TX.b (X.alloc (.cells #[.string ⟨#[100, 97, 116, 97]⟩, .string ⟨#[103, 114, 111, 117, 112]⟩, .string ⟨#[97, 108, 105, 97, 115]⟩, .string ⟨#[99, 97, 116, 97, 108, 111, 103]⟩, .string ⟨#[112, 114, 111, 102, 105, 108, 101]⟩] 9)) w.heap.size ((kw ++ ⟨#[32]⟩) ++ e.name) 33 (by first | omega | (simp; omega))
        rw [show (X.alloc (.cells #[.string ⟨#[100, 97, 116, 97]⟩, .string ⟨#[103, 114, 111, 117, 112]⟩, .string ⟨#[97, 108, 105, 97, 115]⟩, .string ⟨#[99, 97, 116, 97, 108, 111, 103]⟩, .string ⟨#[112, 114, 111, 102, 105, 108, 101]⟩] 9)).heap.size = w2.heap.size + 1 + 1 by first | exact sX | simp [sX]] at ht
        refine hK.out _ _ (KS (bX.trans (show Below w2.heap.size X _ by have hzz := sX; exact belA))) (fun hHeld => ?_)
        (clear hK K; (try simp only [Act.put, List.setIfInBounds_toArray, List.set_cons_zero, List.set_cons_succ]))
        refine wpAnyH_done (by kernel_rfl) ?_ _
        go_wp2_with fail
        go_meet
        exact HFIN.out _ _ _ (show Below X.heap.size X _ by exact belA) ht (by omega) (by omega) (by omega) (by omega)
    · go_simp
      have b1 : Below w2.heap.size w2 (X.alloc (.cells #[.slice none 0 0] 33)) := bX.trans (show Below w2.heap.size X (X.alloc (.cells #[.slice none 0 0] 33)) by have hzz := sX; exact belA)
      refine hK.out _ _ (KS b1) (fun hHeld => ?_)
      (clear hK K; (try simp only [Act.put, List.setIfInBounds_toArray, List.set_cons_zero, List.set_cons_succ]))
      (refine wpAnyH_ready (rs := [2]) (by kernel_rfl) (by simp) ?_; refine AllReadyH.cons (o := _) rfl (fun K hK => ?_) AllReadyH.nil)
      go_simp
      have b2 : Below w2.heap.size w2 ((X.alloc (.cells #[.slice none 0 0] 33)).alloc (.cells #[.string ⟨#[100, 97, 116, 97]⟩, .string ⟨#[103, 114, 111, 117, 112]⟩, .string ⟨#[97, 108, 105, 97, 115]⟩, .string ⟨#[99, 97, 116, 97, 108, 111, 103]⟩, .string ⟨#[112, 114, 111, 102, 105, 108, 101]⟩] 9)) := bX.trans (show Below w2.heap.size X ((X.alloc (.cells #[.slice none 0 0] 33)).alloc (.cells #[.string ⟨#[100, 97, 116, 97]⟩, .string ⟨#[103, 114, 111, 117, 112]⟩, .string ⟨#[97, 108, 105, 97, 115]⟩, .string ⟨#[99, 97, 116, 97, 108, 111, 103]⟩, .string ⟨#[112, 114, 111, 102, 105, 108, 101]⟩] 9)) by have hzz := sX; exact belA)
      refine hK.out _ _ (KS b2) (fun hHeld => ?_)
      (clear hK K; (try simp only [Act.put, List.setIfInBounds_toArray, List.set_cons_zero, List.set_cons_succ]))
      (refine wpAnyH_ready (rs := [3]) (by kernel_rfl) (by simp) ?_; refine AllReadyH.cons (o := _) rfl (fun K hK => ?_) AllReadyH.nil)
      go_simp
      go_at_call 65
      refine (HP1.out _ _  _ (by first | rfl | omega | (simp; omega))).mono ?_
      rintro _ w3 ⟨rfl, rfl⟩
      refine hK.out _ _ (KS b2) (fun hHeld => ?_)
      (clear hK K; (try simp only [Act.put, List.setIfInBounds_toArray, List.set_cons_zero, List.set_cons_succ]))
      (refine rg_y (i := 4) (some 27) (v := ?_) rfl rfl (by kernel_rfl) (by kernel_rfl) (by kernel_rfl) (fun _ _ _ h => h) (by kernel_rfl) ?_ (by assumption) ?_; rotate_left 1; focus (intro w hSw; (try dsimp only at hSw); (first | (go_simp; done) | (go_simp; with_reducible rfl))); (try simp only [Act.put, List.setIfInBounds_toArray, List.set_cons_zero, List.set_cons_succ]))
      (refine rg_y (i := 7) (some 30) (v := ?_) rfl rfl (by kernel_rfl) (by kernel_rfl) (by kernel_rfl) (fun _ _ _ h => h) (by kernel_rfl) ?_ (by assumption) ?_; rotate_left 1; focus (intro w hSw; (try dsimp only at hSw); (first | (go_simp; done) | (go_simp; with_reducible rfl))); (try simp only [Act.put, List.setIfInBounds_toArray, List.set_cons_zero, List.set_cons_succ]))
      (refine wpAnyH_ready (rs := [8]) (by kernel_rfl) (by simp) ?_; refine AllReadyH.cons (o := _) rfl (fun K hK => ?_) AllReadyH.nil)
      go_simp
      have b3 : Below w2.heap.size w2 (((X.alloc (.cells #[.slice none 0 0] 33)).alloc (.cells #[.string ⟨#[100, 97, 116, 97]⟩, .string ⟨#[103, 114, 111, 117, 112]⟩, .string ⟨#[97, 108, 105, 97, 115]⟩, .string ⟨#[99, 97, 116, 97, 108, 111, 103]⟩, .string ⟨#[112, 114, 111, 102, 105, 108, 101]⟩] 9)).alloc (.cells #[.string ((kw ++ ⟨#[32]⟩) ++ e.name)] 9)) := bX.trans (show Below w2.heap.size X (((X.alloc (.cells #[.slice none 0 0] 33)).alloc (.cells #[.string ⟨#[100, 97, 116, 97]⟩, .string ⟨#[103, 114, 111, 117, 112]⟩, .string ⟨#[97, 108, 105, 97, 115]⟩, .string ⟨#[99, 97, 116, 97, 108, 111, 103]⟩, .string ⟨#[112, 114, 111, 102, 105, 108, 101]⟩] 9)).alloc (.cells #[.string ((kw ++ ⟨#[32]⟩) ++ e.name)] 9)) by have hzz := sX; exact belA)
      refine hK.out _ _ (KS b3) (fun hHeld => ?_)
      (clear hK K; (try simp only [Act.put, List.setIfInBounds_toArray, List.set_cons_zero, List.set_cons_succ]))
      (refine wpAnyH_ready (rs := [10]) (by kernel_rfl) (by simp) ?_; refine AllReadyH.cons (o := _) rfl (fun K hK => ?_) AllReadyH.nil)
      go_simp
      have ht := TX.c X (.cells #[.string ⟨#[100, 97, 116, 97]⟩, .string ⟨#[103, 114, 111, 117, 112]⟩, .string ⟨#[97, 108, 105, 97, 115]⟩, .string ⟨#[99, 97, 116, 97, 108, 111, 103]⟩, .string ⟨#[112, 114, 111, 102, 105, 108, 101]⟩] 9) w.heap.size ((kw ++ ⟨#[32]⟩) ++ e.name) 33 (by first | omega | (simp; omega))
      rw [show (X).heap.size = w2.heap.size + 1 by first | exact sX | simp [sX]] at ht
      refine hK.out _ _ (KS (bX.trans (show Below w2.heap.size X _ by have hzz := sX; exact belA))) (fun hHeld => ?_)
      (clear hK K; (try simp only [Act.put, List.setIfInBounds_toArray, List.set_cons_zero, List.set_cons_succ]))
      refine wpAnyH_done (by kernel_rfl) ?_ _
      go_wp2_with fail
      go_meet
      exact HFIN.out _ _ _ (show Below X.heap.size X _ by exact belA) ht (by omega) (by omega) (by omega) (by omega)
  case rest =>
    obtain ⟨o, g, rfl, hTX, hrow, hrd, hlt, hlt2, hno, hng, hno2, hng2, hB⟩ := hcut
    have n0 := cell_row hrow 0 _ (vals_0 e al gr)
    have hsz2 := hB.size
    have HH := Lib.hid hTX
    have HR := Lib.hid hrow
    have HRD := Lib.hid hrd
    have HB := Lib.hid hB
    clear hTX hrow hrd hB
    rw [← HKD.out] at n0
    go_upto_region 11 with fail
    obtain ⟨hx, hl⟩ := HX.start HH.out HB.out ⟨hlt, hno, hng⟩ ⟨hlt2, hno2, hng2⟩ HR.out HRD.out 104
    generalize hW0 : World.alloc (World.alloc wc _) _ = W0 at hx hl ⊢
    generalize hf : wc.heap.size = f at hx ⊢
    have HXX := Lib.hid hx
    have HL := Lib.hid hl
    have HHD := Lib.hid (show kw ++ ⟨#[32]⟩ ++ e.name = hdB e by unfold hdB; rw [HKW.out])
    rw [HHD.out] at HL
    clear hx hl hW0 hf HH HR HRD HB n0 hlt hlt2 hsz2
    have hq := kf_1 _ HOK.out HKD.out.symm
    dsimp only at hq
    have cf := HL.out.fn HXX.out.lf
    have cn0 := HXX.out.e HL.out 25 _ (vals_25 e _ _)
    go_wp2_with (first | (go_at_call 67; (with_reducible refine (tx_num HL.out HXX.out.lf ⟨#[108, 105, 109, 105, 116]⟩ e.lim hT LL (by decide) hq.1.1 hq.1.2).mono ?_); rintro _ w4 ⟨rfl, hL⟩; have HL := Lib.hid hL; have cf := hL.fn HXX.out.lf; have cn0 := HXX.out.e hL 26 _ (vals_26 e _ _); clear hL) | (go_at_call 67; (with_reducible refine (tx_num HL.out HXX.out.lf ⟨#[108, 97, 115, 116]⟩ e.last hT LL (by decide) hq.2.1.1 hq.2.1.2).mono ?_); rintro _ w4 ⟨rfl, hL⟩; have HL := Lib.hid hL; have cf := hL.fn HXX.out.lf; have cn0 := HXX.out.e hL 27 _ (vals_27 e _ _); clear hL) | (go_at_call 71; (with_reducible refine (tx_yes HL.out HXX.out.lf ⟨#[101, 109, 112, 116, 121]⟩ e.em LL (by decide)).mono ?_); rintro _ w4 ⟨rfl, hL⟩; have HL := Lib.hid hL; have cf := hL.fn HXX.out.lf; have cn0 := HXX.out.e hL 28 _ (vals_28 e _ _); clear hL) | (go_at_call 66; (with_reducible refine (tx_lineL HL.out ⟨#[111, 119, 110, 101, 114]⟩ e.owner LL (by decide) (by omega)).mono ?_); rintro _ w4 ⟨rfl, hL⟩; have HL := Lib.hid hL; have cf := hL.fn HXX.out.lf; obtain ⟨og, on, oc, hon, ho, hst⟩ := hL.out; have HST := Lib.hid hst; have HON := Lib.hid hon; clear hon hst hL))
    go_ret
    exact ⟨og, on, oc, by rw [txX_1 _ HKD.out.symm]; exact HON.out, rfl, by rw [txX_1 _ HKD.out.symm]; exact HST.out, HL.out.b⟩
theorem tx_k2 (x : Fu) (al gr : Value) (w : World) (hok : okX x = true) (hkd : x.1.kind = 2) (hm : MaxL w) (hT : Tab w) (h1 : IS w al x.2.1) (h2 : GS w gr x.2.2) :
    Calls Tryz.prog 17 #[.agg (x.1.vals al gr)] w fun r w' => ∃ (g n cap : Nat), n = (txX x).length ∧ r = .returned (.slice (some ⟨g, 0, none⟩) n cap) ∧ Strs w' g (txX x) ∧ Below w.heap.size w w' := by
  obtain ⟨e, l2, g2⟩ := x
  dsimp only at h1 h2 hkd ⊢
  have hsz : e.name.size ≤ 60 := Nat.le_trans (kf_name _ hok) (by decide)
  have hv := va_any e al gr l2 g2
  have hv := fun W (b : Below w.heap.size w W) => hv W (hm.below b) (hT.below b) (by omega) (h1.below b) (h2.below b)
  rw [hok] at hv
  have hk := okX_kind _ hok
  dsimp only at hk
  have HV := Lib.hid hv
  have HKD := Lib.hid hkd.symm
  have HOK := Lib.hid hok
  obtain ⟨kw, hkw⟩ : ∃ kw, kw = atW kindsW e.kind := ⟨_, rfl⟩
  have hks : kw.size ≤ 7 := by rw [hkw]; exact atW_size _ _ (by decide) _
  have HP1 := Lib.hid (hkw ▸ pick_A e.kind hk.1 hk.2)
  have HP2 := Lib.hid (hkw ▸ pick_B e.kind hk.1 hk.2)
  have HKW := Lib.hid hkw
  clear hv hk hok hkw hkd
  have l1 : ¬ 9223372036854775807 < kw.size + 1 + e.name.size := by omega
  have l2' : ¬ 9223372036854775807 < kw.size + 1 := by omega
  go_enter Tryz.func17, Tryz.ntmps17
  go_upto_region 4 with (first | (go_at_call 10; (with_reducible refine (HV.out _ (by exact belA)).mono ?_); rintro _ w2 ⟨rfl, hb⟩; have R2 := row_below hb (row_new w _ _ _) (by simp [vals_size]); have B2 := Below.trans (show Below w.heap.size w _ by exact belA) (hb.mono (by simp)); have z2 : w.heap.size < w2.heap.size := (by have := hb.size; simp at this; omega); clear hb))
  have n0 := cell_row R2 0 _ (vals_0 e al gr)
  have n1 := cell_row R2 1 _ (vals_1 e al gr)
  have z3 : w.heap.size < w2.heap.size + 1 := by omega
  have z4 : w.heap.size < w2.heap.size + 1 + 1 := by omega
  have z5 : w.heap.size < w2.heap.size + 1 + 1 + 1 := by omega
  go_cut [4] (fun t4 wx => ∃ o g, t4 = .pointer (some ⟨o, 0, none⟩) ∧ TX wx w.heap.size o g [(kw ++ ⟨#[32]⟩) ++ e.name] ∧ row wx w.heap.size = e.vals al gr ∧ row wx w2.heap.size = e.dat ∧ w.heap.size < wx.heap.size ∧ w2.heap.size < wx.heap.size ∧ w.heap.size ≠ o ∧ w.heap.size ≠ g ∧ w2.heap.size ≠ o ∧ w2.heap.size ≠ g ∧ Below w.heap.size w wx)
  case first =>
    have z2 : w.heap.size < w2.heap.size := z2
    have KS : ∀ {W' : World}, Below w2.heap.size w2 W' → W'.cell? ⟨w.heap.size, 0, none⟩ = some (.int .i64 e.kind) ∧ W'.cell? ⟨w.heap.size, 1, none⟩ = some (.string e.name) ∧ Below w2.heap.size w2 W' := fun h => ⟨(h.cell (p := ⟨w.heap.size, 0, none⟩) z2).trans n0, (h.cell (p := ⟨w.heap.size, 1, none⟩) z2).trans n1, h⟩
    refine wp_region_held_drew (S := fun w' => w'.cell? ⟨w.heap.size, 0, none⟩ = some (.int .i64 e.kind) ∧ w'.cell? ⟨w.heap.size, 1, none⟩ = some (.string e.name) ∧ Below w2.heap.size w2 w') (by kernel_rfl) ?_ (fun hHeld => ?_)
    · exact KS (by exact belA)
    obtain ⟨X, hX⟩ : ∃ X : World, (w2.alloc (.cells e.dat 23)).drew = X := ⟨_, rfl⟩
    rw [hX] at hHeld ⊢
    have bX : Below w2.heap.size w2 X := by rw [← hX]; exact belA
    have rX : row X w2.heap.size = e.dat := by rw [← hX]; exact row_new w2 e.dat 23 (0, 0)
    have sX : X.heap.size = w2.heap.size + 1 := by rw [← hX]; simp
    have fin : ∀ (W : World) (o g : Nat), Below X.heap.size X W → TX W w.heap.size o g [(kw ++ ⟨#[32]⟩) ++ e.name] → w.heap.size < o → w.heap.size < g → w2.heap.size < o → w2.heap.size < g → ∃ o' g', (Value.pointer (some ⟨o, 0, none⟩)) = .pointer (some ⟨o', 0, none⟩) ∧ TX W w.heap.size o' g' [(kw ++ ⟨#[32]⟩) ++ e.name] ∧ row W w.heap.size = e.vals al gr ∧ row W w2.heap.size = e.dat ∧ w.heap.size < W.heap.size ∧ w2.heap.size < W.heap.size ∧ w.heap.size ≠ o' ∧ w.heap.size ≠ g' ∧ w2.heap.size ≠ o' ∧ w2.heap.size ≠ g' ∧ Below w.heap.size w W := fun W o g hb ht h1 h2 h3 h4 => by
      have hs := hb.size
      exact ⟨o, g, rfl, ht, row_below (bX.trans (hb.mono (by omega))) R2 (by simp [vals_size]), row_below hb rX (by rw [dat_size]; decide), by omega, by omega, by omega, by omega, by omega, by omega, B2.trans ((bX.trans (hb.mono (by omega))).mono (by omega))⟩
    have HFIN := Lib.hid fin
    clear fin hX
    (refine rg_y (i := 0) (some 23) (v := ?_) rfl rfl (by kernel_rfl) (by kernel_rfl) (by kernel_rfl) (fun _ _ _ h => h) (by kernel_rfl) ?_ (by assumption) ?_; rotate_left 1; focus (intro w hSw; (try dsimp only at hSw); (first | (go_simp; done) | (go_simp; with_reducible rfl))); (try simp only [Act.put, List.setIfInBounds_toArray, List.set_cons_zero, List.set_cons_succ]))
    (refine rg_y (i := 1) (some 24) (v := ?_) rfl rfl (by kernel_rfl) (by kernel_rfl) (by kernel_rfl) (fun _ _ _ h => h) (by kernel_rfl) ?_ (by assumption) ?_; rotate_left 1; focus (intro w hSw; (try dsimp only at hSw); (first | (go_simp; done) | (go_simp; with_reducible rfl))); (try simp only [Act.put, List.setIfInBounds_toArray, List.set_cons_zero, List.set_cons_succ]))
    (refine rg_y (i := 5) (some 28) (v := ?_) rfl rfl (by kernel_rfl) (by kernel_rfl) (by kernel_rfl) (fun _ _ _ h => h) (by kernel_rfl) ?_ (by assumption) ?_; rotate_left 1; focus (intro w hSw; (try dsimp only at hSw); (first | (go_simp; done) | (go_simp; with_reducible rfl))); (try simp only [Act.put, List.setIfInBounds_toArray, List.set_cons_zero, List.set_cons_succ]))
    (refine rg_y (i := 6) (some 29) (v := ?_) rfl rfl (by kernel_rfl) (by kernel_rfl) (by kernel_rfl) (fun _ _ _ h => h) (by kernel_rfl) ?_ (by assumption) ?_; rotate_left 1; focus (intro w hSw; (try dsimp only at hSw); (first | (go_simp; done) | (go_simp; with_reducible rfl))); (try simp only [Act.put, List.setIfInBounds_toArray, List.set_cons_zero, List.set_cons_succ]))
    refine wpAnyH_ready (rs := [2, 9]) (by kernel_rfl) (by simp) ?_
    refine AllReadyH.cons (o := _) rfl (fun K hK => ?_) (AllReadyH.cons (o := _) rfl (fun K hK => ?_) AllReadyH.nil)
    · go_simp
      have b1 : Below w2.heap.size w2 (X.alloc (.cells #[.string ⟨#[100, 97, 116, 97]⟩, .string ⟨#[103, 114, 111, 117, 112]⟩, .string ⟨#[97, 108, 105, 97, 115]⟩, .string ⟨#[99, 97, 116, 97, 108, 111, 103]⟩, .string ⟨#[112, 114, 111, 102, 105, 108, 101]⟩] 9)) := bX.trans (show Below w2.heap.size X (X.alloc (.cells #[.string ⟨#[100, 97, 116, 97]⟩, .string ⟨#[103, 114, 111, 117, 112]⟩, .string ⟨#[97, 108, 105, 97, 115]⟩, .string ⟨#[99, 97, 116, 97, 108, 111, 103]⟩, .string ⟨#[112, 114, 111, 102, 105, 108, 101]⟩] 9)) by have hzz := sX; exact belA)
      refine hK.out _ _ (KS b1) (fun hHeld => ?_)
      (clear hK K; (try simp only [Act.put, List.setIfInBounds_toArray, List.set_cons_zero, List.set_cons_succ]))
      refine wpAnyH_ready (rs := [3, 9]) (by kernel_rfl) (by simp) ?_
      refine AllReadyH.cons (o := _) rfl (fun K hK => ?_) (AllReadyH.cons (o := _) rfl (fun K hK => ?_) AllReadyH.nil)
      · go_simp
        go_at_call 65
        refine (HP1.out _ _  _ (by first | rfl | omega | (simp; omega))).mono ?_
        rintro _ w3 ⟨rfl, rfl⟩
        refine hK.out _ _ (KS b1) (fun hHeld => ?_)
        (clear hK K; (try simp only [Act.put, List.setIfInBounds_toArray, List.set_cons_zero, List.set_cons_succ]))
        (refine rg_y (i := 4) (some 27) (v := ?_) rfl rfl (by kernel_rfl) (by kernel_rfl) (by kernel_rfl) (fun _ _ _ h => h) (by kernel_rfl) ?_ (by assumption) ?_; rotate_left 1; focus (intro w hSw; (try dsimp only at hSw); (first | (go_simp; done) | (go_simp; with_reducible rfl))); (try simp only [Act.put, List.setIfInBounds_toArray, List.set_cons_zero, List.set_cons_succ]))
        (refine rg_y (i := 7) (some 30) (v := ?_) rfl rfl (by kernel_rfl) (by kernel_rfl) (by kernel_rfl) (fun _ _ _ h => h) (by kernel_rfl) ?_ (by assumption) ?_; rotate_left 1; focus (intro w hSw; (try dsimp only at hSw); (first | (go_simp; done) | (go_simp; with_reducible rfl))); (try simp only [Act.put, List.setIfInBounds_toArray, List.set_cons_zero, List.set_cons_succ]))
        refine wpAnyH_ready (rs := [8, 9]) (by kernel_rfl) (by simp) ?_
        refine AllReadyH.cons (o := _) rfl (fun K hK => ?_) (AllReadyH.cons (o := _) rfl (fun K hK => ?_) AllReadyH.nil)
        · go_simp
          have b2 : Below w2.heap.size w2 ((X.alloc (.cells #[.string ⟨#[100, 97, 116, 97]⟩, .string ⟨#[103, 114, 111, 117, 112]⟩, .string ⟨#[97, 108, 105, 97, 115]⟩, .string ⟨#[99, 97, 116, 97, 108, 111, 103]⟩, .string ⟨#[112, 114, 111, 102, 105, 108, 101]⟩] 9)).alloc (.cells #[.string ((kw ++ ⟨#[32]⟩) ++ e.name)] 9)) := bX.trans (show Below w2.heap.size X ((X.alloc (.cells #[.string ⟨#[100, 97, 116, 97]⟩, .string ⟨#[103, 114, 111, 117, 112]⟩, .string ⟨#[97, 108, 105, 97, 115]⟩, .string ⟨#[99, 97, 116, 97, 108, 111, 103]⟩, .string ⟨#[112, 114, 111, 102, 105, 108, 101]⟩] 9)).alloc (.cells #[.string ((kw ++ ⟨#[32]⟩) ++ e.name)] 9)) by have hzz := sX; exact belA)
          refine hK.out _ _ (KS b2) (fun hHeld => ?_)
          (clear hK K; (try simp only [Act.put, List.setIfInBounds_toArray, List.set_cons_zero, List.set_cons_succ]))
          (refine wpAnyH_ready (rs := [9]) (by kernel_rfl) (by simp) ?_; refine AllReadyH.cons (o := _) rfl (fun K hK => ?_) AllReadyH.nil)
          go_simp
          have b3 : Below w2.heap.size w2 (((X.alloc (.cells #[.string ⟨#[100, 97, 116, 97]⟩, .string ⟨#[103, 114, 111, 117, 112]⟩, .string ⟨#[97, 108, 105, 97, 115]⟩, .string ⟨#[99, 97, 116, 97, 108, 111, 103]⟩, .string ⟨#[112, 114, 111, 102, 105, 108, 101]⟩] 9)).alloc (.cells #[.string ((kw ++ ⟨#[32]⟩) ++ e.name)] 9)).alloc (.cells #[.slice none 0 0] 33)) := bX.trans (show Below w2.heap.size X (((X.alloc (.cells #[.string ⟨#[100, 97, 116, 97]⟩, .string ⟨#[103, 114, 111, 117, 112]⟩, .string ⟨#[97, 108, 105, 97, 115]⟩, .string ⟨#[99, 97, 116, 97, 108, 111, 103]⟩, .string ⟨#[112, 114, 111, 102, 105, 108, 101]⟩] 9)).alloc (.cells #[.string ((kw ++ ⟨#[32]⟩) ++ e.name)] 9)).alloc (.cells #[.slice none 0 0] 33)) by have hzz := sX; exact belA)
          refine hK.out _ _ (KS b3) (fun hHeld => ?_)
          (clear hK K; (try simp only [Act.put, List.setIfInBounds_toArray, List.set_cons_zero, List.set_cons_succ]))
          (refine wpAnyH_ready (rs := [10]) (by kernel_rfl) (by simp) ?_; refine AllReadyH.cons (o := _) rfl (fun K hK => ?_) AllReadyH.nil)
          go_simp
          have ht := TX.a (X.alloc (.cells #[.string ⟨#[100, 97, 116, 97]⟩, .string ⟨#[103, 114, 111, 117, 112]⟩, .string ⟨#[97, 108, 105, 97, 115]⟩, .string ⟨#[99, 97, 116, 97, 108, 111, 103]⟩, .string ⟨#[112, 114, 111, 102, 105, 108, 101]⟩] 9)) w.heap.size ((kw ++ ⟨#[32]⟩) ++ e.name) 33 (by first | omega | (simp; omega))
          rw [show (X.alloc (.cells #[.string ⟨#[100, 97, 116, 97]⟩, .string ⟨#[103, 114, 111, 117, 112]⟩, .string ⟨#[97, 108, 105, 97, 115]⟩, .string ⟨#[99, 97, 116, 97, 108, 111, 103]⟩, .string ⟨#[112, 114, 111, 102, 105, 108, 101]⟩] 9)).heap.size = w2.heap.size + 1 + 1 by first | exact sX | simp [sX]] at ht
          refine hK.out _ _ (KS (bX.trans (show Below w2.heap.size X _ by have hzz := sX; exact belA))) (fun hHeld => ?_)
          (clear hK K; (try simp only [Act.put, List.setIfInBounds_toArray, List.set_cons_zero, List.set_cons_succ]))
          refine wpAnyH_done (by kernel_rfl) ?_ _
          go_wp2_with fail
          go_meet
          exact HFIN.out _ _ _ (show Below X.heap.size X _ by exact belA) ht (by omega) (by omega) (by omega) (by omega)
        · go_simp
          have b2 : Below w2.heap.size w2 ((X.alloc (.cells #[.string ⟨#[100, 97, 116, 97]⟩, .string ⟨#[103, 114, 111, 117, 112]⟩, .string ⟨#[97, 108, 105, 97, 115]⟩, .string ⟨#[99, 97, 116, 97, 108, 111, 103]⟩, .string ⟨#[112, 114, 111, 102, 105, 108, 101]⟩] 9)).alloc (.cells #[.slice none 0 0] 33)) := bX.trans (show Below w2.heap.size X ((X.alloc (.cells #[.string ⟨#[100, 97, 116, 97]⟩, .string ⟨#[103, 114, 111, 117, 112]⟩, .string ⟨#[97, 108, 105, 97, 115]⟩, .string ⟨#[99, 97, 116, 97, 108, 111, 103]⟩, .string ⟨#[112, 114, 111, 102, 105, 108, 101]⟩] 9)).alloc (.cells #[.slice none 0 0] 33)) by have hzz := sX; exact belA)
          refine hK.out _ _ (KS b2) (fun hHeld => ?_)
          (clear hK K; (try simp only [Act.put, List.setIfInBounds_toArray, List.set_cons_zero, List.set_cons_succ]))
          (refine wpAnyH_ready (rs := [8]) (by kernel_rfl) (by simp) ?_; refine AllReadyH.cons (o := _) rfl (fun K hK => ?_) AllReadyH.nil)
          go_simp
          have b3 : Below w2.heap.size w2 (((X.alloc (.cells #[.string ⟨#[100, 97, 116, 97]⟩, .string ⟨#[103, 114, 111, 117, 112]⟩, .string ⟨#[97, 108, 105, 97, 115]⟩, .string ⟨#[99, 97, 116, 97, 108, 111, 103]⟩, .string ⟨#[112, 114, 111, 102, 105, 108, 101]⟩] 9)).alloc (.cells #[.slice none 0 0] 33)).alloc (.cells #[.string ((kw ++ ⟨#[32]⟩) ++ e.name)] 9)) := bX.trans (show Below w2.heap.size X (((X.alloc (.cells #[.string ⟨#[100, 97, 116, 97]⟩, .string ⟨#[103, 114, 111, 117, 112]⟩, .string ⟨#[97, 108, 105, 97, 115]⟩, .string ⟨#[99, 97, 116, 97, 108, 111, 103]⟩, .string ⟨#[112, 114, 111, 102, 105, 108, 101]⟩] 9)).alloc (.cells #[.slice none 0 0] 33)).alloc (.cells #[.string ((kw ++ ⟨#[32]⟩) ++ e.name)] 9)) by have hzz := sX; exact belA)
          refine hK.out _ _ (KS b3) (fun hHeld => ?_)
          (clear hK K; (try simp only [Act.put, List.setIfInBounds_toArray, List.set_cons_zero, List.set_cons_succ]))
          (refine wpAnyH_ready (rs := [10]) (by kernel_rfl) (by simp) ?_; refine AllReadyH.cons (o := _) rfl (fun K hK => ?_) AllReadyH.nil)
          go_simp
          have ht := TX.b (X.alloc (.cells #[.string ⟨#[100, 97, 116, 97]⟩, .string ⟨#[103, 114, 111, 117, 112]⟩, .string ⟨#[97, 108, 105, 97, 115]⟩, .string ⟨#[99, 97, 116, 97, 108, 111, 103]⟩, .string ⟨#[112, 114, 111, 102, 105, 108, 101]⟩] 9)) w.heap.size ((kw ++ ⟨#[32]⟩) ++ e.name) 33 (by first | omega | (simp; omega))
          rw [show (X.alloc (.cells #[.string ⟨#[100, 97, 116, 97]⟩, .string ⟨#[103, 114, 111, 117, 112]⟩, .string ⟨#[97, 108, 105, 97, 115]⟩, .string ⟨#[99, 97, 116, 97, 108, 111, 103]⟩, .string ⟨#[112, 114, 111, 102, 105, 108, 101]⟩] 9)).heap.size = w2.heap.size + 1 + 1 by first | exact sX | simp [sX]] at ht
          refine hK.out _ _ (KS (bX.trans (show Below w2.heap.size X _ by have hzz := sX; exact belA))) (fun hHeld => ?_)
          (clear hK K; (try simp only [Act.put, List.setIfInBounds_toArray, List.set_cons_zero, List.set_cons_succ]))
          refine wpAnyH_done (by kernel_rfl) ?_ _
          go_wp2_with fail
          go_meet
          exact HFIN.out _ _ _ (show Below X.heap.size X _ by exact belA) ht (by omega) (by omega) (by omega) (by omega)
      · go_simp
        have b2 : Below w2.heap.size w2 ((X.alloc (.cells #[.string ⟨#[100, 97, 116, 97]⟩, .string ⟨#[103, 114, 111, 117, 112]⟩, .string ⟨#[97, 108, 105, 97, 115]⟩, .string ⟨#[99, 97, 116, 97, 108, 111, 103]⟩, .string ⟨#[112, 114, 111, 102, 105, 108, 101]⟩] 9)).alloc (.cells #[.slice none 0 0] 33)) := bX.trans (show Below w2.heap.size X ((X.alloc (.cells #[.string ⟨#[100, 97, 116, 97]⟩, .string ⟨#[103, 114, 111, 117, 112]⟩, .string ⟨#[97, 108, 105, 97, 115]⟩, .string ⟨#[99, 97, 116, 97, 108, 111, 103]⟩, .string ⟨#[112, 114, 111, 102, 105, 108, 101]⟩] 9)).alloc (.cells #[.slice none 0 0] 33)) by have hzz := sX; exact belA)
        refine hK.out _ _ (KS b2) (fun hHeld => ?_)
        (clear hK K; (try simp only [Act.put, List.setIfInBounds_toArray, List.set_cons_zero, List.set_cons_succ]))
        (refine wpAnyH_ready (rs := [3]) (by kernel_rfl) (by simp) ?_; refine AllReadyH.cons (o := _) rfl (fun K hK => ?_) AllReadyH.nil)
        go_simp
        go_at_call 65
        refine (HP2.out _ _ _ _ (by first | rfl | omega | (simp; omega))).mono ?_
        rintro _ w3 ⟨rfl, rfl⟩
        refine hK.out _ _ (KS b2) (fun hHeld => ?_)
        (clear hK K; (try simp only [Act.put, List.setIfInBounds_toArray, List.set_cons_zero, List.set_cons_succ]))
        (refine rg_y (i := 4) (some 27) (v := ?_) rfl rfl (by kernel_rfl) (by kernel_rfl) (by kernel_rfl) (fun _ _ _ h => h) (by kernel_rfl) ?_ (by assumption) ?_; rotate_left 1; focus (intro w hSw; (try dsimp only at hSw); (first | (go_simp; done) | (go_simp; with_reducible rfl))); (try simp only [Act.put, List.setIfInBounds_toArray, List.set_cons_zero, List.set_cons_succ]))
        (refine rg_y (i := 7) (some 30) (v := ?_) rfl rfl (by kernel_rfl) (by kernel_rfl) (by kernel_rfl) (fun _ _ _ h => h) (by kernel_rfl) ?_ (by assumption) ?_; rotate_left 1; focus (intro w hSw; (try dsimp only at hSw); (first | (go_simp; done) | (go_simp; with_reducible rfl))); (try simp only [Act.put, List.setIfInBounds_toArray, List.set_cons_zero, List.set_cons_succ]))
        (refine wpAnyH_ready (rs := [8]) (by kernel_rfl) (by simp) ?_; refine AllReadyH.cons (o := _) rfl (fun K hK => ?_) AllReadyH.nil)
        go_simp
        have b3 : Below w2.heap.size w2 (((X.alloc (.cells #[.string ⟨#[100, 97, 116, 97]⟩, .string ⟨#[103, 114, 111, 117, 112]⟩, .string ⟨#[97, 108, 105, 97, 115]⟩, .string ⟨#[99, 97, 116, 97, 108, 111, 103]⟩, .string ⟨#[112, 114, 111, 102, 105, 108, 101]⟩] 9)).alloc (.cells #[.slice none 0 0] 33)).alloc (.cells #[.string ((kw ++ ⟨#[32]⟩) ++ e.name)] 9)) := bX.trans (show Below w2.heap.size X (((X.alloc (.cells #[.string ⟨#[100, 97, 116, 97]⟩, .string ⟨#[103, 114, 111, 117, 112]⟩, .string ⟨#[97, 108, 105, 97, 115]⟩, .string ⟨#[99, 97, 116, 97, 108, 111, 103]⟩, .string ⟨#[112, 114, 111, 102, 105, 108, 101]⟩] 9)).alloc (.cells #[.slice none 0 0] 33)).alloc (.cells #[.string ((kw ++ ⟨#[32]⟩) ++ e.name)] 9)) by have hzz := sX; exact belA)
        refine hK.out _ _ (KS b3) (fun hHeld => ?_)
        (clear hK K; (try simp only [Act.put, List.setIfInBounds_toArray, List.set_cons_zero, List.set_cons_succ]))
        (refine wpAnyH_ready (rs := [10]) (by kernel_rfl) (by simp) ?_; refine AllReadyH.cons (o := _) rfl (fun K hK => ?_) AllReadyH.nil)
        go_simp
        have ht := TX.b (X.alloc (.cells #[.string ⟨#[100, 97, 116, 97]⟩, .string ⟨#[103, 114, 111, 117, 112]⟩, .string ⟨#[97, 108, 105, 97, 115]⟩, .string ⟨#[99, 97, 116, 97, 108, 111, 103]⟩, .string ⟨#[112, 114, 111, 102, 105, 108, 101]⟩] 9)) w.heap.size ((kw ++ ⟨#[32]⟩) ++ e.name) 33 (by first | omega | (simp; omega))
        rw [show (X.alloc (.cells #[.string ⟨#[100, 97, 116, 97]⟩, .string ⟨#[103, 114, 111, 117, 112]⟩, .string ⟨#[97, 108, 105, 97, 115]⟩, .string ⟨#[99, 97, 116, 97, 108, 111, 103]⟩, .string ⟨#[112, 114, 111, 102, 105, 108, 101]⟩] 9)).heap.size = w2.heap.size + 1 + 1 by first | exact sX | simp [sX]] at ht
        refine hK.out _ _ (KS (bX.trans (show Below w2.heap.size X _ by have hzz := sX; exact belA))) (fun hHeld => ?_)
        (clear hK K; (try simp only [Act.put, List.setIfInBounds_toArray, List.set_cons_zero, List.set_cons_succ]))
        refine wpAnyH_done (by kernel_rfl) ?_ _
        go_wp2_with fail
        go_meet
        exact HFIN.out _ _ _ (show Below X.heap.size X _ by exact belA) ht (by omega) (by omega) (by omega) (by omega)
    · go_simp
      have b1 : Below w2.heap.size w2 (X.alloc (.cells #[.slice none 0 0] 33)) := bX.trans (show Below w2.heap.size X (X.alloc (.cells #[.slice none 0 0] 33)) by have hzz := sX; exact belA)
      refine hK.out _ _ (KS b1) (fun hHeld => ?_)
      (clear hK K; (try simp only [Act.put, List.setIfInBounds_toArray, List.set_cons_zero, List.set_cons_succ]))
      (refine wpAnyH_ready (rs := [2]) (by kernel_rfl) (by simp) ?_; refine AllReadyH.cons (o := _) rfl (fun K hK => ?_) AllReadyH.nil)
      go_simp
      have b2 : Below w2.heap.size w2 ((X.alloc (.cells #[.slice none 0 0] 33)).alloc (.cells #[.string ⟨#[100, 97, 116, 97]⟩, .string ⟨#[103, 114, 111, 117, 112]⟩, .string ⟨#[97, 108, 105, 97, 115]⟩, .string ⟨#[99, 97, 116, 97, 108, 111, 103]⟩, .string ⟨#[112, 114, 111, 102, 105, 108, 101]⟩] 9)) := bX.trans (show Below w2.heap.size X ((X.alloc (.cells #[.slice none 0 0] 33)).alloc (.cells #[.string ⟨#[100, 97, 116, 97]⟩, .string ⟨#[103, 114, 111, 117, 112]⟩, .string ⟨#[97, 108, 105, 97, 115]⟩, .string ⟨#[99, 97, 116, 97, 108, 111, 103]⟩, .string ⟨#[112, 114, 111, 102, 105, 108, 101]⟩] 9)) by have hzz := sX; exact belA)
      refine hK.out _ _ (KS b2) (fun hHeld => ?_)
      (clear hK K; (try simp only [Act.put, List.setIfInBounds_toArray, List.set_cons_zero, List.set_cons_succ]))
      (refine wpAnyH_ready (rs := [3]) (by kernel_rfl) (by simp) ?_; refine AllReadyH.cons (o := _) rfl (fun K hK => ?_) AllReadyH.nil)
      go_simp
      go_at_call 65
      refine (HP1.out _ _  _ (by first | rfl | omega | (simp; omega))).mono ?_
      rintro _ w3 ⟨rfl, rfl⟩
      refine hK.out _ _ (KS b2) (fun hHeld => ?_)
      (clear hK K; (try simp only [Act.put, List.setIfInBounds_toArray, List.set_cons_zero, List.set_cons_succ]))
      (refine rg_y (i := 4) (some 27) (v := ?_) rfl rfl (by kernel_rfl) (by kernel_rfl) (by kernel_rfl) (fun _ _ _ h => h) (by kernel_rfl) ?_ (by assumption) ?_; rotate_left 1; focus (intro w hSw; (try dsimp only at hSw); (first | (go_simp; done) | (go_simp; with_reducible rfl))); (try simp only [Act.put, List.setIfInBounds_toArray, List.set_cons_zero, List.set_cons_succ]))
      (refine rg_y (i := 7) (some 30) (v := ?_) rfl rfl (by kernel_rfl) (by kernel_rfl) (by kernel_rfl) (fun _ _ _ h => h) (by kernel_rfl) ?_ (by assumption) ?_; rotate_left 1; focus (intro w hSw; (try dsimp only at hSw); (first | (go_simp; done) | (go_simp; with_reducible rfl))); (try simp only [Act.put, List.setIfInBounds_toArray, List.set_cons_zero, List.set_cons_succ]))
      (refine wpAnyH_ready (rs := [8]) (by kernel_rfl) (by simp) ?_; refine AllReadyH.cons (o := _) rfl (fun K hK => ?_) AllReadyH.nil)
      go_simp
      have b3 : Below w2.heap.size w2 (((X.alloc (.cells #[.slice none 0 0] 33)).alloc (.cells #[.string ⟨#[100, 97, 116, 97]⟩, .string ⟨#[103, 114, 111, 117, 112]⟩, .string ⟨#[97, 108, 105, 97, 115]⟩, .string ⟨#[99, 97, 116, 97, 108, 111, 103]⟩, .string ⟨#[112, 114, 111, 102, 105, 108, 101]⟩] 9)).alloc (.cells #[.string ((kw ++ ⟨#[32]⟩) ++ e.name)] 9)) := bX.trans (show Below w2.heap.size X (((X.alloc (.cells #[.slice none 0 0] 33)).alloc (.cells #[.string ⟨#[100, 97, 116, 97]⟩, .string ⟨#[103, 114, 111, 117, 112]⟩, .string ⟨#[97, 108, 105, 97, 115]⟩, .string ⟨#[99, 97, 116, 97, 108, 111, 103]⟩, .string ⟨#[112, 114, 111, 102, 105, 108, 101]⟩] 9)).alloc (.cells #[.string ((kw ++ ⟨#[32]⟩) ++ e.name)] 9)) by have hzz := sX; exact belA)
      refine hK.out _ _ (KS b3) (fun hHeld => ?_)
      (clear hK K; (try simp only [Act.put, List.setIfInBounds_toArray, List.set_cons_zero, List.set_cons_succ]))
      (refine wpAnyH_ready (rs := [10]) (by kernel_rfl) (by simp) ?_; refine AllReadyH.cons (o := _) rfl (fun K hK => ?_) AllReadyH.nil)
      go_simp
      have ht := TX.c X (.cells #[.string ⟨#[100, 97, 116, 97]⟩, .string ⟨#[103, 114, 111, 117, 112]⟩, .string ⟨#[97, 108, 105, 97, 115]⟩, .string ⟨#[99, 97, 116, 97, 108, 111, 103]⟩, .string ⟨#[112, 114, 111, 102, 105, 108, 101]⟩] 9) w.heap.size ((kw ++ ⟨#[32]⟩) ++ e.name) 33 (by first | omega | (simp; omega))
      rw [show (X).heap.size = w2.heap.size + 1 by first | exact sX | simp [sX]] at ht
      refine hK.out _ _ (KS (bX.trans (show Below w2.heap.size X _ by have hzz := sX; exact belA))) (fun hHeld => ?_)
      (clear hK K; (try simp only [Act.put, List.setIfInBounds_toArray, List.set_cons_zero, List.set_cons_succ]))
      refine wpAnyH_done (by kernel_rfl) ?_ _
      go_wp2_with fail
      go_meet
      exact HFIN.out _ _ _ (show Below X.heap.size X _ by exact belA) ht (by omega) (by omega) (by omega) (by omega)
  case rest =>
    obtain ⟨o, g, rfl, hTX, hrow, hrd, hlt, hlt2, hno, hng, hno2, hng2, hB⟩ := hcut
    have n0 := cell_row hrow 0 _ (vals_0 e al gr)
    have hsz2 := hB.size
    have HH := Lib.hid hTX
    have HR := Lib.hid hrow
    have HRD := Lib.hid hrd
    have HB := Lib.hid hB
    clear hTX hrow hrd hB
    rw [← HKD.out] at n0
    go_upto_region 11 with fail
    obtain ⟨hx, hl⟩ := HX.start HH.out HB.out ⟨hlt, hno, hng⟩ ⟨hlt2, hno2, hng2⟩ HR.out HRD.out 104
    generalize hW0 : World.alloc (World.alloc wc _) _ = W0 at hx hl ⊢
    generalize hf : wc.heap.size = f at hx ⊢
    have HXX := Lib.hid hx
    have HL := Lib.hid hl
    have HHD := Lib.hid (show kw ++ ⟨#[32]⟩ ++ e.name = hdB e by unfold hdB; rw [HKW.out])
    rw [HHD.out] at HL
    clear hx hl hW0 hf HH HR HRD HB n0 hlt hlt2 hsz2
    have hq := kf_2 _ HOK.out HKD.out.symm
    dsimp only at hq
    have cf := HL.out.fn HXX.out.lf
    have cn0 := HXX.out.e HL.out 29 _ (vals_29 e _ _)
    go_wp2_with (first | (go_at_call 66; (with_reducible refine (tx_lineL HL.out ⟨#[116, 97, 114, 103, 101, 116]⟩ e.target LL (by decide) (by omega)).mono ?_); rintro _ w4 ⟨rfl, hL⟩; have HL := Lib.hid hL; have cf := hL.fn HXX.out.lf; obtain ⟨og, on, oc, hon, ho, hst⟩ := hL.out; have HST := Lib.hid hst; have HON := Lib.hid hon; clear hon hst hL))
    go_ret
    exact ⟨og, on, oc, by rw [txX_2 _ HKD.out.symm]; exact HON.out, rfl, by rw [txX_2 _ HKD.out.symm]; exact HST.out, HL.out.b⟩
theorem tx_k3 (x : Fu) (al gr : Value) (w : World) (hok : okX x = true) (hkd : x.1.kind = 3) (hm : MaxL w) (hT : Tab w) (h1 : IS w al x.2.1) (h2 : GS w gr x.2.2) :
    Calls Tryz.prog 17 #[.agg (x.1.vals al gr)] w fun r w' => ∃ (g n cap : Nat), n = (txX x).length ∧ r = .returned (.slice (some ⟨g, 0, none⟩) n cap) ∧ Strs w' g (txX x) ∧ Below w.heap.size w w' := by
  obtain ⟨e, l2, g2⟩ := x
  dsimp only at h1 h2 hkd ⊢
  have hsz : e.name.size ≤ 60 := Nat.le_trans (kf_name _ hok) (by decide)
  have hv := va_any e al gr l2 g2
  have hv := fun W (b : Below w.heap.size w W) => hv W (hm.below b) (hT.below b) (by omega) (h1.below b) (h2.below b)
  rw [hok] at hv
  have hk := okX_kind _ hok
  dsimp only at hk
  have HV := Lib.hid hv
  have HKD := Lib.hid hkd.symm
  have HOK := Lib.hid hok
  obtain ⟨kw, hkw⟩ : ∃ kw, kw = atW kindsW e.kind := ⟨_, rfl⟩
  have hks : kw.size ≤ 7 := by rw [hkw]; exact atW_size _ _ (by decide) _
  have HP1 := Lib.hid (hkw ▸ pick_A e.kind hk.1 hk.2)
  have HP2 := Lib.hid (hkw ▸ pick_B e.kind hk.1 hk.2)
  have HKW := Lib.hid hkw
  clear hv hk hok hkw hkd
  have l1 : ¬ 9223372036854775807 < kw.size + 1 + e.name.size := by omega
  have l2' : ¬ 9223372036854775807 < kw.size + 1 := by omega
  go_enter Tryz.func17, Tryz.ntmps17
  go_upto_region 4 with (first | (go_at_call 10; (with_reducible refine (HV.out _ (by exact belA)).mono ?_); rintro _ w2 ⟨rfl, hb⟩; have R2 := row_below hb (row_new w _ _ _) (by simp [vals_size]); have B2 := Below.trans (show Below w.heap.size w _ by exact belA) (hb.mono (by simp)); have z2 : w.heap.size < w2.heap.size := (by have := hb.size; simp at this; omega); clear hb))
  have n0 := cell_row R2 0 _ (vals_0 e al gr)
  have n1 := cell_row R2 1 _ (vals_1 e al gr)
  have z3 : w.heap.size < w2.heap.size + 1 := by omega
  have z4 : w.heap.size < w2.heap.size + 1 + 1 := by omega
  have z5 : w.heap.size < w2.heap.size + 1 + 1 + 1 := by omega
  go_cut [4] (fun t4 wx => ∃ o g, t4 = .pointer (some ⟨o, 0, none⟩) ∧ TX wx w.heap.size o g [(kw ++ ⟨#[32]⟩) ++ e.name] ∧ row wx w.heap.size = e.vals al gr ∧ row wx w2.heap.size = e.dat ∧ w.heap.size < wx.heap.size ∧ w2.heap.size < wx.heap.size ∧ w.heap.size ≠ o ∧ w.heap.size ≠ g ∧ w2.heap.size ≠ o ∧ w2.heap.size ≠ g ∧ Below w.heap.size w wx)
  case first =>
    have z2 : w.heap.size < w2.heap.size := z2
    have KS : ∀ {W' : World}, Below w2.heap.size w2 W' → W'.cell? ⟨w.heap.size, 0, none⟩ = some (.int .i64 e.kind) ∧ W'.cell? ⟨w.heap.size, 1, none⟩ = some (.string e.name) ∧ Below w2.heap.size w2 W' := fun h => ⟨(h.cell (p := ⟨w.heap.size, 0, none⟩) z2).trans n0, (h.cell (p := ⟨w.heap.size, 1, none⟩) z2).trans n1, h⟩
    refine wp_region_held_drew (S := fun w' => w'.cell? ⟨w.heap.size, 0, none⟩ = some (.int .i64 e.kind) ∧ w'.cell? ⟨w.heap.size, 1, none⟩ = some (.string e.name) ∧ Below w2.heap.size w2 w') (by kernel_rfl) ?_ (fun hHeld => ?_)
    · exact KS (by exact belA)
    obtain ⟨X, hX⟩ : ∃ X : World, (w2.alloc (.cells e.dat 23)).drew = X := ⟨_, rfl⟩
    rw [hX] at hHeld ⊢
    have bX : Below w2.heap.size w2 X := by rw [← hX]; exact belA
    have rX : row X w2.heap.size = e.dat := by rw [← hX]; exact row_new w2 e.dat 23 (0, 0)
    have sX : X.heap.size = w2.heap.size + 1 := by rw [← hX]; simp
    have fin : ∀ (W : World) (o g : Nat), Below X.heap.size X W → TX W w.heap.size o g [(kw ++ ⟨#[32]⟩) ++ e.name] → w.heap.size < o → w.heap.size < g → w2.heap.size < o → w2.heap.size < g → ∃ o' g', (Value.pointer (some ⟨o, 0, none⟩)) = .pointer (some ⟨o', 0, none⟩) ∧ TX W w.heap.size o' g' [(kw ++ ⟨#[32]⟩) ++ e.name] ∧ row W w.heap.size = e.vals al gr ∧ row W w2.heap.size = e.dat ∧ w.heap.size < W.heap.size ∧ w2.heap.size < W.heap.size ∧ w.heap.size ≠ o' ∧ w.heap.size ≠ g' ∧ w2.heap.size ≠ o' ∧ w2.heap.size ≠ g' ∧ Below w.heap.size w W := fun W o g hb ht h1 h2 h3 h4 => by
      have hs := hb.size
      exact ⟨o, g, rfl, ht, row_below (bX.trans (hb.mono (by omega))) R2 (by simp [vals_size]), row_below hb rX (by rw [dat_size]; decide), by omega, by omega, by omega, by omega, by omega, by omega, B2.trans ((bX.trans (hb.mono (by omega))).mono (by omega))⟩
    have HFIN := Lib.hid fin
    clear fin hX
    (refine rg_y (i := 0) (some 23) (v := ?_) rfl rfl (by kernel_rfl) (by kernel_rfl) (by kernel_rfl) (fun _ _ _ h => h) (by kernel_rfl) ?_ (by assumption) ?_; rotate_left 1; focus (intro w hSw; (try dsimp only at hSw); (first | (go_simp; done) | (go_simp; with_reducible rfl))); (try simp only [Act.put, List.setIfInBounds_toArray, List.set_cons_zero, List.set_cons_succ]))
    (refine rg_y (i := 1) (some 24) (v := ?_) rfl rfl (by kernel_rfl) (by kernel_rfl) (by kernel_rfl) (fun _ _ _ h => h) (by kernel_rfl) ?_ (by assumption) ?_; rotate_left 1; focus (intro w hSw; (try dsimp only at hSw); (first | (go_simp; done) | (go_simp; with_reducible rfl))); (try simp only [Act.put, List.setIfInBounds_toArray, List.set_cons_zero, List.set_cons_succ]))
    (refine rg_y (i := 5) (some 28) (v := ?_) rfl rfl (by kernel_rfl) (by kernel_rfl) (by kernel_rfl) (fun _ _ _ h => h) (by kernel_rfl) ?_ (by assumption) ?_; rotate_left 1; focus (intro w hSw; (try dsimp only at hSw); (first | (go_simp; done) | (go_simp; with_reducible rfl))); (try simp only [Act.put, List.setIfInBounds_toArray, List.set_cons_zero, List.set_cons_succ]))
    (refine rg_y (i := 6) (some 29) (v := ?_) rfl rfl (by kernel_rfl) (by kernel_rfl) (by kernel_rfl) (fun _ _ _ h => h) (by kernel_rfl) ?_ (by assumption) ?_; rotate_left 1; focus (intro w hSw; (try dsimp only at hSw); (first | (go_simp; done) | (go_simp; with_reducible rfl))); (try simp only [Act.put, List.setIfInBounds_toArray, List.set_cons_zero, List.set_cons_succ]))
    refine wpAnyH_ready (rs := [2, 9]) (by kernel_rfl) (by simp) ?_
    refine AllReadyH.cons (o := _) rfl (fun K hK => ?_) (AllReadyH.cons (o := _) rfl (fun K hK => ?_) AllReadyH.nil)
    · go_simp
      have b1 : Below w2.heap.size w2 (X.alloc (.cells #[.string ⟨#[100, 97, 116, 97]⟩, .string ⟨#[103, 114, 111, 117, 112]⟩, .string ⟨#[97, 108, 105, 97, 115]⟩, .string ⟨#[99, 97, 116, 97, 108, 111, 103]⟩, .string ⟨#[112, 114, 111, 102, 105, 108, 101]⟩] 9)) := bX.trans (show Below w2.heap.size X (X.alloc (.cells #[.string ⟨#[100, 97, 116, 97]⟩, .string ⟨#[103, 114, 111, 117, 112]⟩, .string ⟨#[97, 108, 105, 97, 115]⟩, .string ⟨#[99, 97, 116, 97, 108, 111, 103]⟩, .string ⟨#[112, 114, 111, 102, 105, 108, 101]⟩] 9)) by have hzz := sX; exact belA)
      refine hK.out _ _ (KS b1) (fun hHeld => ?_)
      (clear hK K; (try simp only [Act.put, List.setIfInBounds_toArray, List.set_cons_zero, List.set_cons_succ]))
      refine wpAnyH_ready (rs := [3, 9]) (by kernel_rfl) (by simp) ?_
      refine AllReadyH.cons (o := _) rfl (fun K hK => ?_) (AllReadyH.cons (o := _) rfl (fun K hK => ?_) AllReadyH.nil)
      · go_simp
        go_at_call 65
        refine (HP1.out _ _  _ (by first | rfl | omega | (simp; omega))).mono ?_
        rintro _ w3 ⟨rfl, rfl⟩
        refine hK.out _ _ (KS b1) (fun hHeld => ?_)
        (clear hK K; (try simp only [Act.put, List.setIfInBounds_toArray, List.set_cons_zero, List.set_cons_succ]))
        (refine rg_y (i := 4) (some 27) (v := ?_) rfl rfl (by kernel_rfl) (by kernel_rfl) (by kernel_rfl) (fun _ _ _ h => h) (by kernel_rfl) ?_ (by assumption) ?_; rotate_left 1; focus (intro w hSw; (try dsimp only at hSw); (first | (go_simp; done) | (go_simp; with_reducible rfl))); (try simp only [Act.put, List.setIfInBounds_toArray, List.set_cons_zero, List.set_cons_succ]))
        (refine rg_y (i := 7) (some 30) (v := ?_) rfl rfl (by kernel_rfl) (by kernel_rfl) (by kernel_rfl) (fun _ _ _ h => h) (by kernel_rfl) ?_ (by assumption) ?_; rotate_left 1; focus (intro w hSw; (try dsimp only at hSw); (first | (go_simp; done) | (go_simp; with_reducible rfl))); (try simp only [Act.put, List.setIfInBounds_toArray, List.set_cons_zero, List.set_cons_succ]))
        refine wpAnyH_ready (rs := [8, 9]) (by kernel_rfl) (by simp) ?_
        refine AllReadyH.cons (o := _) rfl (fun K hK => ?_) (AllReadyH.cons (o := _) rfl (fun K hK => ?_) AllReadyH.nil)
        · go_simp
          have b2 : Below w2.heap.size w2 ((X.alloc (.cells #[.string ⟨#[100, 97, 116, 97]⟩, .string ⟨#[103, 114, 111, 117, 112]⟩, .string ⟨#[97, 108, 105, 97, 115]⟩, .string ⟨#[99, 97, 116, 97, 108, 111, 103]⟩, .string ⟨#[112, 114, 111, 102, 105, 108, 101]⟩] 9)).alloc (.cells #[.string ((kw ++ ⟨#[32]⟩) ++ e.name)] 9)) := bX.trans (show Below w2.heap.size X ((X.alloc (.cells #[.string ⟨#[100, 97, 116, 97]⟩, .string ⟨#[103, 114, 111, 117, 112]⟩, .string ⟨#[97, 108, 105, 97, 115]⟩, .string ⟨#[99, 97, 116, 97, 108, 111, 103]⟩, .string ⟨#[112, 114, 111, 102, 105, 108, 101]⟩] 9)).alloc (.cells #[.string ((kw ++ ⟨#[32]⟩) ++ e.name)] 9)) by have hzz := sX; exact belA)
          refine hK.out _ _ (KS b2) (fun hHeld => ?_)
          (clear hK K; (try simp only [Act.put, List.setIfInBounds_toArray, List.set_cons_zero, List.set_cons_succ]))
          (refine wpAnyH_ready (rs := [9]) (by kernel_rfl) (by simp) ?_; refine AllReadyH.cons (o := _) rfl (fun K hK => ?_) AllReadyH.nil)
          go_simp
          have b3 : Below w2.heap.size w2 (((X.alloc (.cells #[.string ⟨#[100, 97, 116, 97]⟩, .string ⟨#[103, 114, 111, 117, 112]⟩, .string ⟨#[97, 108, 105, 97, 115]⟩, .string ⟨#[99, 97, 116, 97, 108, 111, 103]⟩, .string ⟨#[112, 114, 111, 102, 105, 108, 101]⟩] 9)).alloc (.cells #[.string ((kw ++ ⟨#[32]⟩) ++ e.name)] 9)).alloc (.cells #[.slice none 0 0] 33)) := bX.trans (show Below w2.heap.size X (((X.alloc (.cells #[.string ⟨#[100, 97, 116, 97]⟩, .string ⟨#[103, 114, 111, 117, 112]⟩, .string ⟨#[97, 108, 105, 97, 115]⟩, .string ⟨#[99, 97, 116, 97, 108, 111, 103]⟩, .string ⟨#[112, 114, 111, 102, 105, 108, 101]⟩] 9)).alloc (.cells #[.string ((kw ++ ⟨#[32]⟩) ++ e.name)] 9)).alloc (.cells #[.slice none 0 0] 33)) by have hzz := sX; exact belA)
          refine hK.out _ _ (KS b3) (fun hHeld => ?_)
          (clear hK K; (try simp only [Act.put, List.setIfInBounds_toArray, List.set_cons_zero, List.set_cons_succ]))
          (refine wpAnyH_ready (rs := [10]) (by kernel_rfl) (by simp) ?_; refine AllReadyH.cons (o := _) rfl (fun K hK => ?_) AllReadyH.nil)
          go_simp
          have ht := TX.a (X.alloc (.cells #[.string ⟨#[100, 97, 116, 97]⟩, .string ⟨#[103, 114, 111, 117, 112]⟩, .string ⟨#[97, 108, 105, 97, 115]⟩, .string ⟨#[99, 97, 116, 97, 108, 111, 103]⟩, .string ⟨#[112, 114, 111, 102, 105, 108, 101]⟩] 9)) w.heap.size ((kw ++ ⟨#[32]⟩) ++ e.name) 33 (by first | omega | (simp; omega))
          rw [show (X.alloc (.cells #[.string ⟨#[100, 97, 116, 97]⟩, .string ⟨#[103, 114, 111, 117, 112]⟩, .string ⟨#[97, 108, 105, 97, 115]⟩, .string ⟨#[99, 97, 116, 97, 108, 111, 103]⟩, .string ⟨#[112, 114, 111, 102, 105, 108, 101]⟩] 9)).heap.size = w2.heap.size + 1 + 1 by first | exact sX | simp [sX]] at ht
          refine hK.out _ _ (KS (bX.trans (show Below w2.heap.size X _ by have hzz := sX; exact belA))) (fun hHeld => ?_)
          (clear hK K; (try simp only [Act.put, List.setIfInBounds_toArray, List.set_cons_zero, List.set_cons_succ]))
          refine wpAnyH_done (by kernel_rfl) ?_ _
          go_wp2_with fail
          go_meet
          exact HFIN.out _ _ _ (show Below X.heap.size X _ by exact belA) ht (by omega) (by omega) (by omega) (by omega)
        · go_simp
          have b2 : Below w2.heap.size w2 ((X.alloc (.cells #[.string ⟨#[100, 97, 116, 97]⟩, .string ⟨#[103, 114, 111, 117, 112]⟩, .string ⟨#[97, 108, 105, 97, 115]⟩, .string ⟨#[99, 97, 116, 97, 108, 111, 103]⟩, .string ⟨#[112, 114, 111, 102, 105, 108, 101]⟩] 9)).alloc (.cells #[.slice none 0 0] 33)) := bX.trans (show Below w2.heap.size X ((X.alloc (.cells #[.string ⟨#[100, 97, 116, 97]⟩, .string ⟨#[103, 114, 111, 117, 112]⟩, .string ⟨#[97, 108, 105, 97, 115]⟩, .string ⟨#[99, 97, 116, 97, 108, 111, 103]⟩, .string ⟨#[112, 114, 111, 102, 105, 108, 101]⟩] 9)).alloc (.cells #[.slice none 0 0] 33)) by have hzz := sX; exact belA)
          refine hK.out _ _ (KS b2) (fun hHeld => ?_)
          (clear hK K; (try simp only [Act.put, List.setIfInBounds_toArray, List.set_cons_zero, List.set_cons_succ]))
          (refine wpAnyH_ready (rs := [8]) (by kernel_rfl) (by simp) ?_; refine AllReadyH.cons (o := _) rfl (fun K hK => ?_) AllReadyH.nil)
          go_simp
          have b3 : Below w2.heap.size w2 (((X.alloc (.cells #[.string ⟨#[100, 97, 116, 97]⟩, .string ⟨#[103, 114, 111, 117, 112]⟩, .string ⟨#[97, 108, 105, 97, 115]⟩, .string ⟨#[99, 97, 116, 97, 108, 111, 103]⟩, .string ⟨#[112, 114, 111, 102, 105, 108, 101]⟩] 9)).alloc (.cells #[.slice none 0 0] 33)).alloc (.cells #[.string ((kw ++ ⟨#[32]⟩) ++ e.name)] 9)) := bX.trans (show Below w2.heap.size X (((X.alloc (.cells #[.string ⟨#[100, 97, 116, 97]⟩, .string ⟨#[103, 114, 111, 117, 112]⟩, .string ⟨#[97, 108, 105, 97, 115]⟩, .string ⟨#[99, 97, 116, 97, 108, 111, 103]⟩, .string ⟨#[112, 114, 111, 102, 105, 108, 101]⟩] 9)).alloc (.cells #[.slice none 0 0] 33)).alloc (.cells #[.string ((kw ++ ⟨#[32]⟩) ++ e.name)] 9)) by have hzz := sX; exact belA)
          refine hK.out _ _ (KS b3) (fun hHeld => ?_)
          (clear hK K; (try simp only [Act.put, List.setIfInBounds_toArray, List.set_cons_zero, List.set_cons_succ]))
          (refine wpAnyH_ready (rs := [10]) (by kernel_rfl) (by simp) ?_; refine AllReadyH.cons (o := _) rfl (fun K hK => ?_) AllReadyH.nil)
          go_simp
          have ht := TX.b (X.alloc (.cells #[.string ⟨#[100, 97, 116, 97]⟩, .string ⟨#[103, 114, 111, 117, 112]⟩, .string ⟨#[97, 108, 105, 97, 115]⟩, .string ⟨#[99, 97, 116, 97, 108, 111, 103]⟩, .string ⟨#[112, 114, 111, 102, 105, 108, 101]⟩] 9)) w.heap.size ((kw ++ ⟨#[32]⟩) ++ e.name) 33 (by first | omega | (simp; omega))
          rw [show (X.alloc (.cells #[.string ⟨#[100, 97, 116, 97]⟩, .string ⟨#[103, 114, 111, 117, 112]⟩, .string ⟨#[97, 108, 105, 97, 115]⟩, .string ⟨#[99, 97, 116, 97, 108, 111, 103]⟩, .string ⟨#[112, 114, 111, 102, 105, 108, 101]⟩] 9)).heap.size = w2.heap.size + 1 + 1 by first | exact sX | simp [sX]] at ht
          refine hK.out _ _ (KS (bX.trans (show Below w2.heap.size X _ by have hzz := sX; exact belA))) (fun hHeld => ?_)
          (clear hK K; (try simp only [Act.put, List.setIfInBounds_toArray, List.set_cons_zero, List.set_cons_succ]))
          refine wpAnyH_done (by kernel_rfl) ?_ _
          go_wp2_with fail
          go_meet
          exact HFIN.out _ _ _ (show Below X.heap.size X _ by exact belA) ht (by omega) (by omega) (by omega) (by omega)
      · go_simp
        have b2 : Below w2.heap.size w2 ((X.alloc (.cells #[.string ⟨#[100, 97, 116, 97]⟩, .string ⟨#[103, 114, 111, 117, 112]⟩, .string ⟨#[97, 108, 105, 97, 115]⟩, .string ⟨#[99, 97, 116, 97, 108, 111, 103]⟩, .string ⟨#[112, 114, 111, 102, 105, 108, 101]⟩] 9)).alloc (.cells #[.slice none 0 0] 33)) := bX.trans (show Below w2.heap.size X ((X.alloc (.cells #[.string ⟨#[100, 97, 116, 97]⟩, .string ⟨#[103, 114, 111, 117, 112]⟩, .string ⟨#[97, 108, 105, 97, 115]⟩, .string ⟨#[99, 97, 116, 97, 108, 111, 103]⟩, .string ⟨#[112, 114, 111, 102, 105, 108, 101]⟩] 9)).alloc (.cells #[.slice none 0 0] 33)) by have hzz := sX; exact belA)
        refine hK.out _ _ (KS b2) (fun hHeld => ?_)
        (clear hK K; (try simp only [Act.put, List.setIfInBounds_toArray, List.set_cons_zero, List.set_cons_succ]))
        (refine wpAnyH_ready (rs := [3]) (by kernel_rfl) (by simp) ?_; refine AllReadyH.cons (o := _) rfl (fun K hK => ?_) AllReadyH.nil)
        go_simp
        go_at_call 65
        refine (HP2.out _ _ _ _ (by first | rfl | omega | (simp; omega))).mono ?_
        rintro _ w3 ⟨rfl, rfl⟩
        refine hK.out _ _ (KS b2) (fun hHeld => ?_)
        (clear hK K; (try simp only [Act.put, List.setIfInBounds_toArray, List.set_cons_zero, List.set_cons_succ]))
        (refine rg_y (i := 4) (some 27) (v := ?_) rfl rfl (by kernel_rfl) (by kernel_rfl) (by kernel_rfl) (fun _ _ _ h => h) (by kernel_rfl) ?_ (by assumption) ?_; rotate_left 1; focus (intro w hSw; (try dsimp only at hSw); (first | (go_simp; done) | (go_simp; with_reducible rfl))); (try simp only [Act.put, List.setIfInBounds_toArray, List.set_cons_zero, List.set_cons_succ]))
        (refine rg_y (i := 7) (some 30) (v := ?_) rfl rfl (by kernel_rfl) (by kernel_rfl) (by kernel_rfl) (fun _ _ _ h => h) (by kernel_rfl) ?_ (by assumption) ?_; rotate_left 1; focus (intro w hSw; (try dsimp only at hSw); (first | (go_simp; done) | (go_simp; with_reducible rfl))); (try simp only [Act.put, List.setIfInBounds_toArray, List.set_cons_zero, List.set_cons_succ]))
        (refine wpAnyH_ready (rs := [8]) (by kernel_rfl) (by simp) ?_; refine AllReadyH.cons (o := _) rfl (fun K hK => ?_) AllReadyH.nil)
        go_simp
        have b3 : Below w2.heap.size w2 (((X.alloc (.cells #[.string ⟨#[100, 97, 116, 97]⟩, .string ⟨#[103, 114, 111, 117, 112]⟩, .string ⟨#[97, 108, 105, 97, 115]⟩, .string ⟨#[99, 97, 116, 97, 108, 111, 103]⟩, .string ⟨#[112, 114, 111, 102, 105, 108, 101]⟩] 9)).alloc (.cells #[.slice none 0 0] 33)).alloc (.cells #[.string ((kw ++ ⟨#[32]⟩) ++ e.name)] 9)) := bX.trans (show Below w2.heap.size X (((X.alloc (.cells #[.string ⟨#[100, 97, 116, 97]⟩, .string ⟨#[103, 114, 111, 117, 112]⟩, .string ⟨#[97, 108, 105, 97, 115]⟩, .string ⟨#[99, 97, 116, 97, 108, 111, 103]⟩, .string ⟨#[112, 114, 111, 102, 105, 108, 101]⟩] 9)).alloc (.cells #[.slice none 0 0] 33)).alloc (.cells #[.string ((kw ++ ⟨#[32]⟩) ++ e.name)] 9)) by have hzz := sX; exact belA)
        refine hK.out _ _ (KS b3) (fun hHeld => ?_)
        (clear hK K; (try simp only [Act.put, List.setIfInBounds_toArray, List.set_cons_zero, List.set_cons_succ]))
        (refine wpAnyH_ready (rs := [10]) (by kernel_rfl) (by simp) ?_; refine AllReadyH.cons (o := _) rfl (fun K hK => ?_) AllReadyH.nil)
        go_simp
        have ht := TX.b (X.alloc (.cells #[.string ⟨#[100, 97, 116, 97]⟩, .string ⟨#[103, 114, 111, 117, 112]⟩, .string ⟨#[97, 108, 105, 97, 115]⟩, .string ⟨#[99, 97, 116, 97, 108, 111, 103]⟩, .string ⟨#[112, 114, 111, 102, 105, 108, 101]⟩] 9)) w.heap.size ((kw ++ ⟨#[32]⟩) ++ e.name) 33 (by first | omega | (simp; omega))
        rw [show (X.alloc (.cells #[.string ⟨#[100, 97, 116, 97]⟩, .string ⟨#[103, 114, 111, 117, 112]⟩, .string ⟨#[97, 108, 105, 97, 115]⟩, .string ⟨#[99, 97, 116, 97, 108, 111, 103]⟩, .string ⟨#[112, 114, 111, 102, 105, 108, 101]⟩] 9)).heap.size = w2.heap.size + 1 + 1 by first | exact sX | simp [sX]] at ht
        refine hK.out _ _ (KS (bX.trans (show Below w2.heap.size X _ by have hzz := sX; exact belA))) (fun hHeld => ?_)
        (clear hK K; (try simp only [Act.put, List.setIfInBounds_toArray, List.set_cons_zero, List.set_cons_succ]))
        refine wpAnyH_done (by kernel_rfl) ?_ _
        go_wp2_with fail
        go_meet
        exact HFIN.out _ _ _ (show Below X.heap.size X _ by exact belA) ht (by omega) (by omega) (by omega) (by omega)
    · go_simp
      have b1 : Below w2.heap.size w2 (X.alloc (.cells #[.slice none 0 0] 33)) := bX.trans (show Below w2.heap.size X (X.alloc (.cells #[.slice none 0 0] 33)) by have hzz := sX; exact belA)
      refine hK.out _ _ (KS b1) (fun hHeld => ?_)
      (clear hK K; (try simp only [Act.put, List.setIfInBounds_toArray, List.set_cons_zero, List.set_cons_succ]))
      (refine wpAnyH_ready (rs := [2]) (by kernel_rfl) (by simp) ?_; refine AllReadyH.cons (o := _) rfl (fun K hK => ?_) AllReadyH.nil)
      go_simp
      have b2 : Below w2.heap.size w2 ((X.alloc (.cells #[.slice none 0 0] 33)).alloc (.cells #[.string ⟨#[100, 97, 116, 97]⟩, .string ⟨#[103, 114, 111, 117, 112]⟩, .string ⟨#[97, 108, 105, 97, 115]⟩, .string ⟨#[99, 97, 116, 97, 108, 111, 103]⟩, .string ⟨#[112, 114, 111, 102, 105, 108, 101]⟩] 9)) := bX.trans (show Below w2.heap.size X ((X.alloc (.cells #[.slice none 0 0] 33)).alloc (.cells #[.string ⟨#[100, 97, 116, 97]⟩, .string ⟨#[103, 114, 111, 117, 112]⟩, .string ⟨#[97, 108, 105, 97, 115]⟩, .string ⟨#[99, 97, 116, 97, 108, 111, 103]⟩, .string ⟨#[112, 114, 111, 102, 105, 108, 101]⟩] 9)) by have hzz := sX; exact belA)
      refine hK.out _ _ (KS b2) (fun hHeld => ?_)
      (clear hK K; (try simp only [Act.put, List.setIfInBounds_toArray, List.set_cons_zero, List.set_cons_succ]))
      (refine wpAnyH_ready (rs := [3]) (by kernel_rfl) (by simp) ?_; refine AllReadyH.cons (o := _) rfl (fun K hK => ?_) AllReadyH.nil)
      go_simp
      go_at_call 65
      refine (HP1.out _ _  _ (by first | rfl | omega | (simp; omega))).mono ?_
      rintro _ w3 ⟨rfl, rfl⟩
      refine hK.out _ _ (KS b2) (fun hHeld => ?_)
      (clear hK K; (try simp only [Act.put, List.setIfInBounds_toArray, List.set_cons_zero, List.set_cons_succ]))
      (refine rg_y (i := 4) (some 27) (v := ?_) rfl rfl (by kernel_rfl) (by kernel_rfl) (by kernel_rfl) (fun _ _ _ h => h) (by kernel_rfl) ?_ (by assumption) ?_; rotate_left 1; focus (intro w hSw; (try dsimp only at hSw); (first | (go_simp; done) | (go_simp; with_reducible rfl))); (try simp only [Act.put, List.setIfInBounds_toArray, List.set_cons_zero, List.set_cons_succ]))
      (refine rg_y (i := 7) (some 30) (v := ?_) rfl rfl (by kernel_rfl) (by kernel_rfl) (by kernel_rfl) (fun _ _ _ h => h) (by kernel_rfl) ?_ (by assumption) ?_; rotate_left 1; focus (intro w hSw; (try dsimp only at hSw); (first | (go_simp; done) | (go_simp; with_reducible rfl))); (try simp only [Act.put, List.setIfInBounds_toArray, List.set_cons_zero, List.set_cons_succ]))
      (refine wpAnyH_ready (rs := [8]) (by kernel_rfl) (by simp) ?_; refine AllReadyH.cons (o := _) rfl (fun K hK => ?_) AllReadyH.nil)
      go_simp
      have b3 : Below w2.heap.size w2 (((X.alloc (.cells #[.slice none 0 0] 33)).alloc (.cells #[.string ⟨#[100, 97, 116, 97]⟩, .string ⟨#[103, 114, 111, 117, 112]⟩, .string ⟨#[97, 108, 105, 97, 115]⟩, .string ⟨#[99, 97, 116, 97, 108, 111, 103]⟩, .string ⟨#[112, 114, 111, 102, 105, 108, 101]⟩] 9)).alloc (.cells #[.string ((kw ++ ⟨#[32]⟩) ++ e.name)] 9)) := bX.trans (show Below w2.heap.size X (((X.alloc (.cells #[.slice none 0 0] 33)).alloc (.cells #[.string ⟨#[100, 97, 116, 97]⟩, .string ⟨#[103, 114, 111, 117, 112]⟩, .string ⟨#[97, 108, 105, 97, 115]⟩, .string ⟨#[99, 97, 116, 97, 108, 111, 103]⟩, .string ⟨#[112, 114, 111, 102, 105, 108, 101]⟩] 9)).alloc (.cells #[.string ((kw ++ ⟨#[32]⟩) ++ e.name)] 9)) by have hzz := sX; exact belA)
      refine hK.out _ _ (KS b3) (fun hHeld => ?_)
      (clear hK K; (try simp only [Act.put, List.setIfInBounds_toArray, List.set_cons_zero, List.set_cons_succ]))
      (refine wpAnyH_ready (rs := [10]) (by kernel_rfl) (by simp) ?_; refine AllReadyH.cons (o := _) rfl (fun K hK => ?_) AllReadyH.nil)
      go_simp
      have ht := TX.c X (.cells #[.string ⟨#[100, 97, 116, 97]⟩, .string ⟨#[103, 114, 111, 117, 112]⟩, .string ⟨#[97, 108, 105, 97, 115]⟩, .string ⟨#[99, 97, 116, 97, 108, 111, 103]⟩, .string ⟨#[112, 114, 111, 102, 105, 108, 101]⟩] 9) w.heap.size ((kw ++ ⟨#[32]⟩) ++ e.name) 33 (by first | omega | (simp; omega))
      rw [show (X).heap.size = w2.heap.size + 1 by first | exact sX | simp [sX]] at ht
      refine hK.out _ _ (KS (bX.trans (show Below w2.heap.size X _ by have hzz := sX; exact belA))) (fun hHeld => ?_)
      (clear hK K; (try simp only [Act.put, List.setIfInBounds_toArray, List.set_cons_zero, List.set_cons_succ]))
      refine wpAnyH_done (by kernel_rfl) ?_ _
      go_wp2_with fail
      go_meet
      exact HFIN.out _ _ _ (show Below X.heap.size X _ by exact belA) ht (by omega) (by omega) (by omega) (by omega)
  case rest =>
    obtain ⟨o, g, rfl, hTX, hrow, hrd, hlt, hlt2, hno, hng, hno2, hng2, hB⟩ := hcut
    have n0 := cell_row hrow 0 _ (vals_0 e al gr)
    have hsz2 := hB.size
    have HH := Lib.hid hTX
    have HR := Lib.hid hrow
    have HRD := Lib.hid hrd
    have HB := Lib.hid hB
    clear hTX hrow hrd hB
    rw [← HKD.out] at n0
    go_upto_region 11 with fail
    obtain ⟨hx, hl⟩ := HX.start HH.out HB.out ⟨hlt, hno, hng⟩ ⟨hlt2, hno2, hng2⟩ HR.out HRD.out 104
    generalize hW0 : World.alloc (World.alloc wc _) _ = W0 at hx hl ⊢
    generalize hf : wc.heap.size = f at hx ⊢
    have HXX := Lib.hid hx
    have HL := Lib.hid hl
    have HHD := Lib.hid (show kw ++ ⟨#[32]⟩ ++ e.name = hdB e by unfold hdB; rw [HKW.out])
    rw [HHD.out] at HL
    clear hx hl hW0 hf HH HR HRD HB n0 hlt hlt2 hsz2
    have hq := kf_3 _ HOK.out HKD.out.symm
    dsimp only at hq
    have cf := HL.out.fn HXX.out.lf
    have cn0 := HXX.out.e HL.out 30 _ (vals_30 e _ _)
    go_wp2_with (first | (go_at_call 67; (with_reducible refine (tx_num HL.out HXX.out.lf ⟨#[99, 97, 116, 97, 108, 111, 103]⟩ e.cat hT LL (by decide) hq.1 hq.2).mono ?_); rintro _ w4 ⟨rfl, hL⟩; have HL := Lib.hid hL; have cf := hL.fn HXX.out.lf; obtain ⟨og, on, oc, hon, ho, hst⟩ := hL.out; have HST := Lib.hid hst; have HON := Lib.hid hon; clear hon hst hL))
    go_ret
    exact ⟨og, on, oc, by rw [txX_3 _ HKD.out.symm]; exact HON.out, rfl, by rw [txX_3 _ HKD.out.symm]; exact HST.out, HL.out.b⟩
end Go.Proofs.YtdfdjfnfmibpjaaGreatDoor
