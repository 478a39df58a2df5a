/- Several texts in one: Nf Ng. -/
import Derived.Test.YtkmhegogiadjfaaGreatDoorNp
import Derived.Test.YtkmhegogiadjfaaGreatDoorRh
import Derived.Test.YtkmhegogiadjfaaGreatDoorDsR
section
/- Contracts of the reference of chapter 37: fits, Note. -/
namespace Go.Proofs.YtkmhegogiadjfaaGreatDoor
open Go.RowKit
set_option maxHeartbeats 8000000
set_option maxRecDepth 8000
set_option linter.unusedSimpArgs false
theorem recQ_size (x : Fu) : (recQ x).size ≤ 200 := by
  unfold recQ
  split
  · rename_i h
    rw [← Ds.bl_length, Ds.bl_mk]
    exact recX_len x h
  · decide
theorem name_pos (x : Fu) (h : okX x = true) (hk : x.1.kind = 1) : Ds.bl x.1.name ≠ [] := by
  obtain ⟨e, l, r⟩ := x
  simp only at hk
  unfold okX at h
  simp only [hk] at h
  rw [if_neg (by decide), if_pos trivial] at h
  unfold okG at h
  simp only [Bool.and_eq_true] at h
  intro e0
  simp only at e0
  rw [e0] at h
  exact absurd h.1.1 (by decide +kernel)
/-- the reference's record of two entries -/
theorem noteS_txt (x g : Fu) (h : noteOk x g = true) : (encB (recQ x).size ++ recQ x) ++ (encB (if Ds.gen (Ds.bl x.1.name) = true then recQ g else ⟨#[]⟩).size ++ (if Ds.gen (Ds.bl x.1.name) = true then recQ g else ⟨#[]⟩)) = noteS x g := by
  obtain ⟨h1, h2, h3⟩ := noteOk_parts x g h
  refine Ds.bl_inj ?_
  have k1 : Ds.bl (recQ x) = recX x := by unfold recQ; rw [if_pos h1, Ds.bl_mk]
  have k2 : Ds.bl (if Ds.gen (Ds.bl x.1.name) = true then recQ g else ⟨#[]⟩) = grpL x g := by
    unfold grpL
    split
    · rename_i c
      unfold recQ
      rw [if_pos (fitG_yes _ _ h3 c).1, Ds.bl_mk]
    · rfl
  generalize (if Ds.gen (Ds.bl x.1.name) = true then recQ g else ⟨#[]⟩) = y at k2 ⊢
  rw [Ds.bl_append, Ds.bl_append, Ds.bl_append, encB_bl, encB_bl, ← Ds.bl_length, ← Ds.bl_length, k1, k2]
  unfold noteS
  rw [if_pos h, Ds.bl_mk]
  rfl
/-- is the group's name empty? -/
theorem note_grp (x g : Fu) (h : noteOk x g = true) : g.1.name.toList.isEmpty = !(Ds.gen (Ds.bl x.1.name)) := by
  obtain ⟨h1, h2, h3⟩ := noteOk_parts x g h
  cases hg : Ds.gen (Ds.bl x.1.name)
  · rw [fitG_no _ _ h3 hg]
    exact isEmpty_nil _ rfl
  · obtain ⟨h4, h5⟩ := fitG_yes _ _ h3 hg
    exact isEmpty_of _ (by rw [← Ds.bl_length]; exact List.length_pos_iff.2 (name_pos g h4 h5))
attribute [local go_sem ↓] ldEnt stEnt
attribute [local go_sem] isHead_mk headOf_mk cellsOfV_mk isAggV_mk row_new row_new2 row_new2' row_drew row_drewN vals_size allOne_nil allOne_cons one_int one_bool one_string one_pointer one_slice one_func
theorem rn_fits (x g : Fu) (al gr al2 gr2 : Value) (w : World) (hxs : x.1.name.size ≤ 60) (hgs : g.1.name.size ≤ 60) (h1 : IS w al x.2.1) (h2 : GS w gr x.2.2) (h3 : IS w al2 g.2.1) (h4 : GS w gr2 g.2.2) :
    Calls Tryz.prog 125 #[.agg (x.1.vals al gr), .agg (g.1.vals al2 gr2)] w fun r w' => r = .returned (.bool (noteOk x g)) ∧ Below w.heap.size w w' := by
  have a1 := vals_one x.1 al gr (is_one h1) (gs_one h2)
  have a2 := vals_one g.1 al2 gr2 (is_one h3) (gs_one h4)
  have he := fun W (B : Below w.heap.size w W) => rva_any x al gr W hxs (h1.below B) (h2.below B)
  have hg := fun W (B : Below w.heap.size w W) => rva_any g al2 gr2 W hgs (h3.below B) (h4.below B)
  have hp := fun W => rds_split x.1.name W hxs
  have hsm := fun W (B : Below w.heap.size w W) => rsame g.1 En.zero al2 gr2 (.slice none 0 0) (.slice none 0 0) g.2.1 [] g.2.2 [] W (h3.below B) (IS.nil W) (h4.below B) (GS.nil W)
  rw [show En.zero.vals (.slice none 0 0) (.slice none 0 0) = zlit 0 ⟨#[]⟩ from (zlit_eq 0 ⟨#[]⟩).symm] at hsm
  unfold zlit at hsm
  have hok : noteOk x g = (okX x && (decide (x.1.kind = 0) && (if Ds.gen (Ds.bl x.1.name) = true then okX g && (decide (g.1.kind = 1) && decide (Ds.bl g.1.name = Ds.splG (Ds.bl x.1.name))) else sameE g.1 En.zero g.2.1 [] g.2.2 []))) := rfl
  have e1 := int_dec x.1.kind 0
  have e1' : (x.1.kind != 0) = !(decide (x.1.kind = 0)) := by rw [← e1]; rfl
  have e3 := int_dec g.1.kind 1
  have e4 := tl_dec g.1.name ⟨(Ds.splG (Ds.bl x.1.name)).toArray⟩
  rw [show Ds.bl ⟨(Ds.splG (Ds.bl x.1.name)).toArray⟩ = Ds.splG (Ds.bl x.1.name) from Ds.bl_mk _] at e4
  generalize noteOk x g = nok at hok ⊢
  subst hok
  generalize okX x = c0 at he ⊢
  generalize decide (x.1.kind = 0) = c1 at e1 e1' ⊢
  generalize okX g = c2 at hg ⊢
  generalize decide (g.1.kind = 1) = c3 at e3 ⊢
  generalize decide (Ds.bl g.1.name = Ds.splG (Ds.bl x.1.name)) = c4 at e4 ⊢
  generalize sameE g.1 En.zero g.2.1 [] g.2.2 [] = c5 at hsm ⊢
  generalize (⟨(Ds.splG (Ds.bl x.1.name)).toArray⟩ : ByteArray) = sg at hp e4
  generalize Ds.gen (Ds.bl x.1.name) = ge at hp ⊢
  have B0 : Below w.heap.size w ((w.alloc (.cells (x.1.vals al gr) 27)).alloc (.cells (g.1.vals al2 gr2) 27)) := by (repeat (first | exact Below.refl _ _ | assumption | (refine Below.drew ?_) | (refine Below.alloc ?_ (by first | (simp; done) | (simp; omega) | omega) _) | (refine Below.setCell ?_ (by first | (simp; done) | (simp; omega) | omega) _)))
  have R0 := row_new2 w (x.1.vals al gr) 27 (0, 0) (.cells (g.1.vals al2 gr2) 27)
  have Q0 := row_new2' w (g.1.vals al2 gr2) 27 (0, 0) (.cells (x.1.vals al gr) 27)
  have HE := Lib.hid he
  have HG := Lib.hid hg
  have HP := Lib.hid hp
  have HS := Lib.hid hsm
  clear he hg hp hsm h1 h2 h3 h4
  have x0 := cell_row R0 0 _ (vals_0 x.1 _ _)
  cases c1
  case' true => cases c0
  case' true.true => cases ge
  case' true.true.true => cases c3
  case' true.true.true.true => cases c4
  all_goals
    simp only [Bool.false_and, Bool.and_false, Bool.true_and, Bool.and_true, Bool.and_self, Bool.false_eq_true, if_false, if_true, Bool.not_true, Bool.not_false] at e1' ⊢
    go_enter Tryz.func125, Tryz.ntmps125
    go_wp2_with (first
      | (go_at_call 14; have b6 := B2; clear b6; (refine (HG.out _ B2).mono ?_); rintro _ w3 ⟨rfl, hb⟩; have B3 := bt B2 hb; clear hb)
      | (go_at_call 14; (refine (HE.out _ B0).mono ?_); rintro _ w1 ⟨rfl, hb⟩; have R1 := row_below hb R0 (by simp [vals_size]); have Q1 := row_below hb Q0 (by simp [vals_size]); have x1 := cell_row R1 1 _ (vals_1 x.1 _ _); have B1 := bt B0 hb; clear hb)
      | (go_at_call 61; (refine (HP.out _).mono ?_); rintro _ w2 ⟨rfl, hb⟩; have Q2 := row_below hb Q1 (by simp [vals_size]); have n0 := cell_row Q2 0 _ (vals_0 g.1 _ _); have n1 := cell_row Q2 1 _ (vals_1 g.1 _ _); have B2 := bt B1 hb; clear hb)
      | (go_at_call 16; (refine (HS.out _ B2).mono ?_); rintro _ w3 ⟨rfl, hb⟩; have B3 := bt B2 hb; clear hb))
    go_ret
    exact ⟨rfl, by first | exact B3 | exact B2 | exact B1 | exact B0⟩
theorem rn_note (x g : Fu) (al gr al2 gr2 : Value) (w : World) (hxs : x.1.name.size ≤ 60) (hgs : g.1.name.size ≤ 60) (h1 : IS w al x.2.1) (h2 : GS w gr x.2.2) (h3 : IS w al2 g.2.1) (h4 : GS w gr2 g.2.2) :
    Calls Tryz.prog 52 #[.agg (x.1.vals al gr), .agg (g.1.vals al2 gr2)] w fun r w' => r = .returned (.tuple #[.string (noteS x g), .int .i64 (if noteOk x g = true then 0 else 1)]) ∧ Below w.heap.size w w' := by
  have a1 := vals_one x.1 al gr (is_one h1) (gs_one h2)
  have a2 := vals_one g.1 al2 gr2 (is_one h3) (gs_one h4)
  have hf := fun W (B : Below w.heap.size w W) => rn_fits x g al gr al2 gr2 W hxs hgs (h1.below B) (h2.below B) (h3.below B) (h4.below B)
  have he := fun W (B : Below w.heap.size w W) => renc_q x al gr _ rfl W hxs (h1.below B) (h2.below B)
  have hg := fun W (B : Below w.heap.size w W) => renc_q g al2 gr2 _ rfl W hgs (h3.below B) (h4.below B)
  have z1 := recQ_size x
  have z2 := recQ_size g
  have y1 := encB_size (recQ x).size (by omega)
  have y2 := encB_size (recQ g).size (by omega)
  have y3 := encB_size 0 (by decide)
  have l1 : ¬ 9223372036854775807 < (encB (recQ x).size).size + (recQ x).size + (encB 0).size := by omega
  have l2 : ¬ 9223372036854775807 < (encB (recQ x).size).size + (recQ x).size + ((encB (recQ g).size).size + (recQ g).size) := by omega
  have hY := noteS_txt x g
  have hN := noteS_no x g
  have hgn := note_grp x g
  generalize (if okX x = true then (0 : Int) else 1) = c0 at he
  generalize (if okX g = true then (0 : Int) else 1) = c2 at hg
  generalize recQ x = sx at he z1 y1 hY l1 l2
  generalize recQ g = sy at hg z2 y2 hY l2
  generalize noteS x g = ns at hY hN ⊢
  generalize noteOk x g = nok at hf hY hN hgn ⊢
  generalize Ds.gen (Ds.bl x.1.name) = ge at hY hgn
  have B0 : Below w.heap.size w ((w.alloc (.cells (x.1.vals al gr) 27)).alloc (.cells (g.1.vals al2 gr2) 27)) := by (repeat (first | exact Below.refl _ _ | assumption | (refine Below.drew ?_) | (refine Below.alloc ?_ (by first | (simp; done) | (simp; omega) | omega) _) | (refine Below.setCell ?_ (by first | (simp; done) | (simp; omega) | omega) _)))
  have R0 := row_new2 w (x.1.vals al gr) 27 (0, 0) (.cells (g.1.vals al2 gr2) 27)
  have Q0 := row_new2' w (g.1.vals al2 gr2) 27 (0, 0) (.cells (x.1.vals al gr) 27)
  have HF := Lib.hid hf
  have HE := Lib.hid he
  have HG := Lib.hid hg
  have HT := Lib.hid (fun s (W : World) (h : s.size ≤ 1000) => rtext s W h)
  have HY := Lib.hid hY
  have HN := Lib.hid hN
  clear hf he hg h1 h2 h3 h4 hY hN
  cases nok
  case' true => replace hgn := hgn rfl
  case' true => cases ge
  case' true.false => replace hgn : g.1.name.toList.isEmpty = true := hgn
  case' true.true => replace hgn : g.1.name.toList.isEmpty = false := hgn
  all_goals
    first
    | (obtain rfl : ns = ⟨#[]⟩ := HN.out rfl)
    | (have hns := HY.out rfl; simp only [Bool.false_eq_true, if_false, if_true] at hns; subst hns)
    clear HY HN
    go_enter Tryz.func52, Tryz.ntmps52
    go_wp2_with (first
      | (go_at_call 125; (refine (HF.out _ B0).mono ?_); rintro _ w1 ⟨rfl, hb⟩; have R1 := row_below hb R0 (by simp [vals_size]); have Q1 := row_below hb Q0 (by simp [vals_size]); have B1 := bt B0 hb; clear hb)
      | (go_at_call 91; have b6 := B2; clear b6; (refine (HG.out _ B2).mono ?_); rintro _ w3 ⟨rfl, hb⟩; have B3 := bt B2 hb; clear hb)
      | (go_at_call 91; (refine (HE.out _ B1).mono ?_); rintro _ w2 ⟨rfl, hb⟩; have Q2 := row_below hb Q1 (by simp [vals_size]); have n1 := cell_row Q2 1 _ (vals_1 g.1 _ _); have B2 := bt B1 hb; clear hb)
      | (go_at_call 126; have b6 := B4; clear b6; (refine (HT.out _ _ (by first | omega | decide)).mono ?_); rintro _ w5 ⟨rfl, hb⟩; have B5 := bt B4 hb; clear hb)
      | (go_at_call 126; (refine (HT.out _ _ (by omega)).mono ?_); rintro _ w4 ⟨rfl, hb⟩; have B4 := bt (by first | exact B3 | exact B2) hb; clear hb))
    go_ret2
    exact ⟨rfl, by first | exact B5 | exact B1⟩
end Go.Proofs.YtkmhegogiadjfaaGreatDoor

end
section
/- Contract of the reference of chapter 37: Parse. -/
namespace Go.Proofs.YtkmhegogiadjfaaGreatDoor
open Go.RowKit
set_option maxHeartbeats 16000000
set_option maxRecDepth 8000
set_option linter.unusedSimpArgs false
theorem ok_zeroZ : okX zFu = false := by
  unfold okX
  rw [if_pos (show zFu.1.kind = 0 from rfl)]
  unfold okD
  rw [show Ds.name (Ds.bl zFu.1.name) = false by decide +kernel]
  rfl
theorem noteX_z (g : Fu) (s : List UInt8) : noteX zFu g ≠ some s := by
  unfold noteX
  rw [if_neg (by unfold noteOk; rw [ok_zeroZ]; simp)]
  intro h; cases h
/-- the reference reads alike -/
theorem ref_parts (s : List UInt8) : ∃ (a b : List UInt8) (r1 r2 : List UInt8 × Nat), Rd.txt 200 (s, 0) = (a, r1) ∧ Rd.txt 200 r1 = (b, r2) ∧ r1.1.length ≤ s.length ∧
    ∀ (x g : Fu) (c d : Int), (decX a = some x ∧ c = 0 ∨ decX a = none ∧ x = (En.zero, [], []) ∧ c = 11) → (decX b = some g ∧ d = 0 ∨ decX b = none ∧ g = (En.zero, [], []) ∧ d = 11) →
      (Rd.fin r2 = 0 → noteX x g = some s → parseX s = some (x, g)) ∧ (¬ (Rd.fin r2 = 0 ∧ noteX x g = some s) → parseX s = none) := by
  obtain ⟨a, b, r1, r2, e1, e2, la, lb, l1, l2, p1, p2, p3, p4⟩ := par_parts s
  refine ⟨a, b, r1, r2, e1, e2, l1, fun x g c d hx hg => ?_⟩
  by_cases hf : Rd.fin r2 = 0
  rotate_left
  · exact ⟨fun h => absurd h hf, fun _ => p1 hf⟩
  rcases hx with ⟨hx, -⟩ | ⟨hx, rfl, -⟩
  rotate_left
  · exact ⟨fun _ h => absurd h (noteX_z g s), fun _ => p2 hf hx⟩
  by_cases hb : b = []
  · have hg2 : (if b = [] then some zFu else decX b) = some g := by
      rw [if_pos hb]
      rcases hg with ⟨hg, -⟩ | ⟨-, rfl, -⟩
      · subst hb
        have h2 := decX_sound _ _ hg
        have h3 := rec_ge g h2.1
        rw [h2.2] at h3
        simp at h3
      · rfl
    have := p3 x g hf hx hg2
    exact ⟨fun _ h => by rw [this, if_pos h], fun h => by rw [this, if_neg (fun q => h ⟨hf, q⟩)]⟩
  · rcases hg with ⟨hg, -⟩ | ⟨hg, rfl, -⟩
    · have := p3 x g hf hx (by rw [if_neg hb, hg])
      exact ⟨fun _ h => by rw [this, if_pos h], fun h => by rw [this, if_neg (fun q => h ⟨hf, q⟩)]⟩
    · refine ⟨fun _ h => absurd ?_ hb, fun _ => p4 x hf hx hb hg⟩
      unfold noteX at h
      split at h
      · rename_i hn
        obtain ⟨h1, -, h3⟩ := noteOk_parts x _ hn
        have l3 := recX_len x h1
        have hgen : Ds.gen (Ds.bl x.1.name) = false := by
          cases hq : Ds.gen (Ds.bl x.1.name)
          · rfl
          · have q1 := (fitG_yes _ _ h3 hq).1
            rw [show okX ((En.zero, [], []) : Fu) = false from ok_zeroZ] at q1
            cases q1
        have hgl : grpL x ((En.zero, [], []) : Fu) = [] := by unfold grpL; rw [if_neg (by rw [hgen]; simp)]
        have q := Option.some.inj h
        have q1 : Rd.txt 200 (s, 0) = (recX x, (wtx [], 0)) := by
          rw [← q]
          unfold noteL
          rw [hgl]
          show Rd.txt 200 (wtx (recX x) ++ wtx [], 0) = _
          unfold wtx
          rw [List.append_assoc]
          exact Rd.txt_enc 200 (recX x) _ l3 (by omega)
        rw [q1] at e1
        have q3 : r1 = (wtx [], 0) := (Prod.mk.inj e1).2.symm
        have q2 : Rd.txt 200 (wtx [], 0) = ([], ([], 0)) := by
          have := Rd.txt_enc 200 [] [] (by decide) (by decide)
          rw [List.append_nil] at this
          exact this
        rw [q3, q2] at e2
        exact (Prod.mk.inj e2).1.symm
      · cases h
/-- the reference's Note, by cases -/
theorem rn_note3 (x g : Fu) (al gr al2 gr2 : Value) (s : ByteArray) (w : World) (hxs : x.1.name.size ≤ 60) (hgs : g.1.name.size ≤ 60) (h1 : IS w al x.2.1) (h2 : GS w gr x.2.2) (h3 : IS w al2 g.2.1) (h4 : GS w gr2 g.2.2) :
    Calls Tryz.prog 52 #[.agg (x.1.vals al gr), .agg (g.1.vals al2 gr2)] w fun r w' => ∃ t code, r = .returned (.tuple #[.string t, .int .i64 code]) ∧ Below w.heap.size w w' ∧ ((code = 0 ∧ (t.toList == s.toList) = true ∧ Hid (noteX x g = some (Ds.bl s))) ∨ (code = 0 ∧ (t.toList == s.toList) = false ∧ Hid (noteX x g ≠ some (Ds.bl s))) ∨ (code = 1 ∧ Hid (noteX x g ≠ some (Ds.bl s)))) := by
  refine (rn_note x g al gr al2 gr2 w hxs hgs h1 h2 h3 h4).mono ?_
  rintro r w' ⟨rfl, hb⟩
  refine ⟨_, _, rfl, hb, ?_⟩
  cases hx : noteOk x g
  · refine Or.inr (Or.inr ⟨by simp, Lib.hid ?_⟩)
    unfold noteX; rw [if_neg (by rw [hx]; simp)]; intro e; cases e
  · have hn : Ds.bl (noteS x g) = noteL x g := by unfold noteS; rw [if_pos hx, Ds.bl_mk]
    have hN : noteX x g = some (Ds.bl (noteS x g)) := by unfold noteX; rw [if_pos hx, hn]
    rw [hN, tl_dec]
    by_cases e : Ds.bl (noteS x g) = Ds.bl s
    · exact Or.inl ⟨by simp, decide_eq_true e, Lib.hid (by rw [e])⟩
    · exact Or.inr (Or.inl ⟨by simp, decide_eq_false e, Lib.hid (fun q => e (Option.some.inj q))⟩)
theorem dec_gn60 {b : List UInt8} {g : Fu} {c : Int} (h : decX b = some g ∧ c = 0 ∨ decX b = none ∧ g = (En.zero, [], []) ∧ c = 11) : g.1.name.size ≤ 60 := by
  rcases h with ⟨h, _⟩ | ⟨_, rfl, _⟩
  · have := (okX_name g (decX_sound _ _ h).1).1
    rw [Ds.bl_length] at this
    omega
  · decide
theorem PW.setrb {w W : World} {rb : Nat} (h : PW w W rb) (c : Array Value) : PW w (W.setRow rb c) rb := by
  have h4 := h.2.2.2.1
  exact ⟨below_setRow h.1 (by omega) _, h.2.1.set c (fun e => absurd e (by omega)), h.2.2.1.set c (fun e => absurd e (by omega)), h4, by simpa using h.2.2.2.2⟩
/-- behind the first text: the reader lies in its block -/
theorem pw_new {w W0 w1 : World} (z c : Array Value) (t : TypeId) (B : Below w.heap.size w W0) (Z : Held W0 w.heap.size 33) (Y : Held W0 (w.heap.size + 1) 33) (S : W0.heap.size = w.heap.size + 1 + 1) (hb : Below W0.heap.size W0 w1) (hz : z.size = 2) (hc : c.size = 2) :
    let W := (w1.alloc (.cells z t)).setRow w1.heap.size c
    PW w W w1.heap.size ∧ row W w1.heap.size = c ∧ Held W w1.heap.size 2 := by
  have hs := hb.size
  have P : PW w (w1.alloc (.cells z t)) w1.heap.size := ⟨(bt B hb).alloc (by omega) _, held_a _ _ _ _ (Z.below hb), held_a _ _ _ _ (Y.below hb), by omega, by simp⟩
  have H := held_m w1 z t hz
  exact ⟨P.setrb c, row_setRow H _, H.set c (fun _ => hc)⟩
/-- behind the second Decode -/
theorem FNs.two {w W2 w3 w4 : World} {rb : Nat} {x g : Fu} {al gr al2 gr2 : Value} {t t' : TypeId} (h2 : PW w W2 rb) (hb3 : Below W2.heap.size W2 w3) (hi : IS w3 al x.2.1) (hg : GS w3 gr x.2.2) (o1 : ∀ y, al.ownBlock = some y → W2.heap.size ≤ y) (o2 : ∀ y, gr.ownBlock = some y → W2.heap.size ≤ y) (hx : x.1.name.size ≤ 60)
    (hb4 : Below (w3.alloc (.cells (x.1.vals al gr) t)).heap.size (w3.alloc (.cells (x.1.vals al gr) t)) w4) (hi2 : IS w4 al2 g.2.1) (hg2 : GS w4 gr2 g.2.2) (o3 : ∀ y, al2.ownBlock = some y → (w3.alloc (.cells (x.1.vals al gr) t)).heap.size ≤ y) (o4 : ∀ y, gr2.ownBlock = some y → (w3.alloc (.cells (x.1.vals al gr) t)).heap.size ≤ y) (hgn : g.1.name.size ≤ 60) :
    FNs w (w4.alloc (.cells (g.1.vals al2 gr2) t')) rb w3.heap.size w4.heap.size x g al gr al2 gr2 := by
  have P3 := h2.below hb3
  have P4 := ((P3.alloc (.cells (x.1.vals al gr) t)).below hb4).alloc (.cells (g.1.vals al2 gr2) t')
  have z3 := hb3.size
  have z4 := hb4.size
  have zr := h2.2.2.2.1
  have zl := h2.lt
  simp at z4 o3 o4
  have b5 : Below w4.heap.size w4 (w4.alloc (.cells (g.1.vals al2 gr2) t')) := (Below.refl _ _).alloc (Nat.le_refl _) _
  have b3 : Below w3.heap.size w3 (w4.alloc (.cells (g.1.vals al2 gr2) t')) := bt (((Below.refl _ _).alloc (Nat.le_refl _) _).trans (hb4.mono (by simp))) b5
  refine ⟨P4, ?_, row_new _ _ _ _, hi.below b3, hg.below b3, hi2.below b5, hg2.below b5, by omega, by omega, by omega, by omega, fun y h => by have := o1 y h; omega, fun y h => by have := o2 y h; omega, fun y h => by have := o3 y h; omega, fun y h => by have := o4 y h; omega⟩
  exact row_below b5 (row_below hb4 (row_new w3 _ _ _) (by rw [vals_size]; decide)) (by rw [vals_size]; decide)
attribute [local go_sem ↓] ldEnt stEntRow ldRd stRd
attribute [local go_sem ↓ high] stEnt
attribute [local go_sem] Held_drew isHead_mk headOf_mk cellsOfV_mk isAggV_mk row_new row_new2 row_new2' row_drew row_drewN vals_size allOne_nil allOne_cons one_int one_bool one_string one_pointer one_slice hm_n
theorem rn_parse (s : ByteArray) (w : World) (hs : s.size ≤ 1000) :
    Calls Tryz.prog 54 #[.string s] w fun r w' => ParR w w' (Ds.bl s) r := by
  obtain ⟨a, b, r1, r2, e1, e2, l1, hP⟩ := ref_parts (Ds.bl s)
  rw [Ds.bl_length] at l1
  have HA := Lib.hid (fun (W : World) => ry_text s 0 200 W (by omega) (by decide))
  rw [e1] at HA
  have HB := Lib.hid (fun (t : ByteArray) (ht : Ds.bl t = r1.1) (W : World) => by
    have := ry_text t r1.2 200 W (by rw [← Ds.bl_length, ht]; omega) (by decide)
    rw [ht, show (r1.1, r1.2) = r1 from rfl, e2] at this
    exact this)
  simp only [show (((200 : Nat) : Int)) = (200 : Int) from rfl, show (((0 : Nat) : Int)) = (0 : Int) from rfl] at HA HB
  have HE := Lib.hid (fun (t : ByteArray) (ht : Ds.bl t = r2.1) (W : World) => by
    have := ry_end t r2.2 W
    rw [ht] at this
    exact this)
  have HPX := Lib.hid hP
  clear hP e1 e2
  have HZ : Held ((w.alloc (.cells (zlit 0 ⟨#[]⟩) 27)).alloc (.cells (zlit 0 ⟨#[]⟩) 27)) (w.heap.size + 1) 33 := by
    have := Held.new (w.alloc (.cells (zlit 0 ⟨#[]⟩) 27)) (zlit 0 ⟨#[]⟩) 27 33 rfl (by decide)
    simpa using this
  have HY : Held ((w.alloc (.cells (zlit 0 ⟨#[]⟩) 27)).alloc (.cells (zlit 0 ⟨#[]⟩) 27)) w.heap.size 33 := (Held.new w (zlit 0 ⟨#[]⟩) 27 33 rfl (by decide)).below ((Below.refl _ _).alloc (Nat.le_refl _) _)
  have B0 : Below w.heap.size w ((w.alloc (.cells (zlit 0 ⟨#[]⟩) 27)).alloc (.cells (zlit 0 ⟨#[]⟩) 27)) := by (repeat (first | exact Below.refl _ _ | assumption | (refine Below.drew ?_) | (refine Below.alloc ?_ (by first | (simp; done) | (simp; omega) | omega) _) | (refine Below.setCell ?_ (by first | (simp; done) | (simp; omega) | omega) _)))
  have s0 : ((w.alloc (.cells (zlit 0 ⟨#[]⟩) 27)).alloc (.cells (zlit 0 ⟨#[]⟩) 27)).heap.size = w.heap.size + 1 + 1 := by simp
  unfold zlit at HZ HY B0 s0
  go_enter Tryz.func54, Tryz.ntmps54
  go_upto_region 1 with fail
  generalize hW : ((w.alloc _).alloc _) = W0 at HZ HY B0 s0 ⊢
  clear hW
  have S0 := Lib.hid s0
  have Z0 := Lib.hid HY
  have Y0 := Lib.hid HZ
  have B00 := Lib.hid B0
  clear HY HZ s0 B0
  go_upto_region 2 with (go_at_call 128; (with_reducible refine (HA.out _).mono ?_); rintro _ w1 ⟨ta, t1, rfl, hta, ht1, hb⟩; have HTA := Lib.hid hta; have HT1 := Lib.hid ht1; have HB1 := Lib.hid hb; clear hta ht1 hb)
  generalize hW : World.setRow _ _ _ = W1
  obtain ⟨P1, R1, K1⟩ : PW w W1 w1.heap.size ∧ row W1 w1.heap.size = #[.string t1, .int .i64 (r1.2 : Int)] ∧ Held W1 w1.heap.size 2 := by rw [← hW]; exact pw_new _ _ _ B00.out Z0.out Y0.out S0.out HB1.out rfl rfl
  clear hW
  have HP1 := Lib.hid P1
  clear P1 B00 Z0 Y0 S0 HB1 HA
  generalize w1.heap.size = rb at HP1 R1 K1 ⊢
  go_upto_region 3 with (go_at_call 128; (with_reducible refine (HB.out t1 HT1.out _).mono ?_); rintro _ w2 ⟨tb, t2, rfl, htb, ht2, hb⟩; have HTB := Lib.hid htb; have HT2 := Lib.hid ht2; have K2 := K1.below hb; have HP2 := Lib.hid ((HP1.out.below hb).setrb #[.string t2, .int .i64 (r2.2 : Int)]); clear htb ht2 hb)
  generalize hW : World.setRow _ _ _ = W2 at HP2
  obtain ⟨R2, K3⟩ : row W2 rb = #[.string t2, .int .i64 (r2.2 : Int)] ∧ Held W2 rb 2 := by rw [← hW]; exact ⟨row_setRow K2 _, K2.set _ (fun _ => rfl)⟩
  clear hW K1 K2 R1 HP1 HB HT1
  have HD1 := Lib.hid (fun W => rdec_any ta W)
  have HD2 := Lib.hid (fun W => rdec_any tb W)
  rw [HTA.out] at HD1
  rw [HTB.out] at HD2
  have HC1 := Lib.hid HTA.out
  clear HC1
  go_upto_region 5 with (first
    | (go_at_call 23; have b6 := D3; clear b6; (with_reducible refine (HD2.out _).mono ?_); rintro _ w4 ⟨g, al2, gr2, d, rfl, hI, hG, hb, hcase, ho1, ho2⟩; have hone2 := vals_one g.1 al2 gr2 (is_one hI) (gs_one hG); have FN := Lib.hid (FNs.two (t := 27) (t' := 27) HP2.out D3.out.1 D3.out.2.1 D3.out.2.2.1 D3.out.2.2.2.1 D3.out.2.2.2.2.1 (dec_gn60 D3.out.2.2.2.2.2) hb hI hG ho1 ho2 (dec_gn60 hcase)); have HN6 := Lib.hid (And.intro (dec_gn60 D3.out.2.2.2.2.2) (dec_gn60 hcase)); have HQ := Lib.hid (HPX.out x g c d D3.out.2.2.2.2.2 hcase); have R4 := row_below hb R3 (Nat.zero_lt_succ 1); clear hI hG hb hcase ho1 ho2)
    | (go_at_call 23; (with_reducible refine (HD1.out _).mono ?_); rintro _ w3 ⟨x, al, gr, c, rfl, hI, hG, hb, hcase, ho1, ho2⟩; have hone := vals_one x.1 al gr (is_one hI) (gs_one hG); have D3 := Lib.hid (And.intro hb (And.intro hI (And.intro hG (And.intro ho1 (And.intro ho2 hcase))))); have R3 := row_a2 _ (.cells (x.1.vals al gr) 27) _ (K3.below hb); rw [row_below hb R2 (Nat.zero_lt_succ 1)] at R3; clear hI hG hb hcase ho1 ho2))
  have R5 := row_below ((Below.refl w4.heap.size w4).alloc (Nat.le_refl _) (.cells (g.1.vals al2 gr2) 27)) R4 (Nat.zero_lt_succ 1)
  clear D3 HD1 HD2 R2 R3 R4 K3 HPX HP2 HTA HTB
  generalize w4.alloc _ = W6 at FN R5 ⊢
  have rX := FN.out.rx
  have rG := FN.out.rg
  have HN := Lib.hid (fun W (B : Below W6.heap.size W6 W) => rn_note3 x g al gr al2 gr2 s W HN6.out.1 HN6.out.2 (FN.out.ix.below B) (FN.out.gx.below B) (FN.out.ig.below B) (FN.out.gg.below B))
  go_upto_region 6 with (go_at_call 52; (with_reducible refine (HN.out _ (Below.refl _ _)).mono ?_); rintro _ w8 ⟨t, code, rfl, hb, hcase⟩; have R8 := row_below hb R5 (Nat.zero_lt_succ 1); have F8 := Lib.hid (FN.out.below hb); have rX8 := F8.out.rx; have rG8 := F8.out.rg; clear hb)
  clear R5 rX rG FN HN
  generalize hn : Rd.fin (r2.1, r2.2) = n at HE
  have HFN := Lib.hid (show Rd.fin r2 = n from hn)
  clear hn
  have hcs : ((code = 0 ∧ (t.toList == s.toList) = true ∧ (t.toList != s.toList) = false ∧ ((n : Int) == 0) = true ∧ ((n : Int) != 0) = false ∧ Hid (parseX (Ds.bl s) = some (x, g))) ∨ (Hid (parseX (Ds.bl s) = none) ∧ ((((n : Int) == 0) = false ∧ ((n : Int) != 0) = true) ∨ (code = 1 ∧ ((n : Int) == 0) = true ∧ ((n : Int) != 0) = false) ∨ (code = 0 ∧ (t.toList == s.toList) = false ∧ (t.toList != s.toList) = true ∧ ((n : Int) == 0) = true ∧ ((n : Int) != 0) = false)))) := by
    have hQ := HQ.out
    rw [HFN.out] at hQ
    by_cases hn0 : n = 0
    · subst hn0
      rcases hcase with ⟨rfl, ht, hh⟩ | ⟨rfl, ht, hh⟩ | ⟨rfl, hh⟩
      · exact Or.inl ⟨rfl, ht, by simp [bne, ht], rfl, rfl, Lib.hid (hQ.1 rfl hh.out)⟩
      · exact Or.inr ⟨Lib.hid (hQ.2 (fun q => hh.out q.2)), Or.inr (Or.inr ⟨rfl, ht, by simp [bne, ht], rfl, rfl⟩)⟩
      · exact Or.inr ⟨Lib.hid (hQ.2 (fun q => hh.out q.2)), Or.inr (Or.inl ⟨rfl, rfl, rfl⟩)⟩
    · have e : ((n : Int) == 0) = false := by rw [beq_eq_false_iff_ne]; omega
      exact Or.inr ⟨Lib.hid (hQ.2 (fun q => hn0 q.1)), Or.inl ⟨e, by simp [bne, e]⟩⟩
  clear hcase HQ HFN
  have hX8 := F8.out.onex
  have hG8 := F8.out.oneg
  rcases hcs with ⟨rfl, q1, q2, q3, q4, hp⟩ | ⟨hp, hcs⟩
  rotate_left
  · rcases hcs with ⟨q3, q4⟩ | ⟨rfl, q3, q4⟩ | ⟨rfl, q1, q2, q3, q4⟩
    all_goals
      go_upto_region 7 with (go_at_call 92; (with_reducible refine (HE.out t2 HT2.out _).mono ?_); rintro _ w9 ⟨rfl, hb⟩; have F9 := Lib.hid (F8.out.below hb); clear hb)
      have k1 := F9.out.pw.r0
      have k2 : ∀ c, Held (w9.setRow w.heap.size c) (w.heap.size + 1) 33 := fun c => F9.out.pw.r1.set c (fun e => absurd e (by omega))
      have T := two_a F9.out.pw (zlit 0 ⟨#[]⟩) (zlit 0 ⟨#[]⟩) rfl
      unfold zlit at T
      have HT := Lib.hid T
      clear T
      go_wp2_with fail
      refine bodyPost_ret (res_rr_tmp (n := 32) (n' := 32) rfl Tryz.underlying27 rfl (by kernel_rfl) Tryz.underlying27 rfl (by kernel_rfl) _ _ w.heap.size (w.heap.size + 1) rfl rfl (by rw [HT.out.1]; rfl) (by rw [HT.out.2.1]; rfl)) rfl ?_
      rw [HT.out.1, HT.out.2.1]
      exact ParR.bad (hp.out) HT.out.2.2.1
  have z1 := F8.out.pp
  have z2 := F8.out.qq
  go_upto_region 8 with (go_at_call 92; (with_reducible refine (HE.out t2 HT2.out _).mono ?_); rintro _ w9 ⟨rfl, hb⟩; have F9 := Lib.hid (F8.out.below hb); have rX9 := F9.out.rx; have rG9 := F9.out.rg; have k1 := F9.out.pw.r0; clear hb)
  have HP4 : P4 w9.drew w.heap.size w3.heap.size w4.heap.size _ _ := F9.out.p4
  go_region_held3 (fun w' => row w' w3.heap.size = x.1.vals al gr ∧ row w' w4.heap.size = g.1.vals al2 gr2 ∧ Held w' w.heap.size 33 ∧ Held w' (w.heap.size + 1) 33) (first | assumption | exact HP4 | exact P4.set (by assumption) _ (vals_size _ _ _) z1 z2 (Or.inl rfl) | exact P4.set (by assumption) _ (vals_size _ _ _) z1 z2 (Or.inr rfl)) (fail)
  have FD := F9.out.below (Below.drew (Below.refl w9.heap.size w9))
  have TA := Lib.hid (two_a FD.pw (x.1.vals al gr) (g.1.vals al2 gr2) (vals_size _ _ _))
  have TB := Lib.hid (two_b FD.pw (x.1.vals al gr) (g.1.vals al2 gr2) (vals_size _ _ _))
  all_goals
    go_wp2_with fail
    first
    | (refine bodyPost_ret (res_rr_tmp (n := 32) (n' := 32) rfl Tryz.underlying27 rfl (by kernel_rfl) Tryz.underlying27 rfl (by kernel_rfl) _ _ w.heap.size (w.heap.size + 1) rfl rfl (by rw [TA.out.1]; exact vals_size _ _ _) (by rw [TA.out.2.1]; exact vals_size _ _ _)) rfl ?_
       rw [TA.out.1, TA.out.2.1]
       exact FD.done TA.out hp.out)
    | (refine bodyPost_ret (res_rr_tmp (n := 32) (n' := 32) rfl Tryz.underlying27 rfl (by kernel_rfl) Tryz.underlying27 rfl (by kernel_rfl) _ _ w.heap.size (w.heap.size + 1) rfl rfl (by rw [TB.out.1]; exact vals_size _ _ _) (by rw [TB.out.2.1]; exact vals_size _ _ _)) rfl ?_
       rw [TB.out.1, TB.out.2.1]
       exact FD.done TB.out hp.out)
end Go.Proofs.YtkmhegogiadjfaaGreatDoor

end
