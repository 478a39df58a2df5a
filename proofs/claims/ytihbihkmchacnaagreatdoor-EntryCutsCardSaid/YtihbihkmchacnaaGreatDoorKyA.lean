/- Contracts: strings.TrimRight at blanks; package entry: Key. -/
import Derived.Test.YtihbihkmchacnaaGreatDoorEk
import Derived.Test.YtihbihkmchacnaaGreatDoorBoA
import Derived.Test.YtihbihkmchacnaaGreatDoorFoA
import Derived.Test.YtihbihkmchacnaaGreatDoorShelf
import Derived.Lib.Repeat
import Derived.Deep.RegionLaw
import Derived.Laws.EntriesVeiled
namespace Go.Proofs.YtihbihkmchacnaaGreatDoor
open Go.RowKit
set_option maxHeartbeats 800000
set_option maxRecDepth 4000
theorem u8_32 (c : UInt8) : ((c.toNat : Int) == 32) = decide (c = 32) := by
  rw [Bool.eq_iff_iff, beq_iff_eq, decide_eq_true_eq]
  constructor
  · intro h; exact UInt8.toNat_inj.1 (by show c.toNat = 32; omega)
  · rintro rfl; rfl
theorem trim_byte (s : ByteArray) (w : World) (hs : s.size ≤ 1000) :
    Calls Tryz.prog 161 #[.string s, .int .u8 32] w fun e w' => ∃ t, e = .returned (.string t) ∧ Ds.bl t = Ek.trim (Ds.bl s) ∧ w' = w := by
  go_enter Tryz.func161, Tryz.ntmps161
  go_wp2_with fail
  go_loopw [0] (fun v wr => ∃ (j : Nat) (t : ByteArray), j ≤ s.size ∧ v = .string t ∧ Ds.bl t = (Ds.bl s).take j ∧ Ek.tlen (Ds.bl s) s.size = Ek.tlen (Ds.bl s) j ∧ wr = w) (fun v _ => match v with | .string t => t.size | _ => 0)
  case atStart => exact ⟨s.size, s, Nat.le_refl _, rfl, by rw [← Ds.bl_length, List.take_length], rfl, rfl⟩
  case round =>
    obtain ⟨j, t, hj, rfl, ht, he, rfl⟩ := hrel
    have hz : t.size = j := by rw [← Ds.bl_length, ht, List.length_take, Ds.bl_length]; omega
    by_cases h0 : 0 < j
    · have hlt : j - 1 < t.size := by omega
      have hb := Ds.bl_get t (j - 1) hlt
      have hc : (Ds.bl s)[j - 1]? = some t[j - 1] := by
        have h1 : (Ds.bl t)[j - 1]? = (Ds.bl s)[j - 1]? := by rw [ht, List.getElem?_take_of_lt (by omega)]
        rw [← h1, List.getElem?_eq_getElem (by rw [Ds.bl_length]; exact hlt), hb]
      obtain ⟨i, rfl⟩ : ∃ i, j = i + 1 := ⟨j - 1, by omega⟩
      simp only [Nat.add_sub_cancel] at hlt hb hc
      have hx := u8_32 t[i]
      have HT := Lib.hid ht
      have HE := Lib.hid he
      have HC := Lib.hid hc
      clear ht he hc hb
      by_cases h32 : t[i] = 32
      · rw [decide_eq_true h32] at hx
        have H32 := Lib.hid h32
        clear h32
        go_wp2_with fail
        go_roundw
        case rel =>
          refine ⟨i, t.extract 0 i, by omega, by go_num, ?_, ?_, trivial⟩
          · unfold Ds.bl at *
            rw [ByteArray.data_extract]
            simp [HT.out, List.take_take]
          · rw [HE.out]; exact Ek.tlen_yes _ _ (by rw [HC.out, H32.out])
        case measure => simp; omega
      · rw [decide_eq_false h32] at hx
        have H32 := Lib.hid h32
        clear h32
        go_wp2_with fail
        go_ret
        refine ⟨t, rfl, ?_, rfl⟩
        unfold Ek.trim
        rw [Ds.bl_length, HE.out, Ek.tlen_no _ _ (by rw [HC.out]; intro e; exact H32.out (Option.some.inj e))]
        exact HT.out
    · obtain rfl : j = 0 := by omega
      have HT := Lib.hid ht
      have HE := Lib.hid he
      clear ht he
      go_wp2_with fail
      go_ret
      refine ⟨t, rfl, ?_, rfl⟩
      unfold Ek.trim
      rw [Ds.bl_length, HE.out]
      exact HT.out
theorem trim_right (s : ByteArray) (w : World) (hs : s.size ≤ 1000) :
    Calls Tryz.prog 79 #[.string s, .string ⟨#[32]⟩] w fun e w' => ∃ t, e = .returned (.string t) ∧ Ds.bl t = Ek.trim (Ds.bl s) ∧ w' = w := by
  by_cases h0 : s.size = 0
  · have e0 : s.toList.isEmpty = true := isEmpty_nil _ h0
    go_enter Tryz.func79, Tryz.ntmps79
    go_wp2_with fail
    go_ret
    refine ⟨s, rfl, ?_, rfl⟩
    have : Ds.bl s = [] := List.length_eq_zero_iff.1 (by rw [Ds.bl_length]; exact h0)
    rw [this]; rfl
  · have e0 : s.toList.isEmpty = false := isEmpty_of _ (by omega)
    have ht := fun W => trim_byte s W hs
    clear h0
    go_enter Tryz.func79, Tryz.ntmps79
    go_wp2_with (go_at_call 161; (refine (ht _).mono ?_); rintro e w2 ⟨t, rfl, hb, rfl⟩; have HB := Lib.hid hb; clear hb)
    go_ret
    exact ⟨t, rfl, HB.out, rfl⟩
theorem form_at (k : Int) (h : 0 ≤ k ∧ k ≤ 4) : ∃ A K B : Nat, Instr.findNow (.int .i64) (.int .i64 k) fe5.toList 0 = some (some (k.toNat, .agg (formV ((Ek.letter k).toNat : Nat) A K B))) := by
  rcases (by omega : k = 0 ∨ k = 1 ∨ k = 2 ∨ k = 3 ∨ k = 4) with rfl | rfl | rfl | rfl | rfl
  · exact ⟨46, 126, 127, rfl⟩
  · exact ⟨128, 129, 133, rfl⟩
  · exact ⟨136, 138, 139, rfl⟩
  · exact ⟨140, 142, 144, rfl⟩
  · exact ⟨101, 145, 146, rfl⟩
theorem form_no (k : Int) (h : ¬ (0 ≤ k ∧ k ≤ 4)) : Instr.findNow (.int .i64) (.int .i64 k) fe5.toList 0 = some none := by
  have h0 : (k == 0) = false := by rw [beq_eq_false_iff_ne]; omega
  have h1 : (k == 1) = false := by rw [beq_eq_false_iff_ne]; omega
  have h2 : (k == 2) = false := by rw [beq_eq_false_iff_ne]; omega
  have h3 : (k == 3) = false := by rw [beq_eq_false_iff_ne]; omega
  have h4 : (k == 4) = false := by rw [beq_eq_false_iff_ne]; omega
  simp [Instr.findNow, Instr.sameNow, fe5, h0, h1, h2, h3, h4]
theorem repeatL_one (c : UInt8) : ∀ n, Lib.repeatL [c] n = List.replicate n c
  | 0 => rfl
  | n + 1 => by rw [Lib.repeatL, repeatL_one c n]; rfl
theorem rep_blank (s : ByteArray) (hs : s.size ≤ 31) (W : World) : Calls Tryz.prog 33 #[.string ⟨#[32]⟩, .int .i64 (31 - (s.size : Int))] W fun e w' => ∃ t, e = .returned (.string t) ∧ Ds.bl t = List.replicate (31 - s.size) 32 ∧ t.size ≤ 31 ∧ Below W.heap.size W w' := by
  have h := Tryz.strings_Repeat ⟨#[32]⟩ (31 - s.size) W (by omega) (by show 1 * (31 - s.size) ≤ _; omega)
  rw [show ((31 - s.size : Nat) : Int) = 31 - (s.size : Int) by omega] at h
  refine h.mono ?_
  rintro e w' ⟨rfl, hb⟩
  have hq : Ds.bl ⟨(Lib.repeatL (⟨#[32]⟩ : ByteArray).data.toList (31 - s.size)).toArray⟩ = List.replicate (31 - s.size) 32 := by rw [Ds.bl_mk]; exact repeatL_one 32 _
  refine ⟨_, rfl, hq, ?_, hb⟩
  rw [← Ds.bl_length, hq, List.length_replicate]; omega
theorem conv_at (c : UInt8) (W : World) (b : Nat) (h : W.cell? ⟨b, 0, none⟩ = some (.int .u8 (c.toNat : Nat))) :
    (convert 46 9 (.slice (some ⟨b, 0, none⟩) 1 1)).run Tryz.prog W = .ok (.string ⟨#[c]⟩) W := by
  refine run_convert_bytes_back (P := Tryz.prog) W 46 9 5 ⟨b, 0, none⟩ 1 [c] Tryz.underlying46 Tryz.underlying5 Tryz.underlying9 ?_
  intro j hj
  obtain rfl : j = 0 := by simpa using hj
  simpa [Addr.add] using h
theorem slice_kept {X w2 : World} {v : Value} {t : TypeId} (hb : Below ((X.alloc (.cells #[v] t)).drew).heap.size ((X.alloc (.cells #[v] t)).drew) w2) : w2.cell? ⟨X.heap.size, 0, none⟩ = some v := by
  rw [hb.cell (p := ⟨X.heap.size, 0, none⟩) (by show X.heap.size < _; simp)]
  show (X.alloc (.cells #[v] t)).cell? ⟨X.heap.size, 0, none⟩ = _
  rw [cell_of_row _ X.heap.size 0 _ t (0, 0) (heap_alloc_new X _)]; rfl
theorem en_key (k : Int) (s : ByteArray) (w : World) :
    Calls Tryz.prog 21 #[.int .i64 k, .string s] w fun r w' => ∃ t, r = .returned (.string t) ∧ Ds.bl t = Ek.key k (Ds.bl s) ∧ Below w.heap.size w w' := by
  by_cases hk : 0 ≤ k ∧ k ≤ 4
  · obtain ⟨A, K, B, hf⟩ := form_at k hk
    have hl := lk_at (w.alloc (.map fe5 5)) w.heap.size k _ _ (heap_alloc_new w _) hf
    have hi : Ek.isKind k = true := by unfold Ek.isKind; simp; omega
    unfold formV at hl
    by_cases h31 : s.size ≤ 31
    · have hr := rep_blank s h31
      have D := Lib.hid (Ek.key_yes k (Ds.bl s) hk (by rw [Ds.bl_length]; exact h31))
      have HR := Lib.hid hr
      clear hr hf hk hi
      generalize hc : Ek.letter k = c at hl D
      clear hc
      have hcv := conv_at c
      have l1 : ¬ 9223372036854775807 < 1 + s.size := by omega
      have hw31 : IntKind.i64.wrap (31 - (s.size : Int)) = 31 - (s.size : Int) := IntWalk.i64_in _ ⟨by omega, by omega⟩
      go_enter Tryz.func21, Tryz.ntmps21
      go_wp2_with (go_at_call 48; (with_reducible refine (fo_forms _).mono ?_); rintro _ w1 ⟨rfl, rfl⟩)
      go_region_law (first | (go_simp; go_at_call 33; (with_reducible refine (HR.out _).mono ?_); rintro _ w2 ⟨t, rfl, ht, hz, hb⟩; have HT := Lib.hid ht; have l2 : ¬ 9223372036854775807 < 1 + s.size + t.size := (by omega); have B2 := Below.trans (show Below w.heap.size w _ by (repeat (first | exact Below.refl _ _ | assumption | (refine Below.drew ?_) | (refine Below.alloc ?_ (by first | (simp; done) | (simp; omega) | omega) _) | (refine Below.setCell ?_ (by first | (simp; done) | (simp; omega) | omega) _)))) (hb.mono (by simp; try omega)); have z2 := B2.size; have c1 : w2.cell? ⟨w.heap.size + 1, 0, none⟩ = some (.int .u8 (c.toNat : Nat)) := ((hb.cell (p := ⟨w.heap.size + 1, 0, none⟩) (by show w.heap.size + 1 < _; simp)).trans (by simp [go_sem])); (first | (have cb : w2.cell? ⟨w.heap.size + 1 + 1, 0, none⟩ = some (.int .u8 (c.toNat : Nat)) := (by simpa using slice_kept hb)) | skip); clear ht))
      all_goals
        go_wp2
        go_ret
        refine ⟨_, rfl, ?_, by (repeat (first | exact Below.refl _ _ | assumption | (refine Below.drew ?_) | (refine Below.alloc ?_ (by first | (simp; done) | (simp; omega) | omega) _) | (refine Below.setCell ?_ (by first | (simp; done) | (simp; omega) | omega) _)))⟩
        rw [D.out]
        unfold Ek.pad
        rw [Ds.bl_length, ← HT.out]
        simp [Ds.bl]
    · have D := Lib.hid (show Ek.key k (Ds.bl s) = [] by unfold Ek.key; rw [if_neg (by rw [Ds.bl_length]; omega)])
      clear hf hk hi
      generalize hc : Ek.letter k = c at hl
      clear hc
      go_enter Tryz.func21, Tryz.ntmps21
      go_wp2_with (go_at_call 48; (with_reducible refine (fo_forms _).mono ?_); rintro _ w1 ⟨rfl, rfl⟩)
      go_ret
      exact ⟨_, rfl, by rw [D.out]; rfl, by (repeat (first | exact Below.refl _ _ | assumption | (refine Below.drew ?_) | (refine Below.alloc ?_ (by first | (simp; done) | (simp; omega) | omega) _) | (refine Below.setCell ?_ (by first | (simp; done) | (simp; omega) | omega) _)))⟩
  · have hf := form_no k hk
    have hl := lk_none (w.alloc (.map fe5 5)) w.heap.size k _ (heap_alloc_new w _) hf form_zero
    have D := Lib.hid (show Ek.key k (Ds.bl s) = [] by unfold Ek.key Ek.isKind; rw [if_neg (by simp; omega)])
    clear hf hk
    go_enter Tryz.func21, Tryz.ntmps21
    go_wp2_with (go_at_call 48; (with_reducible refine (fo_forms _).mono ?_); rintro _ w1 ⟨rfl, rfl⟩)
    go_ret
    exact ⟨_, rfl, by rw [D.out]; rfl, by (repeat (first | exact Below.refl _ _ | assumption | (refine Below.drew ?_) | (refine Below.alloc ?_ (by first | (simp; done) | (simp; omega) | omega) _) | (refine Below.setCell ?_ (by first | (simp; done) | (simp; omega) | omega) _)))⟩
end Go.Proofs.YtihbihkmchacnaaGreatDoor
