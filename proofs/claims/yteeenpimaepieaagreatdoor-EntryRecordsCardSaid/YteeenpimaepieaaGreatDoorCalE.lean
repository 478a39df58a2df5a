/- Contracts of Format (the program's and the reference's). -/
import Derived.Test.YteeenpimaepieaaGreatDoorCalA
import Derived.Test.YteeenpimaepieaaGreatDoorTxtA
import Derived.Test.YteeenpimaepieaaGreatDoorCal
namespace Go.Proofs.YteeenpimaepieaaGreatDoor
open Go.RowKit
set_option maxHeartbeats 400000

theorem itoa_100 (m : Nat) (w : World) (hm : m ≤ 99) (hT : Tab w) :
    Calls Tryz.prog 79 #[.int .i64 ((m : Int) + 100)] w fun e w' => e = .returned (.string ⟨#[49, UInt8.ofNat (48 + m / 10 ^ 1 % 10), UInt8.ofNat (48 + m / 10 ^ 0 % 10)]⟩) ∧ Below w.heap.size w w' := by
  have hi := itoa_d 2 (m + 100) w (by omega) (by omega) (by omega) hT
  have e : Cal.ld (m + 100) 3 = [49, UInt8.ofNat (48 + m / 10 ^ 1 % 10), UInt8.ofNat (48 + m / 10 ^ 0 % 10)] := by
    rw [Cal.ld, Cal.ld_mod (m + 100) m 2 (by omega)]
    rw [show (m + 100) / 10 ^ 2 % 10 = 1 by omega]
    rfl
  rwa [e] at hi
theorem two (m : Nat) (w : World) (hm : m ≤ 99) (hT : Tab w) :
    Calls Tryz.prog 168 #[.int .i64 m] w fun e w' => e = .returned (.string ⟨(Cal.ld m 2).toArray⟩) ∧ Below w.heap.size w w' := by
  go_enter Tryz.func168, Tryz.ntmps168
  go_wp2_with (go_at_call 79; (with_reducible refine (itoa_100 _ _ hm hT).mono ?_); rintro e w1 ⟨rfl, hb⟩)
  go_ret
  exact ⟨ret_str (ByteArray.ext (by simp [Cal.ld])), hb⟩
theorem two_i (z : Int) (w : World) (h0 : 0 ≤ z) (h1 : z ≤ 99) (hT : Tab w) :
    Calls Tryz.prog 168 #[.int .i64 z] w fun e w' => e = .returned (.string ⟨(Cal.ld z.toNat 2).toArray⟩) ∧ Below w.heap.size w w' := by
  have e : z = ((z.toNat : Nat) : Int) := by omega
  rw [e]; simp only [Int.toNat_natCast]
  exact two z.toNat w (by omega) hT
theorem itoa_y (z : Int) (w : World) (h0 : 1000 ≤ z) (h1 : z ≤ 9999) (hT : Tab w) :
    Calls Tryz.prog 79 #[.int .i64 z] w fun e w' => e = .returned (.string ⟨(Cal.ld z.toNat 4).toArray⟩) ∧ Below w.heap.size w w' := by
  have e : z = ((z.toNat : Nat) : Int) := by omega
  rw [e]; simp only [Int.toNat_natCast]
  exact itoa_d 3 z.toNat w (by omega) (by omega) (by omega) hT

theorem format_any (n : Int) (w : World) (hT : Tab w) :
    Calls Tryz.prog 81 #[.int .i64 n] w fun e w' => e = .returned (.string ⟨(Cal.fmt n).toArray⟩) ∧ Below w.heap.size w w' := by
  cases h : Cal.isDay n with
  | false =>
    go_enter Tryz.func81, Tryz.ntmps81
    go_wp2_with (go_at_call 166; (with_reducible refine (isDay _ _).mono ?_); rintro e w' ⟨rfl, rfl⟩)
    go_ret
    exact ⟨by rw [Cal.fmt_no n h]; rfl, Below.refl _ _⟩
  | true =>
    have yr := Cal.dY_range n h
    obtain ⟨⟨m1, m2, d1, d2⟩, -⟩ := Cal.date_vld n h
    have dl := Cal.days_lo (Cal.dY n) (Cal.dM n)
    have ly := Cal.ld_length (Cal.dY n).toNat 4
    have lm := Cal.ld_length (Cal.dM n).toNat 2
    have ldd := Cal.ld_length (Cal.dD n).toNat 2
    have B := Below.refl w.heap.size w
    go_enter Tryz.func81, Tryz.ntmps81
    go_wp2_with (first | (go_at_call 166; (with_reducible refine (isDay _ _).mono ?_); rintro e w' ⟨rfl, rfl⟩) | (go_at_call 167; (with_reducible refine (date_any _ _).mono ?_); rintro e w1 ⟨rfl, hb⟩; have hT := Tab.below hT hb; have B := Below.trans B (hb.mono B.size); clear hb) | (go_at_call 79; (with_reducible refine (itoa_y _ _ (by omega) (by omega) hT).mono ?_); rintro e w1 ⟨rfl, hb⟩; have hT := Tab.below hT hb; have B := Below.trans B (hb.mono B.size); clear hb) | (go_at_call 168; (with_reducible refine (two_i _ _ (by omega) (by omega) hT).mono ?_); rintro e w1 ⟨rfl, hb⟩; have hT := Tab.below hT hb; have B := Below.trans B (hb.mono B.size); clear hb))
    go_ret
    exact ⟨ret_str (by rw [Cal.fmt_yes n h]; apply ByteArray.ext; simp), B⟩

theorem dig2_i (z : Int) (w : World) (h0 : 0 ≤ z) (h1 : z ≤ 99) :
    Calls Tryz.prog 244 #[.int .i64 z, .int .i64 2] w fun e w' => e = .returned (.string ⟨(Cal.ld z.toNat 2).toArray⟩) ∧ Below w.heap.size w w' := by
  have e : z = ((z.toNat : Nat) : Int) := by omega
  rw [e]; simp only [Int.toNat_natCast]
  exact digits_any z.toNat 2 2 w (by omega) (by omega) (by omega) (by omega)
theorem dig4_i (z : Int) (w : World) (h0 : 0 ≤ z) (h1 : z ≤ 9999) :
    Calls Tryz.prog 244 #[.int .i64 z, .int .i64 4] w fun e w' => e = .returned (.string ⟨(Cal.ld z.toNat 4).toArray⟩) ∧ Below w.heap.size w w' := by
  have e : z = ((z.toNat : Nat) : Int) := by omega
  rw [e]; simp only [Int.toNat_natCast]
  exact digits_any z.toNat 4 4 w (by omega) (by omega) (by omega) (by omega)

theorem refformat_any (n : Int) (w : World) :
    Calls Tryz.prog 243 #[.int .i64 n] w fun e w' => e = .returned (.string ⟨(Cal.fmt n).toArray⟩) ∧ Below w.heap.size w w' := by
  cases h : Cal.isDay n with
  | false =>
    go_enter Tryz.func243, Tryz.ntmps243
    go_wp2_with (go_at_call 66; (with_reducible refine (refIsDay _ _).mono ?_); rintro e w' ⟨rfl, rfl⟩)
    go_ret
    exact ⟨by rw [Cal.fmt_no n h]; rfl, Below.refl _ _⟩
  | true =>
    have yr := Cal.dY_range n h
    obtain ⟨⟨m1, m2, d1, d2⟩, -⟩ := Cal.date_vld n h
    have dl := Cal.days_lo (Cal.dY n) (Cal.dM n)
    have ly := Cal.ld_length (Cal.dY n).toNat 4
    have lm := Cal.ld_length (Cal.dM n).toNat 2
    have ldd := Cal.ld_length (Cal.dD n).toNat 2
    have B := Below.refl w.heap.size w
    go_enter Tryz.func243, Tryz.ntmps243
    go_wp2_with (first | (go_at_call 66; (with_reducible refine (refIsDay _ _).mono ?_); rintro e w' ⟨rfl, rfl⟩) | (go_at_call 283; (with_reducible refine (refdate_any _ _).mono ?_); rintro e w1 ⟨rfl, hb⟩; have B := Below.trans B (hb.mono B.size); clear hb) | (go_at_call 244; (with_reducible refine (dig4_i _ _ (by omega) (by omega)).mono ?_); rintro e w1 ⟨rfl, hb⟩; have B := Below.trans B (hb.mono B.size); clear hb) | (go_at_call 244; (with_reducible refine (dig2_i _ _ (by omega) (by omega)).mono ?_); rintro e w1 ⟨rfl, hb⟩; have B := Below.trans B (hb.mono B.size); clear hb))
    go_ret
    exact ⟨ret_str (by rw [Cal.fmt_yes n h]; apply ByteArray.ext; simp), B⟩
end Go.Proofs.YteeenpimaepieaaGreatDoor
