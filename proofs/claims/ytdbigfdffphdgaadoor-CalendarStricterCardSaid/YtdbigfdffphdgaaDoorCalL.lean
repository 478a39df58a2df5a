/- Contracts of Next. -/
import Derived.Test.YtdbigfdffphdgaaDoorCalJ
import Derived.Test.YtdbigfdffphdgaaDoorKit2
namespace Go.Proofs.YtdbigfdffphdgaaDoor
open Go.RowKit
set_option maxHeartbeats 4000000

theorem loadPol (ev : Operand → Value) (w : World) (dst x t pos af gd) (h1 : isHead (ev x) = true) (h2 : (row w (headOf (ev x))).size = 3) :
    (execOp ev ⟨dst, .load 37 x, t, pos, af, gd⟩).run Tryd.prog w = .ok (.value (.agg (row w (headOf (ev x))))) w :=
  exec_load_row ev w _ 2 _ Tryd.underlying37 rfl (by kernel_rfl) dst x t pos af gd h1 h2
theorem loadEnt (ev : Operand → Value) (w : World) (dst x t pos af gd) (h1 : isHead (ev x) = true) (h2 : (row w (headOf (ev x))).size = 33) :
    (execOp ev ⟨dst, .load 43 x, t, pos, af, gd⟩).run Tryd.prog w = .ok (.value (.agg (row w (headOf (ev x))))) w :=
  exec_load_row ev w _ 32 _ Tryd.underlying43 rfl (by kernel_rfl) dst x t pos af gd h1 h2
attribute [local go_sem ↓] loadPol loadEnt
attribute [local go_sem] isHead_mk headOf_mk

theorem nextfn (ke un ac now : Int) (x0 x1 x2 x3 x4 x5 x6 x7 x8 x9 x10 x11 x12 x13 x14 x15 x16 x17 x18 x19 x23 x25 x26 x27 x28 x29 x30 x31 x32 : Value) (cr ex us : Int) (ar : Bool) (d : Int) (bp be bn : Nat) (w : World)
    (hp : row w bp = #[.int .i64 ke, .int .i64 un, .int .i64 ac]) (he : row w be = #[x0, x1, x2, x3, x4, x5, x6, x7, x8, x9, x10, x11, x12, x13, x14, x15, x16, x17, x18, x19, .int .i64 cr, .int .i64 ex, .bool ar, x23, .int .i64 us, x25, x26, x27, x28, x29, x30, x31, x32]) (hn : w.cell? ⟨bn, 0, none⟩ = some (.int .i64 now)) :
    Calls Tryd.prog 43 #[.int .i64 d, .pointer (some ⟨bp, 0, none⟩), .pointer (some ⟨be, 0, none⟩), .pointer (some ⟨bn, 0, none⟩)] w fun e w' => e = .returned (.bool (Cal.dec ke un ac cr us ex ar d != now)) ∧ Below w.heap.size w w' := by
  go_enter Tryd.func43, Tryd.ntmps43
  go_wp2_with fail
  go_region_held3 (fun w' => row w' bp = #[.int .i64 ke, .int .i64 un, .int .i64 ac] ∧ row w' be = #[x0, x1, x2, x3, x4, x5, x6, x7, x8, x9, x10, x11, x12, x13, x14, x15, x16, x17, x18, x19, .int .i64 cr, .int .i64 ex, .bool ar, x23, .int .i64 us, x25, x26, x27, x28, x29, x30, x31, x32] ∧ w'.cell? ⟨bn, 0, none⟩ = some (.int .i64 now))
    (first | exact ⟨hp, he, hn⟩ | exact ⟨row_below hb hp (by simp), row_below hb he (by simp), below_cell hb hn⟩)
    ((go_at_call 25; (with_reducible refine (decide_any ke un ac _ _ _ _ _ _ _ _ _ _ _ _ _ _ _ _ _ _ _ _ _ _ _ _ _ _ _ _ _ _ _ _ _ _ _).mono ?_); rintro e w1 ⟨rfl, hb⟩))
  go_wp2
  go_ret
  exact ⟨rfl, (Below.refl w.heap.size w).drew.trans hb⟩

/-- the first number from d on, of k numbers, of which f is true -/
theorem search_any (ke un ac now : Int) (x0 x1 x2 x3 x4 x5 x6 x7 x8 x9 x10 x11 x12 x13 x14 x15 x16 x17 x18 x19 x23 x25 x26 x27 x28 x29 x30 x31 x32 : Value) (cr ex us : Int) (ar : Bool) (from_ : Int) (bp be bn : Nat) (w : World) (hfr : 0 ≤ from_)
    (hp : row w bp = #[.int .i64 ke, .int .i64 un, .int .i64 ac]) (he : row w be = #[x0, x1, x2, x3, x4, x5, x6, x7, x8, x9, x10, x11, x12, x13, x14, x15, x16, x17, x18, x19, .int .i64 cr, .int .i64 ex, .bool ar, x23, .int .i64 us, x25, x26, x27, x28, x29, x30, x31, x32]) (hn : w.cell? ⟨bn, 0, none⟩ = some (.int .i64 now)) :
    Calls Tryd.prog 42 #[.int .i64 from_, .func (.func 43) #[] #[.pointer (some ⟨bp, 0, none⟩), .pointer (some ⟨be, 0, none⟩), .pointer (some ⟨bn, 0, none⟩)]] w fun e w' => e = .returned (.tuple #[.int .i64 (Cal.srch (fun d => Cal.dec ke un ac cr us ex ar d != now) (65537 - from_).toNat from_).1, .bool (Cal.srch (fun d => Cal.dec ke un ac cr us ex ar d != now) (65537 - from_).toNat from_).2]) ∧ Below w.heap.size w w' := by
  have HP := Lib.hid hp
  have HE := Lib.hid he
  have HN := Lib.hid hn
  clear hp he hn
  go_enter Tryd.func42, Tryd.ntmps42
  go_wp2_with fail
  go_loopw [6] (fun d wr => ∃ q : Int, from_ ≤ q ∧ Cal.srch (fun d => Cal.dec ke un ac cr us ex ar d != now) (65537 - from_).toNat from_ = Cal.srch (fun d => Cal.dec ke un ac cr us ex ar d != now) (65537 - q).toNat q ∧ d = .int .i64 q ∧ Below w.heap.size w wr) (fun d _ => (65537 - intOf d).toNat)
  case atStart => exact ⟨from_, by omega, rfl, rfl, Below.refl _ _⟩
  case round =>
    obtain ⟨q, hq, hs, rfl, hb⟩ := hrel
    have HS := Lib.hid hs
    clear hs
    have C := fun w => nextfn ke un ac now x0 x1 x2 x3 x4 x5 x6 x7 x8 x9 x10 x11 x12 x13 x14 x15 x16 x17 x18 x19 x23 x25 x26 x27 x28 x29 x30 x31 x32 cr ex us ar q bp be bn w
    have NF := Lib.hid (C wr (row_below hb HP.out (by simp)) (row_below hb HE.out (by simp)) (below_cell hb HN.out))
    clear C
    by_cases hle : q ≤ 65536
    · cases hd : (Cal.dec ke un ac cr us ex ar q != now)
      · go_wp2_with (go_at_call 43; (with_reducible refine (NF.out).mono ?_); rintro e w1 ⟨rfl, hb1⟩)
        go_roundw
        case rel => exact ⟨q + 1, by omega, HS.out.trans (Cal.srch_no _ q hle hd), rfl, bt hb hb1⟩
        case measure => simp [intOf]; omega
      · go_wp2_with (go_at_call 43; (with_reducible refine (NF.out).mono ?_); rintro e w1 ⟨rfl, hb1⟩)
        go_ret2
        exact ⟨by rw [HS.out, Cal.srch_yes _ q hle hd]; rfl, bt hb hb1⟩
    · go_wp2_with fail
      go_ret2
      exact ⟨by rw [HS.out, Cal.srch_end _ q (by omega)]; rfl, hb⟩

/-- Next: the first day from tomorrow on with another decision. -/
def nextF (ke un ac cr us ex : Int) (ar : Bool) (t : Int) : Int × Bool :=
  if Cal.isDay t = true then Cal.srch (fun d => Cal.dec ke un ac cr us ex ar d != Cal.dec ke un ac cr us ex ar t) (65537 - (t + 1)).toNat (t + 1) else (0, false)
theorem next_any (ke un ac : Int) (x0 x1 x2 x3 x4 x5 x6 x7 x8 x9 x10 x11 x12 x13 x14 x15 x16 x17 x18 x19 x23 x25 x26 x27 x28 x29 x30 x31 x32 : Value) (cr ex us : Int) (ar : Bool) (t : Int) (w : World) :
    Calls Tryd.prog 27 #[.agg #[.int .i64 ke, .int .i64 un, .int .i64 ac], .agg #[x0, x1, x2, x3, x4, x5, x6, x7, x8, x9, x10, x11, x12, x13, x14, x15, x16, x17, x18, x19, .int .i64 cr, .int .i64 ex, .bool ar, x23, .int .i64 us, x25, x26, x27, x28, x29, x30, x31, x32], .int .i64 t] w fun e w' => e = .returned (.tuple #[.int .i64 (nextF ke un ac cr us ex ar t).1, .bool (nextF ke un ac cr us ex ar t).2]) ∧ Below w.heap.size w w' := by
  unfold nextF
  cases h : Cal.isDay t
  · go_enter Tryd.func27, Tryd.ntmps27
    go_wp2_with (go_at_call 30; (with_reducible refine (isDay _ _).mono ?_); rintro e w' ⟨rfl, rfl⟩)
    go_ret2
    exact ⟨by simp, by (repeat (first | exact Below.refl _ _ | assumption | (refine Below.drew ?_) | (refine Below.alloc ?_ (by simp) _) | (refine Below.setCell ?_ (by simp) _)))⟩
  · obtain ⟨h0, h1⟩ := (Cal.isDay_iff t).1 h
    go_enter Tryd.func27, Tryd.ntmps27
    go_wp2_with (first | (go_at_call 30; (with_reducible refine (isDay _ _).mono ?_); rintro e w' ⟨rfl, rfl⟩) | (with_reducible refine load_guard 43 ?_; refine wpList_load_rowG rfl 43 _ rfl _ rfl _ _ _ _ (heap_alloc2_new _ _ _) Tryd.underlying43 rfl (by kernel_rfl) ?_) | (go_at_call 25; (with_reducible refine (decide_any ke un ac _ _ _ _ _ _ _ _ _ _ _ _ _ _ _ _ _ _ _ _ _ _ _ _ _ _ _ _ _ _ _ _ _ _ _).mono ?_); rintro e w1 ⟨rfl, hb⟩))
    have hz : w.heap.size + 2 ≤ w1.heap.size := by simpa using hb.size
    have B1 : Below w1.heap.size w1 (w1.alloc (.cells #[.int .i64 (Cal.dec ke un ac cr us ex ar t)] 3)) := (Below.refl _ _).alloc (Nat.le_refl _) _
    refine (search_any ke un ac (Cal.dec ke un ac cr us ex ar t) x0 x1 x2 x3 x4 x5 x6 x7 x8 x9 x10 x11 x12 x13 x14 x15 x16 x17 x18 x19 x23 x25 x26 x27 x28 x29 x30 x31 x32 cr ex us ar (t + 1) w.heap.size (w.heap.size + 1) w1.heap.size _ (by omega) (row_below B1 (row_below hb (row_of (heap_alloc2_old w _ _)) (by simp)) (by simp)) (row_below B1 (row_below hb (row_of (heap_alloc2_new w _ _)) (by simp)) (by simp)) (by simp)).mono ?_
    rintro e w2 ⟨rfl, hb2⟩
    go_wp2_with fail
    go_ret2
    exact ⟨by simp, bt (bt (below2 hb) B1) hb2⟩
end Go.Proofs.YtdbigfdffphdgaaDoor
