/- Contracts of package entry: the fields of a group. -/
import Derived.Test.YtlkfhlgngkgflaaGreatDoorCoD
import Derived.Test.YtlkfhlgngkgflaaGreatDoorEn
namespace Go.Proofs.YtlkfhlgngkgflaaGreatDoor
open Go.RowKit
set_option maxHeartbeats 800000
set_option maxRecDepth 4000
theorem encs2_len (a b : Nat) (h1 : a < 9223372036854775808) (h2 : b < 9223372036854775808) : (encs [a, b]).length ≤ 18 := by
  have := encs_len [a, b] (fun n hn => by
    rcases (by simpa using hn : n = a ∨ n = b) with rfl | rfl <;> assumption)
  simpa using this
theorem ws_grown {w : World} {o : Obj} {c : Nat} : w.grownBy (w.alloc o).drew (some c) := ⟨rfl, rfl, rfl, by simp, fun _ hk _ => heap_alloc_old w _ hk⟩
theorem fw_group (c g : Nat) (l : List UInt8) (e : En) (al gr : Value) (lim last : Nat) (w : World) (h : WS w c g l (e.vals al gr)) (hlim : e.lim = lim) (hlast : e.last = last) (h1 : lim < 9223372036854775808) (h2 : last < 9223372036854775808) (ho : e.owner.size ≤ 1000) (hs : l.length ≤ 1000) :
    Calls Tryz.prog 52 #[.pointer (some ⟨c, 0, none⟩), .pointer (some ⟨g, 0, none⟩)] w fun r w' => r = .returned (.tuple #[]) ∧ WS w' c g (((l ++ encs [lim, last]) ++ [tb e.em]) ++ (Wi.enc e.owner.size ++ Ds.bl e.owner)) (e.vals al gr) ∧ w.grownBy w' (some c) := by
  have hN : NS (e.vals al gr) [25, 26] [lim, last] := ⟨rfl, fun k h _ => by
    rcases (by simp at h; omega : k = 0 ∨ k = 1) with rfl | rfl
    · simpa [hlim] using vals_25 e al gr
    · simpa [hlast] using vals_26 e al gr⟩
  have hb := encs2_len lim last h1 h2
  have hc : Calls Tryz.prog 53 #[.pointer (some ⟨c, 0, none⟩), .slice (some ⟨w.heap.size, 0, none⟩) 2 2] ((w.alloc (.cells #[.pointer (some ⟨g, 25, none⟩), .pointer (some ⟨g, 26, none⟩)] 79)).drew) fun r w' => r = .returned (.tuple #[]) ∧ WS w' c g (l ++ encs [lim, last]) (e.vals al gr) ∧ ((w.alloc (.cells #[.pointer (some ⟨g, 25, none⟩), .pointer (some ⟨g, 26, none⟩)] 79)).drew).grownBy w' (some c) := ws_numbers c g w.heap.size 2 [25, 26] [lim, last] l (e.vals al gr) _ (h.below (((Below.refl _ _).alloc (Nat.le_refl _) _).drew)) (PS.new w g [25, 26] 79) (by have := h.2.2.2; omega) hN (fun n hn => by
    rcases (by simpa using hn : n = lim ∨ n = last) with rfl | rfl <;> assumption) (by decide) (by omega)
  have HC := Lib.hid hc
  have hb1 : (l ++ encs [lim, last]).length ≤ 10000 := by rw [List.length_append]; omega
  have hb2 : ((l ++ encs [lim, last]) ++ [tb e.em]).length ≤ 10000 := by rw [List.length_append, List.length_append, List.length_singleton]; omega
  clear hN hlim hlast h1 h2 hc hb h
  go_enter Tryz.func52, Tryz.ntmps52
  go_wp2_with fail
  go_region_law (first | (go_simp; go_at_call 53; (with_reducible refine HC.out.mono ?_); rintro _ w1 ⟨rfl, hW1, hG1⟩))
  all_goals
    have HG1 := Lib.hid hG1
    clear hG1
    go_wp2_with (first | (go_at_call 54; (with_reducible refine (ws_truth c g 27 e.em _ _ _ hW1 hb1 (vals_27 e al gr)).mono ?_); rintro _ w2 ⟨rfl, hW2, hG2⟩; have HG2 := Lib.hid hG2; clear hG2) | (go_at_call 55; (with_reducible refine (ws_text c g 28 e.owner _ _ _ hW2 hb2 (by omega) (vals_28 e al gr)).mono ?_); rintro _ w3 ⟨rfl, hW3, hG3⟩; have HG3 := Lib.hid hG3; clear hG3))
    go_end0
    exact ⟨rfl, hW3, (ws_grown.trans HG1.out).trans (HG2.out.trans HG3.out)⟩
theorem rs_grown {w : World} {o : Obj} {a b : Nat} : G2 w (w.alloc o).drew a b := ⟨rfl, rfl, rfl, by simp, fun k hk _ _ => heap_alloc_old w _ hk⟩
/-- a group as it is read -/
def rdGroup (e : En) (s : List UInt8 × Nat) : En × (List UInt8 × Nat) :=
  let a := Rd.num s; let b := Rd.num a.2; let x := Rd.boo b.2; let t := Rd.txt 200 x.2
  ({ e with lim := clip a.1, last := clip b.1, em := x.1, owner := ⟨t.1.toArray⟩ }, t.2)
theorem fr_group (c rb g : Nat) (s : List UInt8 × Nat) (e : En) (al gr : Value) (w : World) (h : RS w c rb g s (e.vals al gr)) (hs : s.1.length ≤ 1000) :
    Calls Tryz.prog 52 #[.pointer (some ⟨c, 0, none⟩), .pointer (some ⟨g, 0, none⟩)] w fun r w' => r = .returned (.tuple #[]) ∧ RS w' c rb g (rdGroup e s).2 ((rdGroup e s).1.vals al gr) ∧ G2 w w' rb g := by
  have e1 : rdNums [25, 26] s (e.vals al gr) = (({ e with lim := clip (Rd.num s).1, last := clip (Rd.num (Rd.num s).2).1 } : En).vals al gr, (Rd.num (Rd.num s).2).2) := by
    simp only [rdNums]
    rw [set_25, set_26]
  have hc : Calls Tryz.prog 53 #[.pointer (some ⟨c, 0, none⟩), .slice (some ⟨w.heap.size, 0, none⟩) 2 2] ((w.alloc (.cells #[.pointer (some ⟨g, 25, none⟩), .pointer (some ⟨g, 26, none⟩)] 79)).drew) fun r w' => r = .returned (.tuple #[]) ∧ RS w' c rb g (rdNums [25, 26] s (e.vals al gr)).2 (rdNums [25, 26] s (e.vals al gr)).1 ∧ G2 ((w.alloc (.cells #[.pointer (some ⟨g, 25, none⟩), .pointer (some ⟨g, 26, none⟩)] 79)).drew) w' rb g := rs_numbers c rb g w.heap.size 2 [25, 26] s (e.vals al gr) _ (h.below (((Below.refl _ _).alloc (Nat.le_refl _) _).drew)) (PS.new w g [25, 26] 79) (by have := h.2.2.2.2.2.2.2; omega) (by have := h.2.2.1.2.2; omega) (fun k hk => by
    rw [vals_size]; rcases (by simp at hk; omega : k = 0 ∨ k = 1) with rfl | rfl <;> simp) (by decide) (by omega)
  rw [e1] at hc
  have l1 := Rd.num_len s
  have l2 := Rd.num_len (Rd.num s).2
  have l3 := Rd.boo_len (Rd.num (Rd.num s).2).2
  have hb1 : (Rd.num (Rd.num s).2).2.1.length ≤ 10000 := by omega
  have hb2 : (Rd.boo (Rd.num (Rd.num s).2).2).2.1.length ≤ 10000 := by omega
  have HC := Lib.hid hc
  clear hc e1 h l1 l2 l3
  unfold rdGroup
  go_enter Tryz.func52, Tryz.ntmps52
  go_wp2_with fail
  go_region_law (first | (go_simp; go_at_call 53; (with_reducible refine HC.out.mono ?_); rintro _ w1 ⟨rfl, hW1, hG1⟩))
  all_goals
    have HG1 := Lib.hid hG1
    clear hG1
    go_wp2_with (first | (go_at_call 54; (with_reducible refine (rs_truth c rb g 27 _ _ _ _ hW1 hb1 (vals_27 _ al gr)).mono ?_); rintro _ w2 ⟨rfl, hW2, hG2⟩; rw [set_27] at hW2; have HG2 := Lib.hid hG2; clear hG2) | (go_at_call 55; (with_reducible refine (rs_text c rb g 28 _ _ _ _ hW2 hb2 (vals_28 _ al gr)).mono ?_); rintro _ w3 ⟨rfl, hW3, hG3⟩; rw [set_28] at hW3; have HG3 := Lib.hid hG3; clear hG3))
    go_end0
    exact ⟨rfl, hW3, (rs_grown.trans HG1.out).trans (HG2.out.trans HG3.out)⟩
end Go.Proofs.YtlkfhlgngkgflaaGreatDoor
