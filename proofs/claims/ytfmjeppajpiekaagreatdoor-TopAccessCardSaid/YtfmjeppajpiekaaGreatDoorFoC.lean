/- Contracts of package entry: the fields of an alias, of a catalog's entry. -/
import Derived.Test.YtfmjeppajpiekaaGreatDoorFoA
namespace Go.Proofs.YtfmjeppajpiekaaGreatDoor
open Go.RowKit
set_option maxHeartbeats 800000
set_option maxRecDepth 4000
theorem fw_alias (c g : Nat) (l : List UInt8) (e : En) (al gr : Value) (w : World) (h : WS w c g l (e.vals al gr)) (ht : e.target.size ≤ 1000) (hs : l.length ≤ 1000) :
    Calls Tryz.prog 154 #[.pointer (some ⟨c, 0, none⟩), .pointer (some ⟨g, 0, none⟩)] w fun r w' => r = .returned (.tuple #[]) ∧ WS w' c g (l ++ (Wi.enc e.target.size ++ Ds.bl e.target)) (e.vals al gr) ∧ w.grownBy w' (some c) := by
  have hc := ws_text c g 29 e.target l _ w h (by omega) (by omega) (vals_29 e al gr)
  have HC := Lib.hid hc
  clear hc h
  go_enter Tryz.func154, Tryz.ntmps154
  go_wp2_with (go_at_call 148; (with_reducible refine HC.out.mono ?_); rintro _ w1 ⟨rfl, hW1, hG1⟩; have HG1 := Lib.hid hG1; have HW1 := Lib.hid hW1; clear hG1 hW1)
  go_end0
  exact ⟨rfl, HW1.out, HG1.out⟩
/-- an alias as it is read -/
def rdAlias (e : En) (s : List UInt8 × Nat) : En × (List UInt8 × Nat) := ({ e with target := ⟨(Rd.txt 200 s).1.toArray⟩ }, (Rd.txt 200 s).2)
theorem fr_alias (c rb g : Nat) (s : List UInt8 × Nat) (e : En) (al gr : Value) (w : World) (h : RS w c rb g s (e.vals al gr)) (hs : s.1.length ≤ 1000) :
    Calls Tryz.prog 154 #[.pointer (some ⟨c, 0, none⟩), .pointer (some ⟨g, 0, none⟩)] w fun r w' => r = .returned (.tuple #[]) ∧ RS w' c rb g (rdAlias e s).2 ((rdAlias e s).1.vals al gr) ∧ G2 w w' rb g := by
  have hc := rs_text c rb g 29 _ s _ w h (by omega) (vals_29 e al gr)
  rw [set_29] at hc
  have HC := Lib.hid hc
  clear hc h
  unfold rdAlias
  go_enter Tryz.func154, Tryz.ntmps154
  go_wp2_with (go_at_call 148; (with_reducible refine HC.out.mono ?_); rintro _ w1 ⟨rfl, hW1, hG1⟩; have HG1 := Lib.hid hG1; have HW1 := Lib.hid hW1; clear hG1 hW1)
  go_end0
  exact ⟨rfl, HW1.out, HG1.out⟩
theorem fw_cat (c g : Nat) (l : List UInt8) (e : En) (al gr : Value) (k : Nat) (w : World) (h : WS w c g l (e.vals al gr)) (hk : e.cat = k) (hk2 : k < 9223372036854775808) (hs : l.length ≤ 1000) :
    Calls Tryz.prog 158 #[.pointer (some ⟨c, 0, none⟩), .pointer (some ⟨g, 0, none⟩)] w fun r w' => r = .returned (.tuple #[]) ∧ WS w' c g (l ++ Wi.enc k) (e.vals al gr) ∧ w.grownBy w' (some c) := by
  have hv := vals_30 e al gr
  rw [hk] at hv
  have hc := ws_number c g 30 k l _ w h (by omega) hk2 hv
  have HC := Lib.hid hc
  clear hc h hk hk2
  go_enter Tryz.func158, Tryz.ntmps158
  go_wp2_with (go_at_call 159; (with_reducible refine HC.out.mono ?_); rintro _ w1 ⟨rfl, hW1, hG1⟩; have HG1 := Lib.hid hG1; have HW1 := Lib.hid hW1; clear hG1 hW1)
  go_end0
  exact ⟨rfl, HW1.out, HG1.out⟩
def rdCat (e : En) (s : List UInt8 × Nat) : En × (List UInt8 × Nat) := ({ e with cat := clip (Rd.num s).1 }, (Rd.num s).2)
theorem fr_cat (c rb g : Nat) (s : List UInt8 × Nat) (e : En) (al gr : Value) (w : World) (h : RS w c rb g s (e.vals al gr)) (hs : s.1.length ≤ 1000) :
    Calls Tryz.prog 158 #[.pointer (some ⟨c, 0, none⟩), .pointer (some ⟨g, 0, none⟩)] w fun r w' => r = .returned (.tuple #[]) ∧ RS w' c rb g (rdCat e s).2 ((rdCat e s).1.vals al gr) ∧ G2 w w' rb g := by
  have hc := rs_number c rb g 30 _ s _ w h (by omega) (vals_30 e al gr)
  rw [set_30] at hc
  have HC := Lib.hid hc
  clear hc h
  unfold rdCat
  go_enter Tryz.func158, Tryz.ntmps158
  go_wp2_with (go_at_call 159; (with_reducible refine HC.out.mono ?_); rintro _ w1 ⟨rfl, hW1, hG1⟩; have HG1 := Lib.hid hG1; have HW1 := Lib.hid hW1; clear hG1 hW1)
  go_end0
  exact ⟨rfl, HW1.out, HG1.out⟩
end Go.Proofs.YtfmjeppajpiekaaGreatDoor
