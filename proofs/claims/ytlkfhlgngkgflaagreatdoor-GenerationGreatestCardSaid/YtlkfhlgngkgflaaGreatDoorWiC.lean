/- Contracts of package wire: AppendBool, AppendText, NewReader. -/
import Derived.Test.YtlkfhlgngkgflaaGreatDoorWiB
namespace Go.Proofs.YtlkfhlgngkgflaaGreatDoor
open Go.RowKit
set_option maxHeartbeats 800000
set_option maxRecDepth 4000
theorem ap_true (s : ByteArray) (w : World) (hs : s.size ≤ 10000) :
    Calls Tryz.prog 91 #[.string s, .bool true] w fun e w' => ∃ t : ByteArray, e = .returned (.string t) ∧ Ds.bl t = Ds.bl s ++ [1] ∧ w = w' := by
  go_enter Tryz.func91, Tryz.ntmps91
  go_wp2_with fail
  go_ret
  exact ⟨_, rfl, by simp [Ds.bl], rfl⟩
theorem ap_false (s : ByteArray) (w : World) (hs : s.size ≤ 10000) :
    Calls Tryz.prog 91 #[.string s, .bool false] w fun e w' => ∃ t : ByteArray, e = .returned (.string t) ∧ Ds.bl t = Ds.bl s ++ [0] ∧ w = w' := by
  go_enter Tryz.func91, Tryz.ntmps91
  go_wp2_with fail
  go_ret
  exact ⟨_, rfl, by simp [Ds.bl], rfl⟩
theorem ap_text (s t : ByteArray) (w : World) (hs : s.size ≤ 10000) (ht : t.size ≤ 10000) :
    Calls Tryz.prog 93 #[.string s, .string t] w fun e w' => ∃ u : ByteArray, e = .returned (.string u) ∧ Ds.bl u = Ds.bl s ++ (Wi.enc t.size ++ Ds.bl t) ∧ Below w.heap.size w w' := by
  have hu : IntKind.u64.wrap (t.size : Int) = (t.size : Int) := IntWalk.u64_in _ ⟨by omega, by omega⟩
  have hn := fun W => ap_num s t.size W (by omega) hs
  have hl := fun u : ByteArray => Ds.bl_length u
  have hE := Wi.enc_len 1 t.size (by omega)
  have HE := Lib.hid hE
  have HL := Lib.hid hl
  clear hE hl
  go_enter Tryz.func93, Tryz.ntmps93
  go_wp2_with fail
  (with_reducible refine (hn _).mono ?_)
  rintro _ w' ⟨u, rfl, hu', B⟩
  have hsz : u.size ≤ 10010 := by have := congrArg List.length hu'; rw [List.length_append, HL.out, HL.out] at this; have := HE.out; omega
  have HU := Lib.hid hu'
  clear hu'
  go_wp2_with fail
  go_ret
  exact ⟨_, rfl, by have := HU.out; simp only [Ds.bl] at this ⊢; simp [this], B⟩
/-- a reader: what is left, and its error -/
def RD (w : World) (rb : Nat) (s : ByteArray) (e : Nat) : Prop :=
  w.cell? ⟨rb, 0, none⟩ = some (.string s) ∧ w.cell? ⟨rb, 1, none⟩ = some (.int .i64 e) ∧ ∀ o, w.frozen? ⟨rb, o, none⟩ = false
theorem grown_setCell (w : World) (a : Addr) (u : Value) : w.grownBy (w.setCell a u) (some a.block) :=
  ⟨rfl, rfl, rfl, by simp, fun k _ h => heap_setCell_other w a k u (fun e => h (by rw [e]))⟩
theorem new_reader (s : ByteArray) (w : World) :
    Calls Tryz.prog 71 #[.string s] w fun e w' => e = .returned (.pointer (some ⟨w.heap.size, 0, none⟩)) ∧ w' = w.alloc (.cells #[.string s, .int .i64 0] 120) := by
  go_enter Tryz.func71, Tryz.ntmps71
  go_wp2_with fail
  go_ret
  exact ⟨rfl, rfl⟩
theorem RD.new (s : ByteArray) (w : World) : RD (w.alloc (.cells #[.string s, .int .i64 0] 120)) w.heap.size s 0 := by
  refine ⟨?_, ?_, fun o => by simp⟩ <;> simp [go_sem]
theorem rd_fail0 (rb : Nat) (s : ByteArray) (e : Nat) (w : World) (h : RD w rb s 0) :
    Calls Tryz.prog 119 #[.pointer (some ⟨rb, 0, none⟩), .int .i64 e] w fun r w' => r = .returned (.tuple #[]) ∧ RD w' rb ⟨#[]⟩ e ∧ w.grownBy w' (some rb) := by
  obtain ⟨c0, c1, hf⟩ := h
  have f0 := hf 0
  have f1 := hf 1
  go_enter Tryz.func119, Tryz.ntmps119
  go_wp2_with fail
  go_end0
  exact ⟨rfl, ⟨by simp [go_sem, c0], by simp [go_sem, c1], fun o => by have := hf o; simpa using this⟩, (grown_setCell w ⟨rb, 1, none⟩ _).trans (grown_setCell _ ⟨rb, 0, none⟩ _)⟩
theorem rd_fail1 (rb : Nat) (s : ByteArray) (x e : Nat) (hx : x ≠ 0) (w : World) (h : RD w rb s x) :
    Calls Tryz.prog 119 #[.pointer (some ⟨rb, 0, none⟩), .int .i64 e] w fun r w' => r = .returned (.tuple #[]) ∧ w = w' := by
  obtain ⟨c0, c1, hf⟩ := h
  have e0 : ((x : Int) == 0) = false := by simpa using hx
  clear hx
  go_enter Tryz.func119, Tryz.ntmps119
  go_wp2_with fail
  go_end0
  exact ⟨rfl, rfl⟩
/-- Number's closure: the call writes the value into the cell of n -/
theorem rd_num1 (nb : Nat) (v : Value) (s : ByteArray) (w : World) (hs : s.size ≤ 10000) (hn : w.cell? ⟨nb, 0, none⟩ = some v) (hf : w.frozen? ⟨nb, 0, none⟩ = false) :
    Calls Tryz.prog 122 #[.string s, .pointer (some ⟨nb, 0, none⟩)] w fun e w' => e = .returned (.int .i64 (Wi.dec 0 0 (Ds.bl s)).2) ∧ w' = w.setCell ⟨nb, 0, none⟩ (.int .u64 (Wi.dec 0 0 (Ds.bl s)).1) := by
  have hd := fun W => wi_decode s W hs
  generalize Wi.dec 0 0 (Ds.bl s) = d at hd ⊢
  go_enter Tryz.func122, Tryz.ntmps122
  go_wp2_with ((with_reducible refine (hd _).mono ?_); rintro e w' ⟨rfl, rfl⟩)
  go_ret
  exact ⟨rfl, rfl⟩
end Go.Proofs.YtlkfhlgngkgflaaGreatDoor
