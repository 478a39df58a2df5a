/- Contracts of package entry: the codec, several numbers; the length of a list. -/
import Derived.Test.YtlkfhlgngkgflaaGreatDoorCoC
namespace Go.Proofs.YtlkfhlgngkgflaaGreatDoor
open Go.RowKit
set_option maxHeartbeats 800000
set_option maxRecDepth 4000
def encs : List Nat → List UInt8
  | [] => []
  | n :: r => Wi.enc n ++ encs r
theorem encs_append : ∀ (a b : List Nat), encs (a ++ b) = encs a ++ encs b
  | [], b => rfl
  | n :: a, b => by simp only [List.cons_append, encs, encs_append a b, List.append_assoc]
theorem enc_le10 (n : Nat) (h : n < 9223372036854775808) : (Wi.enc n).length ≤ 9 := Wi.enc_len 8 n (by exact Nat.lt_of_lt_of_le h (by decide))
theorem encs_len : ∀ (l : List Nat), (∀ n ∈ l, n < 9223372036854775808) → (encs l).length ≤ 9 * l.length
  | [], _ => by simp [encs]
  | n :: r, h => by
    have h1 := enc_le10 n (h n (by simp))
    have h2 := encs_len r (fun m hm => h m (by simp [hm]))
    simp only [encs, List.length_append, List.length_cons]; omega
/-- the pointers to the fields at these offsets lie in block pb -/
def PS (w : World) (pb g : Nat) (os : List Nat) : Prop := (∀ k (h : k < os.length), w.cell? ⟨pb, k, none⟩ = some (.pointer (some ⟨g, os[k], none⟩))) ∧ pb < w.heap.size
theorem PS.block {w w' : World} {pb g : Nat} {os : List Nat} (h : PS w pb g os) (k : w'.heap[pb]? = w.heap[pb]?) (hs : w.heap.size ≤ w'.heap.size) : PS w' pb g os :=
  ⟨fun i hi => (World.cell?_of_block (a := ⟨pb, i, none⟩) k).trans (h.1 i hi), Nat.lt_of_lt_of_le h.2 hs⟩
theorem PS.new (w : World) (g : Nat) (os : List Nat) (t : TypeId) : PS ((w.alloc (.cells (os.map fun o => Value.pointer (some ⟨g, o, none⟩)).toArray t)).drew) w.heap.size g os := by
  refine ⟨fun k hk => ?_, by simp⟩
  show (w.alloc (.cells (os.map fun o => Value.pointer (some ⟨g, o, none⟩)).toArray t)).cell? ⟨w.heap.size, k, none⟩ = _
  rw [cell_of_row _ w.heap.size k _ t (0, 0) (heap_alloc_new w _)]
  simp [List.getElem?_eq_getElem hk]
/-- the numbers at these offsets -/
def NS (cs : Array Value) (os ns : List Nat) : Prop := os.length = ns.length ∧ ∀ k (h : k < os.length) (h' : k < ns.length), cs[os[k]]? = some (.int .i64 ns[k])
theorem ws_numbers (c g pb cap : Nat) (os ns : List Nat) (l : List UInt8) (cs : Array Value) (w : World) (h : WS w c g l cs) (hP : PS w pb g os) (hpc : pb ≠ c) (hN : NS cs os ns) (hn : ∀ n ∈ ns, n < 9223372036854775808) (h20 : os.length ≤ 20) (hs : l.length ≤ 5000) :
    Calls Tryz.prog 53 #[.pointer (some ⟨c, 0, none⟩), .slice (some ⟨pb, 0, none⟩) os.length cap] w fun e w' => e = .returned (.tuple #[]) ∧ WS w' c g (l ++ encs ns) cs ∧ w.grownBy w' (some c) := by
  have HH := Lib.hid h
  have HP := Lib.hid hP
  have HN := Lib.hid hN
  have Hn := Lib.hid hn
  clear h hP hN hn
  go_enter Tryz.func53, Tryz.ntmps53
  go_wp2_with fail
  go_loopw [5, 8] (fun _ i wr => ∃ k : Nat, k ≤ os.length ∧ i = .int .i64 k ∧ WS wr c g (l ++ encs (ns.take k)) cs ∧ w.grownBy wr (some c)) (fun _ i _ => os.length - (intOf i).toNat)
  case atStart => exact ⟨0, Nat.zero_le _, rfl, by simpa [encs] using HH.out, World.grownBy.refl _ _⟩
  case round =>
    obtain ⟨k, hk, rfl, hW, hG⟩ := hrel
    have HG := Lib.hid hG
    by_cases hlt : k < os.length
    · have hk2 : k < ns.length := by have := HN.out.1; omega
      have hnb : ns[k] < 9223372036854775808 := Hn.out _ (List.getElem_mem _)
      have hlen : (l ++ encs (ns.take k)).length ≤ 10000 := by
        have := encs_len (ns.take k) (fun n hn => Hn.out n (List.mem_of_mem_take hn))
        rw [List.length_take] at this
        rw [List.length_append]; omega
      have hpp := (HP.out.block (HG.out.block pb HP.out.2 (by intro e; exact hpc (Option.some.inj e))) HG.out.size).1 k hlt
      have hc := ws_number c g os[k] ns[k] _ cs wr hW hlen hnb (HN.out.2 k hlt hk2)
      have HC := Lib.hid hc
      clear hW hc hG hnb hlen
      go_wp2_with ((with_reducible refine HC.out.mono ?_); rintro e w1 ⟨rfl, hW', hG'⟩; have HW := Lib.hid hW'; have HG' := Lib.hid hG'; clear hW' hG')
      go_roundw
      case rel =>
        refine ⟨k + 1, by omega, by go_num, ?_, HG.out.trans HG'.out⟩
        have := HW.out
        rw [List.append_assoc] at this
        rw [List.take_succ_eq_append_getElem hk2, encs_append]
        simpa [encs] using this
      case measure => simp [intOf]; omega
    · have hk2 : k = ns.length := by have := HN.out.1; omega
      clear hG
      go_wp2_with fail
      go_end0
      refine ⟨rfl, ?_, HG.out⟩
      rw [hk2, List.take_length] at hW
      exact hW
/-- numbers read into the fields at these offsets -/
def rdNums : List Nat → (List UInt8 × Nat) → Array Value → Array Value × (List UInt8 × Nat)
  | [], s, cs => (cs, s)
  | o :: os, s, cs => rdNums os (Rd.num s).2 (cs.setIfInBounds o (.int .i64 (clip (Rd.num s).1)))
theorem rs_numbers (c rb g pb cap : Nat) (os : List Nat) (s : List UInt8 × Nat) (cs : Array Value) (w : World) (h : RS w c rb g s cs) (hP : PS w pb g os) (hpr : pb ≠ rb) (hpg : pb ≠ g) (ho : ∀ k (h : k < os.length), os[k] < cs.size) (h20 : os.length ≤ 20) (hs : s.1.length ≤ 10000) :
    Calls Tryz.prog 53 #[.pointer (some ⟨c, 0, none⟩), .slice (some ⟨pb, 0, none⟩) os.length cap] w fun e w' => e = .returned (.tuple #[]) ∧ RS w' c rb g (rdNums os s cs).2 (rdNums os s cs).1 ∧ G2 w w' rb g := by
  have HH := Lib.hid h
  have HP := Lib.hid hP
  have HO := Lib.hid ho
  clear h hP ho
  go_enter Tryz.func53, Tryz.ntmps53
  go_wp2_with fail
  go_loopw [5, 8] (fun _ i wr => ∃ (k : Nat) (s' : List UInt8 × Nat) (cs' : Array Value), k ≤ os.length ∧ i = .int .i64 k ∧ s'.1.length ≤ 10000 ∧ cs'.size = cs.size ∧ rdNums os s cs = rdNums (os.drop k) s' cs' ∧ RS wr c rb g s' cs' ∧ G2 w wr rb g) (fun _ i _ => os.length - (intOf i).toNat)
  case atStart => exact ⟨0, s, cs, Nat.zero_le _, rfl, hs, rfl, rfl, HH.out, G2.refl _ _ _⟩
  case round =>
    obtain ⟨k, s', cs', hk, rfl, hs', hz, he, hW, hG⟩ := hrel
    have HG := Lib.hid hG
    have HE := Lib.hid he
    have HZ := Lib.hid hz
    clear he hz
    by_cases hlt : k < os.length
    · have hol : os[k] < cs'.size := by rw [HZ.out]; exact HO.out k hlt
      have hov : cs'[os[k]]? = some cs'[os[k]] := Array.getElem?_eq_getElem hol
      have hpp := (HP.out.block (HG.out.block pb HP.out.2 hpr hpg) HG.out.size).1 k hlt
      have hc := rs_number c rb g os[k] _ s' cs' wr hW hs' hov
      have HC := Lib.hid hc
      clear hW hc hG hov
      go_wp2_with ((with_reducible refine HC.out.mono ?_); rintro e w1 ⟨rfl, hW', hG'⟩; have HW := Lib.hid hW'; have HG' := Lib.hid hG'; clear hW' hG')
      go_roundw
      case rel =>
        refine ⟨k + 1, _, _, by omega, by go_num, ?_, ?_, ?_, HW.out, HG.out.trans HG'.out⟩
        · have := Rd.num_len s'; omega
        · simp [HZ.out]
        · rw [HE.out, List.drop_eq_getElem_cons hlt, rdNums]
      case measure => simp [intOf]; omega
    · clear hG
      go_wp2_with fail
      go_end0
      refine ⟨rfl, ?_, HG.out⟩
      rw [HE.out, List.drop_eq_nil_of_le (by omega)]
      exact hW
end Go.Proofs.YtlkfhlgngkgflaaGreatDoor
