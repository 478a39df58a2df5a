/- Slices of numbers among the arguments: opened. -/
import Derived.Test.YtlkfhlgngkgflaaGreatDoorFrameDs
import Derived.Test.YtlkfhlgngkgflaaGreatDoorSaA
import Derived.Lib.SmallJoins
import Derived.ChangeSlices
namespace Go.Proofs.YtlkfhlgngkgflaaGreatDoor
open Go.ChangeShapes Go.WideShapes Go.RowKit
set_option maxRecDepth 100000
theorem open_islice {H : Type} {enc : TypeId × Value → H} {W : World} {fuel : Nat} {v : Value} {x : DataW H × List MemPlace} (h : DataW.trod enc Tryz.prog W 0 (fun _ => true) true fuel 22 [v] = some x) :
    ∃ (a : Option Addr) (n c : Nat), v = .slice a n c ∧ (n ≤ 1000 → ∃ l : List Int, l.length = n ∧ IS W v l) := by
  rcases open_ints Tryz.underlying22 Tryz.underlying3 (by kernel_rfl) h with ⟨h1, -⟩ | ⟨a, len, cap, zs, h1, -, hl, -, hz, -, hc, -⟩
  · obtain rfl : v = .slice none 0 0 := by simpa using h1
    exact ⟨none, 0, 0, rfl, fun _ => ⟨[], rfl, IS.nil W⟩⟩
  · obtain rfl : v = .slice (some a) len cap := by simpa using h1
    refine ⟨some a, len, cap, rfl, fun hn => ⟨zs.take len, by rw [List.length_take]; split at hz <;> omega, ?_⟩⟩
    have hlen : (zs.take len).length = len := by rw [List.length_take]; split at hz <;> omega
    refine ⟨some a, cap, by rw [hlen], by omega, fun h0 => ?_⟩
    rw [hlen] at h0
    have hzl : len ≤ zs.length := by split at hz <;> omega
    have c0 := hc 0 (by omega)
    have hs : a.spot = none := by
      have := World.cell?_spot c0
      simpa [Addr.add] using this
    obtain ⟨b, o, s⟩ := a
    simp only at hs
    subst hs
    refine ⟨b, o, rfl, ?_, fun k hk => ?_⟩
    · have := World.block_lt_of_cell? W _ c0
      simpa [Addr.add] using this
    · rw [hlen] at hk
      have := hc k (by omega)
      rw [Addr.add_mid] at this
      rw [this]
      simp [List.getD_eq_getElem?_getD, List.getElem?_eq_getElem (show k < zs.length by omega)]
theorem open_islice' {H : Type} {enc : TypeId × Value → H} {W : World} {r : Reach} {base : Nat} {v : Value} {d : DataW H} {p : List MemPlace} (hv : Value.okWide Tryz.prog W r base 22 v) (h : DataW.Trod enc Tryz.prog W 0 (fun _ => true) true 22 v d p) :
    ∃ (a : Option Addr) (n c : Nat), v = .slice a n c ∧ (n ≤ 1000 → ∃ l : List Int, l.length = n ∧ IS W v l) := by
  obtain ⟨a, n, c, rfl⟩ := okWide_slice Tryz.underlying22 hv
  obtain ⟨fuel, hf⟩ := h
  exact open_islice hf
theorem open_gens {H : Type} {enc : TypeId × Value → H} {W : World} {r : Reach} {base : Nat} {v : Value} {d : DataW H} {p : List MemPlace} (hv : Value.okWide Tryz.prog W r base 24 v) (h : DataW.Trod enc Tryz.prog W 0 (fun _ => true) true 24 v d p) :
    ∃ (b : ByteArray) (last : Int) (a : Option Addr) (n c : Nat), v = .agg #[.string b, .int .i64 last, .slice a n c] ∧ (n ≤ 1000 → ∃ l : List Int, l.length = n ∧ IS W (.slice a n c) l) := by
  obtain ⟨v0, v1, v2, y0, y1, y2, n, rfl, -, -, h0, h1, h2⟩ := Joins.open_agg3 Tryz.underlying24 (by kernel_rfl) (by kernel_rfl) hv h
  obtain ⟨b, e0, -⟩ := DataW.trod_string Tryz.underlying9 h0
  obtain ⟨last, e1, -⟩ := DataW.trod_int Tryz.underlying3 h1
  obtain ⟨a, m, c, rfl, hl⟩ := open_islice h2
  obtain rfl : v0 = .string b := by simpa using e0
  obtain rfl : v1 = .int .i64 last := by simpa using e1
  exact ⟨b, last, a, m, c, rfl, hl⟩
end Go.Proofs.YtlkfhlgngkgflaaGreatDoor
