/- Several texts in one: FrameGe FrameEn FewE FrameE3 LaEr LaEu CardEr CardEu. -/
import Derived.Test.YtihbihkmchacnaaGreatDoorFrameDs
import Derived.Test.YtihbihkmchacnaaGreatDoorSaA
import Derived.Lib.SmallJoins
import Derived.ChangeSlices
import Derived.Test.YtihbihkmchacnaaGreatDoorEn
import Derived.Deep.Slices
import Derived.Deep.Strs
import Derived.Test.YtihbihkmchacnaaGreatDoorSaC
import Derived.Test.YtihbihkmchacnaaGreatDoorCardEs
section
/- Slices of numbers among the arguments: opened. -/
namespace Go.Proofs.YtihbihkmchacnaaGreatDoor
open Go.ChangeShapes Go.WideShapes Go.RowKit
set_option maxRecDepth 100000
theorem open_islice {H : Type} {enc : TypeId × Value → H} {W : World} {fuel : Nat} {v : Value} {x : DataW H × List MemPlace} (h : DataW.trod enc Tryz.prog W 0 (fun _ => true) true fuel 24 [v] = some x) :
    ∃ (a : Option Addr) (n c : Nat), v = .slice a n c ∧ (n ≤ 1000 → ∃ l : List Int, l.length = n ∧ IS W v l) := by
  rcases open_ints Tryz.underlying24 Tryz.underlying3 (by kernel_rfl) h with ⟨h1, -⟩ | ⟨a, len, cap, zs, h1, -, hl, -, hz, -, hc, -⟩
  · obtain rfl : v = .slice none 0 0 := by simpa using h1
    exact ⟨none, 0, 0, rfl, fun _ => ⟨[], rfl, IS.nil W⟩⟩
  · obtain rfl : v = .slice (some a) len cap := by simpa using h1
    refine ⟨some a, len, cap, rfl, fun hn => ⟨zs.take len, by rw [List.length_take]; split at hz <;> omega, ?_⟩⟩
    have hlen : (zs.take len).length = len := by rw [List.length_take]; split at hz <;> omega
    refine ⟨some a, cap, by rw [hlen], by omega, fun h0 => ?_⟩
    rw [hlen] at h0
    have hzl : len ≤ zs.length := by split at hz <;> omega
    have c0 := hc 0 (by omega)
    have hs : a.spot = none := by
      have := World.cell?_spot c0
      simpa [Addr.add] using this
    obtain ⟨b, o, s⟩ := a
    simp only at hs
    subst hs
    refine ⟨b, o, rfl, ?_, fun k hk => ?_⟩
    · have := World.block_lt_of_cell? W _ c0
      simpa [Addr.add] using this
    · rw [hlen] at hk
      have := hc k (by omega)
      rw [Addr.add_mid] at this
      rw [this]
      simp [List.getD_eq_getElem?_getD, List.getElem?_eq_getElem (show k < zs.length by omega)]
theorem open_islice' {H : Type} {enc : TypeId × Value → H} {W : World} {r : Reach} {base : Nat} {v : Value} {d : DataW H} {p : List MemPlace} (hv : Value.okWide Tryz.prog W r base 24 v) (h : DataW.Trod enc Tryz.prog W 0 (fun _ => true) true 24 v d p) :
    ∃ (a : Option Addr) (n c : Nat), v = .slice a n c ∧ (n ≤ 1000 → ∃ l : List Int, l.length = n ∧ IS W v l) := by
  obtain ⟨a, n, c, rfl⟩ := okWide_slice Tryz.underlying24 hv
  obtain ⟨fuel, hf⟩ := h
  exact open_islice hf
end Go.Proofs.YtihbihkmchacnaaGreatDoor

end
section
/- Catalog entries among the arguments: opened to a structure and two lists. -/
namespace Go.Proofs.YtihbihkmchacnaaGreatDoor
open Go.ChangeShapes Go.WideShapes Go.RowKit
set_option maxRecDepth 100000
theorem enc_row {P : Program} {w : World} {r : Reach} {base : Nat} {t u : TypeId} {cs : Array Value} {ts : List TypeId} (hts : P.cellTypes P.depth t = some ts) (h : Row.okWide P w r base t cs) (i : Nat) (v : Value) (hv : cs[i]? = some v) (hu : ts[i % ts.length]? = some u) : Cell.okWide P w r base u v := by
  obtain ⟨ts', h1, _, h2⟩ := h
  obtain rfl : ts = ts' := Option.some.inj (hts.symm.trans h1)
  obtain ⟨u', a, b⟩ := h2 i v hv
  obtain rfl : u = u' := Option.some.inj (hu.symm.trans a)
  exact b
theorem enc_int {P : Program} {w : World} {r : Reach} {base : Nat} {u : TypeId} {k : IntKind} {v : Value} (hu : P.underlying u = some (.int k)) (h : Cell.okWide P w r base u v) : ∃ n, v = .int k n := by
  cases v <;> simp_all [Cell.okWide, Cell.ok]
theorem enc_bool {P : Program} {w : World} {r : Reach} {base : Nat} {u : TypeId} {v : Value} (hu : P.underlying u = some .bool) (h : Cell.okWide P w r base u v) : ∃ b, v = .bool b := by
  cases v <;> simp_all [Cell.okWide, Cell.ok]
theorem enc_str {P : Program} {w : World} {r : Reach} {base : Nat} {u : TypeId} {v : Value} (hu : P.underlying u = some .string) (h : Cell.okWide P w r base u v) : ∃ b, v = .string b := by
  cases v <;> simp_all [Cell.okWide, Cell.ok]
theorem enc_cells {P : Program} {w : World} {r : Reach} {base : Nat} {t : TypeId} {v : Value} {fs : Array Field} (ht : P.underlying t = some (.struct fs)) (h : Value.okWide P w r base t v) : ∃ cs, v = .agg cs ∧ cs.size = P.cellsOf t ∧ Row.okWide P w r base t cs := by
  simpa only [Value.okWide, ht] using h
theorem open_gslice {H : Type} {enc : TypeId × Value → H} {W : World} {fuel : Nat} {v : Value} {x : DataW H × List MemPlace} (h : DataW.trod enc Tryz.prog W 0 (fun _ => true) true fuel 25 [v] = some x) :
    ∃ (a : Option Addr) (n c : Nat), v = .slice a n c ∧ (n ≤ 1000 → ∃ l : List Gr, l.length = n ∧ GS W v l) := by
  rcases Go.Deep.open_slice Tryz.underlying25 h with ⟨h1, -⟩ | ⟨a, len, cap, m, f, D, Pl, h1, -, hl, -, hm, -, hi⟩
  · obtain rfl : v = .slice none 0 0 := by simpa using h1
    exact ⟨none, 0, 0, rfl, fun _ => ⟨[], rfl, GS.nil W⟩⟩
  · obtain rfl : v = .slice (some a) len cap := by simpa using h1
    refine ⟨some a, len, cap, rfl, fun hn => ?_⟩
    have e3 : Tryz.prog.cellsOf 51 = 3 := by kernel_rfl
    have each : ∀ i, i < len → ∃ g : Gr, W.cell? (a.add (i * 3)) = some (.string g.1) ∧ W.cell? ((a.add (i * 3)).add 1) = some (.bool g.2.1) ∧ W.cell? ((a.add (i * 3)).add 2) = some (.int .i64 g.2.2) := fun i hlt => by
      obtain ⟨cs, hc, ht⟩ := hi i (by rw [hm]; split <;> omega)
      rw [e3] at hc
      obtain ⟨_, hcl, hat⟩ := World.cells?_some hc
      obtain ⟨y0, y1, y2, n', -, -, f0, f1, f2⟩ := Go.Deep.trod_struct3 Tryz.underlying51 ht
      match cs, hcl with
      | [c0, c1, c2], _ =>
        obtain ⟨b, e0, -⟩ := DataW.trod_string Tryz.underlying9 f0
        obtain ⟨g, e1, -⟩ := DataW.trod_bool Tryz.underlying4 f1
        obtain ⟨l, e2, -⟩ := DataW.trod_int Tryz.underlying3 f2
        have k0 : c0 = .string b := List.head_eq_of_cons_eq e0
        have k1 : c1 = .bool g := List.head_eq_of_cons_eq e1
        have k2 : c2 = .int .i64 l := List.head_eq_of_cons_eq e2
        subst k0 k1 k2
        exact ⟨(b, g, l), by simpa [Addr.add] using hat 0 (by omega), hat 1 (by omega), hat 2 (by omega)⟩
    let G : Nat → Gr := fun i => if h : i < len then Classical.choose (each i h) else (⟨#[]⟩, false, 0)
    have hG : ∀ i, i < len → W.cell? (a.add (i * 3)) = some (.string (G i).1) ∧ W.cell? ((a.add (i * 3)).add 1) = some (.bool (G i).2.1) ∧ W.cell? ((a.add (i * 3)).add 2) = some (.int .i64 (G i).2.2) := fun i hlt => by
      have := Classical.choose_spec (each i hlt)
      simp only [G, dif_pos hlt]; exact this
    refine ⟨(List.range len).map G, by simp, some a, cap, by simp, by simp; omega, fun h0 => ?_⟩
    have h0' : 0 < len := by simpa using h0
    have c0 := (hG 0 h0').1
    have hs : a.spot = none := by
      have := World.cell?_spot c0
      simpa [Addr.add] using this
    obtain ⟨b, o, s⟩ := a
    simp only at hs
    subst hs
    refine ⟨b, o, rfl, ?_, fun k hk => ?_⟩
    · have := World.block_lt_of_cell? W _ c0
      simpa [Addr.add] using this
    · have hk' : k < len := by simpa using hk
      have := hG k hk'
      rw [Addr.add_mid, Addr.add_mid, Addr.add_mid] at this
      simpa using this
theorem open_en {H : Type} {enc : TypeId × Value → H} {W : World} {r : Reach} {base : Nat} {v : Value} {d : DataW H} {p : List MemPlace} (hv : Value.okWide Tryz.prog W r base 27 v) (h : DataW.Trod enc Tryz.prog W 0 (fun _ => true) true 27 v d p) :
    ∃ (e : En) (a1 : Option Addr) (n1 c1 : Nat) (a2 : Option Addr) (n2 c2 : Nat), v = .agg (e.vals (.slice a1 n1 c1) (.slice a2 n2 c2)) ∧ (n1 ≤ 1000 → ∃ l : List Int, l.length = n1 ∧ IS W (.slice a1 n1 c1) l) ∧ (n2 ≤ 1000 → ∃ l : List Gr, l.length = n2 ∧ GS W (.slice a2 n2 c2) l) := by
  obtain ⟨⟨l⟩, rfl, hsz, hrow⟩ := enc_cells Tryz.underlying27 hv
  have e : Tryz.prog.cellsOf 27 = 33 := by kernel_rfl
  rw [e] at hsz
  have hts : Tryz.prog.cellTypes Tryz.prog.depth 27 = some [3, 9, 3, 3, 3, 3, 3, 3, 3, 3, 3, 3, 3, 3, 3, 3, 4, 3, 9, 9, 3, 3, 4, 24, 3, 3, 3, 4, 9, 9, 3, 3, 25] := by kernel_rfl
  rcases l with _ | ⟨x0, _ | ⟨x1, _ | ⟨x2, _ | ⟨x3, _ | ⟨x4, _ | ⟨x5, _ | ⟨x6, _ | ⟨x7, _ | ⟨x8, _ | ⟨x9, _ | ⟨x10, _ | ⟨x11, _ | ⟨x12, _ | ⟨x13, _ | ⟨x14, _ | ⟨x15, _ | ⟨x16, _ | ⟨x17, _ | ⟨x18, _ | ⟨x19, _ | ⟨x20, _ | ⟨x21, _ | ⟨x22, _ | ⟨x23, _ | ⟨x24, _ | ⟨x25, _ | ⟨x26, _ | ⟨x27, _ | ⟨x28, _ | ⟨x29, _ | ⟨x30, _ | ⟨x31, _ | ⟨x32, _ | ⟨x33, l⟩⟩⟩⟩⟩⟩⟩⟩⟩⟩⟩⟩⟩⟩⟩⟩⟩⟩⟩⟩⟩⟩⟩⟩⟩⟩⟩⟩⟩⟩⟩⟩⟩⟩ <;> simp at hsz
  obtain ⟨fuel, hf⟩ := h
  obtain ⟨xs, n, -, -, -, hxs, hfs⟩ := DataW.trod_struct Tryz.underlying27 hf
  have hx0 : xs[3]? = some (xs[3]'(by rw [hxs]; decide)) := List.getElem?_eq_getElem _
  have hx1 : xs[12]? = some (xs[12]'(by rw [hxs]; decide)) := List.getElem?_eq_getElem _
  have s1 := (hfs 3 _ rfl).trans hx0
  have s2 := (hfs 12 _ rfl).trans hx1
  obtain ⟨a1, n1, c1, rfl, o1⟩ := open_islice (v := x23) s1
  obtain ⟨a2, n2, c2, rfl, o2⟩ := open_gslice (v := x32) s2
  clear hfs hx0 hx1 s1 s2 hf
  obtain ⟨y0, rfl⟩ := enc_int Tryz.underlying3 (enc_row hts hrow 0 x0 rfl rfl)
  obtain ⟨y1, rfl⟩ := enc_str Tryz.underlying9 (enc_row hts hrow 1 x1 rfl rfl)
  obtain ⟨y2, rfl⟩ := enc_int Tryz.underlying3 (enc_row hts hrow 2 x2 rfl rfl)
  obtain ⟨y3, rfl⟩ := enc_int Tryz.underlying3 (enc_row hts hrow 3 x3 rfl rfl)
  obtain ⟨y4, rfl⟩ := enc_int Tryz.underlying3 (enc_row hts hrow 4 x4 rfl rfl)
  obtain ⟨y5, rfl⟩ := enc_int Tryz.underlying3 (enc_row hts hrow 5 x5 rfl rfl)
  obtain ⟨y6, rfl⟩ := enc_int Tryz.underlying3 (enc_row hts hrow 6 x6 rfl rfl)
  obtain ⟨y7, rfl⟩ := enc_int Tryz.underlying3 (enc_row hts hrow 7 x7 rfl rfl)
  obtain ⟨y8, rfl⟩ := enc_int Tryz.underlying3 (enc_row hts hrow 8 x8 rfl rfl)
  obtain ⟨y9, rfl⟩ := enc_int Tryz.underlying3 (enc_row hts hrow 9 x9 rfl rfl)
  obtain ⟨y10, rfl⟩ := enc_int Tryz.underlying3 (enc_row hts hrow 10 x10 rfl rfl)
  obtain ⟨y11, rfl⟩ := enc_int Tryz.underlying3 (enc_row hts hrow 11 x11 rfl rfl)
  obtain ⟨y12, rfl⟩ := enc_int Tryz.underlying3 (enc_row hts hrow 12 x12 rfl rfl)
  obtain ⟨y13, rfl⟩ := enc_int Tryz.underlying3 (enc_row hts hrow 13 x13 rfl rfl)
  obtain ⟨y14, rfl⟩ := enc_int Tryz.underlying3 (enc_row hts hrow 14 x14 rfl rfl)
  obtain ⟨y15, rfl⟩ := enc_int Tryz.underlying3 (enc_row hts hrow 15 x15 rfl rfl)
  obtain ⟨y16, rfl⟩ := enc_bool Tryz.underlying4 (enc_row hts hrow 16 x16 rfl rfl)
  obtain ⟨y17, rfl⟩ := enc_int Tryz.underlying3 (enc_row hts hrow 17 x17 rfl rfl)
  obtain ⟨y18, rfl⟩ := enc_str Tryz.underlying9 (enc_row hts hrow 18 x18 rfl rfl)
  obtain ⟨y19, rfl⟩ := enc_str Tryz.underlying9 (enc_row hts hrow 19 x19 rfl rfl)
  obtain ⟨y20, rfl⟩ := enc_int Tryz.underlying3 (enc_row hts hrow 20 x20 rfl rfl)
  obtain ⟨y21, rfl⟩ := enc_int Tryz.underlying3 (enc_row hts hrow 21 x21 rfl rfl)
  obtain ⟨y22, rfl⟩ := enc_bool Tryz.underlying4 (enc_row hts hrow 22 x22 rfl rfl)
  obtain ⟨y24, rfl⟩ := enc_int Tryz.underlying3 (enc_row hts hrow 24 x24 rfl rfl)
  obtain ⟨y25, rfl⟩ := enc_int Tryz.underlying3 (enc_row hts hrow 25 x25 rfl rfl)
  obtain ⟨y26, rfl⟩ := enc_int Tryz.underlying3 (enc_row hts hrow 26 x26 rfl rfl)
  obtain ⟨y27, rfl⟩ := enc_bool Tryz.underlying4 (enc_row hts hrow 27 x27 rfl rfl)
  obtain ⟨y28, rfl⟩ := enc_str Tryz.underlying9 (enc_row hts hrow 28 x28 rfl rfl)
  obtain ⟨y29, rfl⟩ := enc_str Tryz.underlying9 (enc_row hts hrow 29 x29 rfl rfl)
  obtain ⟨y30, rfl⟩ := enc_int Tryz.underlying3 (enc_row hts hrow 30 x30 rfl rfl)
  obtain ⟨y31, rfl⟩ := enc_int Tryz.underlying3 (enc_row hts hrow 31 x31 rfl rfl)
  exact ⟨⟨y0, y1, y2, y3, y4, y5, y6, y7, y8, y9, y10, y11, y12, y13, y14, y15, y16, y17, y18, y19, y20, y21, y22, y24, y25, y26, y27, y28, y29, y30, y31⟩, a1, n1, c1, a2, n2, c2, by unfold En.vals; rfl, o1, o2⟩
/-- the same as open_islice', and the length is at most the capacity -/
theorem open_islice_c {H : Type} {enc : TypeId × Value → H} {W : World} {r : Reach} {base : Nat} {v : Value} {d : DataW H} {p : List MemPlace} (hv : Value.okWide Tryz.prog W r base 24 v) (h : DataW.Trod enc Tryz.prog W 0 (fun _ => true) true 24 v d p) :
    ∃ (a : Option Addr) (n c : Nat), v = .slice a n c ∧ n ≤ c ∧ (n ≤ 1000 → ∃ l : List Int, l.length = n ∧ IS W v l) := by
  obtain ⟨a, n, c, rfl, o⟩ := open_islice' hv h
  refine ⟨a, n, c, rfl, ?_, o⟩
  obtain ⟨fuel, hf⟩ := h
  rcases open_ints Tryz.underlying24 Tryz.underlying3 (by kernel_rfl) hf with ⟨h1, -⟩ | ⟨a', len, cap, zs, h1, -, hl, -⟩
  · have := List.head_eq_of_cons_eq h1
    injection this with _ e2 e3
    omega
  · have := List.head_eq_of_cons_eq h1
    injection this with _ e2 e3
    omega
end Go.Proofs.YtihbihkmchacnaaGreatDoor

end
section
/- Contract of dasdlaw33.few. -/
namespace Go.Proofs.YtihbihkmchacnaaGreatDoor
open Go.RowKit
set_option maxHeartbeats 8000000
set_option maxRecDepth 8000
attribute [local go_sem] vals_0 vals_1 vals_18 vals_19 vals_23 vals_28 vals_29 vals_32
/-- grants that can be read, however many -/
def GR (w : World) (a : Option Addr) (n : Nat) : Prop := n ≤ 9223372036854775807 ∧ ∀ k, k < n → ∃ (b o : Nat) (g : Gr), a = some ⟨b, o, none⟩ ∧ b < w.heap.size ∧ w.cell? ⟨b, o + k * 3, none⟩ = some (.string g.1) ∧ w.cell? ⟨b, o + k * 3 + 1, none⟩ = some (.bool g.2.1) ∧ w.cell? ⟨b, o + k * 3 + 2, none⟩ = some (.int .i64 g.2.2)
def fewP (e : En) (n1 n2 : Nat) : Prop := e.name.size ≤ 60 ∧ n1 ≤ 8 ∧ n2 ≤ 12
def FV (w wr : World) (cs : Array Value) : Prop := Below w.heap.size w wr ∧ row wr w.heap.size = cs ∧ w.heap.size < wr.heap.size
def FewR (e : En) (n1 n2 : Nat) (w w' : World) (r : Ending) : Prop := ∃ b : Bool, r = .returned (.bool b) ∧ (b = true → fewP e n1 n2) ∧ Below w.heap.size w w'
theorem FewR.no {e : En} {n1 n2 : Nat} {w w' : World} (h : Below w.heap.size w w') : FewR e n1 n2 w w' (.returned (.bool false)) := ⟨false, rfl, (fun h => by cases h), h⟩
theorem few33 (e : En) (a1 a2 : Option Addr) (n1 c1 n2 c2 : Nat) (w : World) (hG : GR w a2 n2) :
    Calls Tryz.prog 16 #[.agg (e.vals (.slice a1 n1 c1) (.slice a2 n2 c2))] w fun r w' => FewR e n1 n2 w w' r := by
  obtain ⟨hn, hG⟩ := hG
  have HG := Lib.hid hG
  clear hG
  go_enter Tryz.func16, Tryz.ntmps16
  go_wp2_with fail
  go_loopw [8] (fun i wr => ∃ k : Nat, k ≤ n2 ∧ i = .int .i64 k ∧ FV w wr (e.vals (.slice a1 n1 c1) (.slice a2 n2 c2))) (fun i _ => n2 - (intOf i).toNat)
  case atStart => exact ⟨0, Nat.zero_le _, rfl, by (repeat (first | exact Below.refl _ _ | assumption | (refine Below.drew ?_) | (refine Below.alloc ?_ (by first | (simp; done) | (simp; omega) | omega) _) | (refine Below.setCell ?_ (by first | (simp; done) | (simp; omega) | omega) _))), row_new _ _ _ _, by simp⟩
  case round =>
    obtain ⟨k, hk, rfl, hB, hrow, hlt⟩ := hrel
    by_cases hkn : k < n2
    · obtain ⟨b, o, g, rfl, hb, g0, g1, g2⟩ := HG.out k hkn
      have q0 := (hB.cell (p := ⟨b, o + k * 3, none⟩) hb).trans g0
      have q1 := (hB.cell (p := ⟨b, o + k * 3 + 1, none⟩) hb).trans g1
      have q2 := (hB.cell (p := ⟨b, o + k * 3 + 2, none⟩) hb).trans g2
      obtain ⟨gw, gg, gl⟩ := g
      simp only at q0 q1 q2
      clear g0 g1 g2
      have z0 := hB.size
      by_cases h20 : 20 < gw.size
      · go_wp2_with fail
        go_ret
        exact FewR.no (by (repeat (first | exact Below.refl _ _ | assumption | (refine Below.drew ?_) | (refine Below.alloc ?_ (by first | (simp; done) | (simp; omega) | omega) _) | (refine Below.setCell ?_ (by first | (simp; done) | (simp; omega) | omega) _))))
      · go_wp2_with fail
        go_roundw
        case rel => exact ⟨k + 1, by omega, by go_num, by (repeat (first | exact Below.refl _ _ | assumption | (refine Below.drew ?_) | (refine Below.alloc ?_ (by first | (simp; done) | (simp; omega) | omega) _) | (refine Below.setCell ?_ (by first | (simp; done) | (simp; omega) | omega) _))), row_below ((Below.refl _ _).alloc (Nat.le_refl _) _) hrow (by simp [vals_size]), by simp; omega⟩
        case measure => simp [intOf]; omega
    · have v1 := cell_row hrow 1 _ (vals_1 e _ _)
      have v18 := cell_row hrow 18 _ (vals_18 e _ _)
      have v19 := cell_row hrow 19 _ (vals_19 e _ _)
      have v23 := cell_row hrow 23 _ (vals_23 e _ _)
      have v28 := cell_row hrow 28 _ (vals_28 e _ _)
      have v29 := cell_row hrow 29 _ (vals_29 e _ _)
      have v32 := cell_row hrow 32 _ (vals_32 e _ _)
      by_cases h1 : e.name.size ≤ 60
      rotate_left
      · have q1 : decide ((e.name.size : Int) ≤ 60) = false := by rw [decide_eq_false_iff_not]; omega
        clear h1
        go_wp2_with fail
        go_ret
        exact FewR.no hB
      have q1 : decide ((e.name.size : Int) ≤ 60) = true := by rw [decide_eq_true_eq]; omega
      by_cases h2 : n1 ≤ 8
      rotate_left
      · have q2 : decide ((n1 : Int) ≤ 8) = false := by rw [decide_eq_false_iff_not]; omega
        clear h2
        go_wp2_with fail
        go_ret
        exact FewR.no hB
      have q2 : decide ((n1 : Int) ≤ 8) = true := by rw [decide_eq_true_eq]; omega
      by_cases h3 : n2 ≤ 12
      rotate_left
      · have q3 : decide ((n2 : Int) ≤ 12) = false := by rw [decide_eq_false_iff_not]; omega
        clear h3
        go_wp2_with fail
        go_ret
        exact FewR.no hB
      have q3 : decide ((n2 : Int) ≤ 12) = true := by rw [decide_eq_true_eq]; omega
      have HP : Hid (fewP e n1 n2) := Lib.hid ⟨h1, h2, h3⟩
      clear h1 h2 h3
      go_wp2_with fail
      go_ret
      exact ⟨_, rfl, fun _ => HP.out, hB⟩
end Go.Proofs.YtihbihkmchacnaaGreatDoor

end
section
/- The grants of an entry among the arguments can be read, however many. -/
namespace Go.Proofs.YtihbihkmchacnaaGreatDoor
open Go.ChangeShapes Go.WideShapes Go.RowKit
set_option maxRecDepth 100000
theorem open_gr {H : Type} {enc : TypeId × Value → H} {W : World} {fuel : Nat} {a2 : Option Addr} {n2 c2 : Nat} {x : DataW H × List MemPlace} (h : DataW.trod enc Tryz.prog W 0 (fun _ => true) true fuel 25 [.slice a2 n2 c2] = some x) : GR W a2 n2 := by
  rcases Go.Deep.open_slice Tryz.underlying25 h with ⟨h1, -⟩ | ⟨a, len, cap, m, f, D, Pl, h1, -, hl, hmax, hm, -, hi⟩
  · have := List.head_eq_of_cons_eq h1
    injection this with e1 e2 e3
    subst e2
    exact ⟨by omega, fun k hk => by omega⟩
  · have := List.head_eq_of_cons_eq h1
    injection this with e1 e2 e3
    subst e1 e2 e3
    refine ⟨by simp only [maxLen] at hmax; omega, fun k hk => ?_⟩
    have e3 : Tryz.prog.cellsOf 51 = 3 := by kernel_rfl
    obtain ⟨cs, hc, ht⟩ := hi k (by rw [hm]; split <;> omega)
    rw [e3] at hc
    obtain ⟨_, hcl, hat⟩ := World.cells?_some hc
    obtain ⟨y0, y1, y2, n', -, -, f0, f1, f2⟩ := Go.Deep.trod_struct3 Tryz.underlying51 ht
    match cs, hcl with
    | [c0, c1, c2], _ =>
      obtain ⟨b, e0, -⟩ := DataW.trod_string Tryz.underlying9 f0
      obtain ⟨g, e1, -⟩ := DataW.trod_bool Tryz.underlying4 f1
      obtain ⟨l, e2, -⟩ := DataW.trod_int Tryz.underlying3 f2
      have k0 : c0 = .string b := List.head_eq_of_cons_eq e0
      have k1 : c1 = .bool g := List.head_eq_of_cons_eq e1
      have k2 : c2 = .int .i64 l := List.head_eq_of_cons_eq e2
      subst k0 k1 k2
      have z0 := hat 0 (by omega)
      have z1 := hat 1 (by omega)
      have z2 := hat 2 (by omega)
      have hs : a.spot = none := by
        obtain ⟨cs', hc', -⟩ := hi 0 (by rw [hm]; split <;> omega)
        rw [e3] at hc'
        obtain ⟨_, hcl', hat'⟩ := World.cells?_some hc'
        match cs', hcl' with
        | [_, _, _], _ =>
          have := World.cell?_spot (hat' 0 (by omega))
          simpa [Addr.add] using this
      obtain ⟨bb, o, s⟩ := a
      simp only at hs
      subst hs
      refine ⟨bb, o, (b, g, l), rfl, ?_, ?_, ?_, ?_⟩
      · have := World.block_lt_of_cell? W _ z0
        rw [Addr.add_mid, Addr.add_mid] at this
        exact this
      · simpa [Addr.add_mid] using z0
      · simpa [Addr.add_mid] using z1
      · simpa [Addr.add_mid] using z2
theorem en_gr {H : Type} {enc : TypeId × Value → H} {W : World} {e : En} {a1 a2 : Option Addr} {n1 c1 n2 c2 : Nat} {d : DataW H} {p : List MemPlace} (h : DataW.Trod enc Tryz.prog W 0 (fun _ => true) true 27 (.agg (e.vals (.slice a1 n1 c1) (.slice a2 n2 c2))) d p) : GR W a2 n2 := by
  obtain ⟨fuel, hf⟩ := h
  unfold En.vals at hf
  obtain ⟨xs, n, -, -, -, hxs, hfs⟩ := DataW.trod_struct Tryz.underlying27 hf
  have hx1 : xs[12]? = some (xs[12]'(by rw [hxs]; decide)) := List.getElem?_eq_getElem _
  have s2 := (hfs 12 _ rfl).trans hx1
  exact open_gr s2
end Go.Proofs.YtihbihkmchacnaaGreatDoor

end
section
/- The walks of EntryReturns and EntryCuts: Decode inverts Encode; no part of a record, and no record with a further byte, is a record. -/
namespace Go.Proofs.YtihbihkmchacnaaGreatDoor
open Go.RowKit
set_option maxHeartbeats 8000000
set_option maxRecDepth 8000
/-- the record, as a text -/
def recB (x : Fu) : ByteArray := ⟨(recX x).toArray⟩
theorem recB_bl (x : Fu) : Ds.bl (recB x) = recX x := Ds.bl_mk _
theorem recB_size (x : Fu) (h : okX x = true) : 32 ≤ (recB x).size ∧ (recB x).size ≤ 200 := by
  rw [← Ds.bl_length, recB_bl]
  refine ⟨?_, recX_len x h⟩
  unfold recX; rw [List.length_append, keyX_len x h]; omega
theorem dec_ok (x : Fu) (hx : okX x = true) (w : World) (hm : MaxL w) (hT : Tab w) :
    Calls Tryz.prog 28 #[.string (recB x)] w fun r w' => ∃ al gr, r = .returned (.tuple #[.agg (x.1.vals al gr), .int .i64 0]) ∧ IS w' al x.2.1 ∧ GS w' gr x.2.2 ∧ Below w.heap.size w w' := by
  refine (en_decode (recB x) w hm hT).mono ?_
  rintro r w' ⟨y, al, gr, code, rfl, h1, h2, hb, h3⟩
  have hd := decX_rec x hx (recX_len _ hx)
  rw [recB_bl, hd] at h3
  rcases h3 with ⟨h, rfl⟩ | ⟨h, _⟩
  · cases Option.some.inj h
    exact ⟨al, gr, rfl, h1, h2, hb⟩
  · cases h
theorem dec_bad (s : ByteArray) (hx : decX (Ds.bl s) = none) (w : World) (hm : MaxL w) (hT : Tab w) :
    Calls Tryz.prog 28 #[.string s] w fun r w' => ∃ al gr, r = .returned (.tuple #[.agg (En.zero.vals al gr), .int .i64 11]) ∧ allOne (En.zero.vals al gr).toList = true ∧ Below w.heap.size w w' := by
  refine (en_decode s w hm hT).mono ?_
  rintro r w' ⟨y, al, gr, code, rfl, h1, h2, hb, h3⟩
  rw [hx] at h3
  rcases h3 with ⟨h, _⟩ | ⟨_, rfl, rfl⟩
  · cases h
  · exact ⟨al, gr, rfl, vals_one _ _ _ (is_one h1) (gs_one h2), hb⟩
theorem cut_none (x : Fu) (hx : okX x = true) (k : Nat) (hk : k < (recX x).length) : decX ((recX x).take k) = none := by
  cases h : decX ((recX x).take k) with
  | none => rfl
  | some y =>
    obtain ⟨hy, hr⟩ := decX_sound _ _ h
    have := rec_prefix x y ((recX x).drop k) hx hy (by rw [hr, List.take_append_drop])
    have hl := congrArg List.length this
    rw [List.length_drop] at hl
    simp at hl
    omega
theorem more_none (x : Fu) (hx : okX x = true) (b : UInt8) : decX (recX x ++ [b]) = none := by
  cases h : decX (recX x ++ [b]) with
  | none => rfl
  | some y =>
    obtain ⟨hy, hr⟩ := decX_sound _ _ h
    have := rec_prefix y x [b] hy hx hr
    cases this
theorem enc_no (x : Fu) (al gr : Value) (w : World) (hm : MaxL w) (hT : Tab w) (hsz : x.1.name.size ≤ 1000) (hx : okX x = false) (h1 : IS w al x.2.1) (h2 : GS w gr x.2.2) :
    Calls Tryz.prog 26 #[.agg (x.1.vals al gr)] w fun r w' => r = .returned (.tuple #[.string ⟨#[]⟩, .int .i64 1]) ∧ Below w.heap.size w w' := by
  refine (en_encode x.1 al gr x.2.1 x.2.2 w hm hT hsz h1 h2).mono ?_
  rintro r w' ⟨t, rfl, ht, hb⟩
  rw [show okX (x.1, x.2.1, x.2.2) = false from hx] at ht ⊢
  simp only [Bool.false_eq_true, if_false] at ht ⊢
  have : t = ⟨#[]⟩ := Ds.bl_inj ht
  subst this
  exact ⟨rfl, hb⟩
theorem key_prefix (x : Fu) : Lib.hasPrefix (Ds.bl (recB x)) (keyX x) = true := by
  rw [recB_bl]
  unfold recX Lib.hasPrefix
  rw [List.isPrefixOf_iff_prefix]
  exact List.prefix_append _ _
attribute [local go_sem ↓] ldEnt stEnt
attribute [local go_sem] isHead_mk headOf_mk cellsOfV_mk isAggV_mk row_new row_new2 row_new2' row_drew row_drewN vals_size allOne_nil allOne_cons one_int one_bool one_string one_pointer one_slice one_func
/-- few, by cases -/
theorem few_two (e : En) (a1 a2 : Option Addr) (n1 c1 n2 c2 : Nat) (w : World) (hG : GR w a2 n2) (o1 : n1 ≤ 1000 → ∃ l : List Int, l.length = n1 ∧ IS w (.slice a1 n1 c1) l) (o2 : n2 ≤ 1000 → ∃ l : List Gr, l.length = n2 ∧ GS w (.slice a2 n2 c2) l) (W : World) (hB : Below w.heap.size w W) :
    Calls Tryz.prog 16 #[.agg (e.vals (.slice a1 n1 c1) (.slice a2 n2 c2))] W fun r w' => Below W.heap.size W w' ∧ (r = .returned (.bool false) ∨ r = .returned (.bool true) ∧ Hid (e.name.size ≤ 60 ∧ ∃ (l1 : List Int) (l2 : List Gr), IS w (.slice a1 n1 c1) l1 ∧ GS w (.slice a2 n2 c2) l2)) := by
  have hG' : GR W a2 n2 := ⟨hG.1, fun k hk => by
    obtain ⟨b, o, g, h1, h2, h3, h4, h5⟩ := hG.2 k hk
    exact ⟨b, o, g, h1, Nat.lt_of_lt_of_le h2 hB.size, (hB.cell (p := ⟨b, o + k * 3, none⟩) h2).trans h3, (hB.cell (p := ⟨b, o + k * 3 + 1, none⟩) h2).trans h4, (hB.cell (p := ⟨b, o + k * 3 + 2, none⟩) h2).trans h5⟩⟩
  refine (few33 e a1 a2 n1 c1 n2 c2 W hG').mono ?_
  rintro r w' ⟨b, rfl, hb, hB2⟩
  refine ⟨hB2, ?_⟩
  cases b
  · exact Or.inl rfl
  · obtain ⟨h1, h2, h3⟩ := hb rfl
    obtain ⟨l1, _, i1⟩ := o1 (by omega)
    obtain ⟨l2, _, i2⟩ := o2 (by omega)
    exact Or.inr ⟨rfl, Lib.hid ⟨h1, l1, l2, i1, i2⟩⟩
/-- Valid, by cases -/
theorem val_two (e : En) (l1 : List Int) (l2 : List Gr) (al gr : Value) (w : World) (hm : MaxL w) (hT : Tab w) (hsz : e.name.size ≤ 1000) (h1 : IS w al l1) (h2 : GS w gr l2) :
    Calls Tryz.prog 17 #[.agg (e.vals al gr)] w fun r w' => Below w.heap.size w w' ∧ (r = .returned (.bool false) ∨ r = .returned (.bool true) ∧ Hid (okX (e, l1, l2) = true)) := by
  refine (va_any e al gr l1 l2 w hm hT hsz h1 h2).mono ?_
  rintro r w' ⟨rfl, hb⟩
  refine ⟨hb, ?_⟩
  cases h : okX (e, l1, l2)
  · exact Or.inl rfl
  · exact Or.inr ⟨rfl, Lib.hid rfl⟩
theorem dec_ok2 (e : En) (l1 : List Int) (l2 : List Gr) (hx : okX (e, l1, l2) = true) (w : World) (hm : MaxL w) (hT : Tab w) :
    Calls Tryz.prog 28 #[.string (recB (e, l1, l2))] w fun r w' => ∃ al gr, r = .returned (.tuple #[.agg (e.vals al gr), .int .i64 0]) ∧ IS w' al l1 ∧ GS w' gr l2 ∧ Below w.heap.size w w' := dec_ok (e, l1, l2) hx w hm hT
theorem enc_rec2 (e : En) (l1 : List Int) (l2 : List Gr) (al gr : Value) (w : World) (hm : MaxL w) (hT : Tab w) (hx : okX (e, l1, l2) = true) (h1 : IS w al l1) (h2 : GS w gr l2) :
    Calls Tryz.prog 26 #[.agg (e.vals al gr)] w fun r w' => r = .returned (.tuple #[.string (recB (e, l1, l2)), .int .i64 0]) ∧ Below w.heap.size w w' := enc_rec (e, l1, l2) al gr (recB (e, l1, l2)) w hm hT hx (recB_bl _).symm h1 h2
theorem same_refl (e : En) (l1 : List Int) (l2 : List Gr) (al gr al' gr' : Value) (w : World) (h1 : IS w al l1) (h2 : GS w gr l2) (h3 : IS w al' l1) (h4 : GS w gr' l2) :
    Calls Tryz.prog 19 #[.agg (e.vals al gr), .agg (e.vals al' gr')] w fun r w' => r = .returned (.bool true) ∧ Below w.heap.size w w' := by
  have := en_same e e al gr al' gr' l1 l1 l2 l2 w h1 h3 h2 h4
  rw [(sameE_eq e e l1 l1 l2 l2).2 ⟨rfl, rfl, rfl⟩] at this
  exact this
def keyR (x : Fu) : ByteArray := ⟨(keyX x).toArray⟩
theorem er_key (e : En) (l1 : List Int) (l2 : List Gr) (w : World) : Calls Tryz.prog 21 #[.int .i64 e.kind, .string e.name] w fun r w' => r = .returned (.string (keyR (e, l1, l2))) ∧ Below w.heap.size w w' := by
  refine (en_key e.kind e.name w).mono ?_
  rintro r w' ⟨t, rfl, ht, hb⟩
  have : t = keyR (e, l1, l2) := Ds.bl_inj (ht.trans (Ds.bl_mk _).symm)
  subst this
  exact ⟨rfl, hb⟩
theorem er_pre (x : Fu) (w : World) : Calls Tryz.prog 30 #[.string (recB x), .string (keyR x)] w fun r w' => r = .returned (.bool true) ∧ Below w.heap.size w w' := by
  refine (Tryz.strings_HasPrefix (recB x) (keyR x) w).mono ?_
  rintro r w' ⟨rfl, rfl⟩
  have h := key_prefix x
  rw [show keyX x = Ds.bl (keyR x) from (Ds.bl_mk _).symm] at h
  exact ⟨by rw [show (recB x).data.toList = Ds.bl (recB x) from rfl, show (keyR x).data.toList = Ds.bl (keyR x) from rfl, h], Below.refl _ _⟩
theorem law_returns (e : En) (a1 a2 : Option Addr) (n1 c1 n2 c2 : Nat) (w : World) (hm : MaxL w) (hT : Tab w) (o1 : n1 ≤ 1000 → ∃ l : List Int, l.length = n1 ∧ IS w (.slice a1 n1 c1) l) (o2 : n2 ≤ 1000 → ∃ l : List Gr, l.length = n2 ∧ GS w (.slice a2 n2 c2) l) (hG : GR w a2 n2) :
    Calls Tryz.prog 6 #[.agg (e.vals (.slice a1 n1 c1) (.slice a2 n2 c2))] w fun r w' => r = .returned (.bool true) ∧ Below w.heap.size w w' := by
  have HAW := Lib.hid (fun W (b : Below w.heap.size w W) => aw33 W (hm.below b) (hT.below b))
  have HF := Lib.hid (few_two e a1 a2 n1 c1 n2 c2 w hG o1 o2)
  clear o1 o2 hG
  go_enter Tryz.func6, Tryz.ntmps6
  go_wp2_with (first
    | (go_at_call 15; (with_reducible refine (HAW.out _ (by (repeat (first | exact Below.refl _ _ | assumption | (refine Below.drew ?_) | (refine Below.alloc ?_ (by first | (simp; done) | (simp; omega) | omega) _) | (refine Below.setCell ?_ (by first | (simp; done) | (simp; omega) | omega) _))))).mono ?_); rintro _ w1 ⟨rfl, hb⟩; have R1 := row_below hb (row_new w _ _ _) (by simp [vals_size]); have B1 := below_al hb; clear hb)
    | (go_at_call 16; (refine (HF.out _ B1).mono ?_); rintro _ w2 ⟨hb, hh⟩; have R2 := row_below hb R1 (by simp [vals_size]); have B2 := bt B1 hb; clear hb; rcases hh with rfl | ⟨rfl, hh⟩; rotate_left 1; obtain ⟨hz, l1, l2, i1, i2⟩ := hh.out)
    | (go_at_call 17; have b6 := B6; clear b6; (refine (val_rec (e, l1, l2) al gr _ (hm.below B6) (hT.below B6) hx.out (HI.out.below B56) (HG.out.below B56)).mono ?_); rintro _ w7 ⟨rfl, hb⟩; have R7 := row_below hb R6 (by simp [vals_size]); have n0 := cell_row R7 0 _ (vals_0 e _ _); have n1' := cell_row R7 1 _ (vals_1 e _ _); have B7 := bt B6 hb; clear hb)
    | (go_at_call 17; (refine (val_two e l1 l2 _ _ _ (hm.below B2) (hT.below B2) (by omega) (i1.below B2) (i2.below B2)).mono ?_); rintro _ w3 ⟨hb, hv⟩; have R3 := row_below hb R2 (by simp [vals_size]); have B3 := bt B2 hb; clear hb; rcases hv with rfl | ⟨rfl, hx⟩)
    | (go_at_call 26; (refine (enc_rec2 e l1 l2 _ _ _ (hm.below B3) (hT.below B3) hx.out (i1.below B3) (i2.below B3)).mono ?_); rintro _ w4 ⟨rfl, hb⟩; have R4 := row_below hb R3 (by simp [vals_size]); have B4 := bt B3 hb; have hs2 := (recB_size _ hx.out).2; clear hb)
    | (go_at_call 28; (refine (dec_ok2 e l1 l2 hx.out _ (hm.below B4) (hT.below B4)).mono ?_); rintro _ w5 ⟨al, gr, rfl, hI, hG, hb⟩; have R5 := row_below (hb.alloc (Nat.le_trans (Nat.le_refl _) hb.size) (.cells (e.vals al gr) 27)) R4 (by simp [vals_size]); have B5 := bt B4 hb; have hone := vals_one e al gr (is_one hI) (gs_one hG); have HI := Lib.hid hI; have HG := Lib.hid hG; clear hb hI hG)
    | (go_at_call 19; (refine (same_refl e l1 l2 _ _ _ _ _ (i1.below (B5.alloc B5.size _)) (i2.below (B5.alloc B5.size _)) (HI.out.below ((Below.refl _ _).alloc (Nat.le_refl _) _)) (HG.out.below ((Below.refl _ _).alloc (Nat.le_refl _) _))).mono ?_); rintro _ w6 ⟨rfl, hb⟩; have R6 := row_below hb R5 (by simp [vals_size]); have X6 := row_below hb (row_new w5 _ _ _) (by simp [vals_size]); have B56 := below_al hb; have B6 := bt B5 B56; clear hb)
    | (go_at_call 21; (refine (er_key e l1 l2 _).mono ?_); rintro _ w8 ⟨rfl, hb⟩; have B8 := bt B7 hb; clear hb)
    | (go_at_call 30; (refine (er_pre (e, l1, l2) _).mono ?_); rintro _ w9 ⟨rfl, hb⟩; have B9 := bt B8 hb; clear hb))
  all_goals
    first
      | (exfalso; omega)
      | (go_ret
         exact ⟨rfl, by first | exact B9 | exact B3 | exact B2⟩)
end Go.Proofs.YtihbihkmchacnaaGreatDoor

end
section
/- The walk of EntryCuts: no part of a record, and no record with a further byte, is a record. -/
namespace Go.Proofs.YtihbihkmchacnaaGreatDoor
open Go.RowKit
set_option maxHeartbeats 8000000
set_option maxRecDepth 8000
attribute [local go_sem ↓] ldEnt stEnt
attribute [local go_sem] isHead_mk headOf_mk cellsOfV_mk isAggV_mk row_new row_new2 row_new2' row_drew row_drewN vals_size allOne_nil allOne_cons one_int one_bool one_string one_pointer one_slice one_func
/-- Encode, by cases -/
theorem enc_two (e : En) (l1 : List Int) (l2 : List Gr) (al gr : Value) (w : World) (hm : MaxL w) (hT : Tab w) (hsz : e.name.size ≤ 1000) (h1 : IS w al l1) (h2 : GS w gr l2) :
    Calls Tryz.prog 26 #[.agg (e.vals al gr)] w fun r w' => Below w.heap.size w w' ∧ (r = .returned (.tuple #[.string ⟨#[]⟩, .int .i64 1]) ∨ r = .returned (.tuple #[.string (recB (e, l1, l2)), .int .i64 0]) ∧ Hid (okX (e, l1, l2) = true)) := by
  cases h : okX (e, l1, l2)
  · refine (enc_no (e, l1, l2) al gr w hm hT hsz h h1 h2).mono ?_
    rintro r w' ⟨rfl, hb⟩
    exact ⟨hb, Or.inl rfl⟩
  · refine (enc_rec2 e l1 l2 al gr w hm hT h h1 h2).mono ?_
    rintro r w' ⟨rfl, hb⟩
    exact ⟨hb, Or.inr ⟨rfl, Lib.hid rfl⟩⟩
theorem dec_cut (x : Fu) (hx : okX x = true) (k : Nat) (hk : k < (recB x).size) (w : World) (hm : MaxL w) (hT : Tab w) :
    Calls Tryz.prog 28 #[.string ((recB x).extract 0 k)] w fun r w' => ∃ al gr, r = .returned (.tuple #[.agg (En.zero.vals al gr), .int .i64 11]) ∧ allOne (En.zero.vals al gr).toList = true ∧ Below w.heap.size w w' := by
  refine dec_bad _ ?_ w hm hT
  have : Ds.bl ((recB x).extract 0 k) = (recX x).take k := by
    rw [← recB_bl]
    unfold Ds.bl
    rw [ByteArray.data_extract]
    simp
  rw [this]
  exact cut_none x hx k (by rw [← recB_bl, Ds.bl_length]; exact hk)
theorem dec_more (x : Fu) (hx : okX x = true) (b : UInt8) (w : World) (hm : MaxL w) (hT : Tab w) :
    Calls Tryz.prog 28 #[.string (recB x ++ ⟨#[b]⟩)] w fun r w' => ∃ al gr, r = .returned (.tuple #[.agg (En.zero.vals al gr), .int .i64 11]) ∧ allOne (En.zero.vals al gr).toList = true ∧ Below w.heap.size w w' := by
  refine dec_bad _ ?_ w hm hT
  have : Ds.bl (recB x ++ ⟨#[b]⟩) = recX x ++ [b] := by
    rw [← recB_bl]
    unfold Ds.bl
    simp
  rw [this]
  exact more_none x hx b
theorem law_cuts (e : En) (a1 a2 : Option Addr) (n1 c1 n2 c2 : Nat) (p q : UInt8) (w : World) (hm : MaxL w) (hT : Tab w) (o1 : n1 ≤ 1000 → ∃ l : List Int, l.length = n1 ∧ IS w (.slice a1 n1 c1) l) (o2 : n2 ≤ 1000 → ∃ l : List Gr, l.length = n2 ∧ GS w (.slice a2 n2 c2) l) (hG : GR w a2 n2) :
    Calls Tryz.prog 9 #[.agg (e.vals (.slice a1 n1 c1) (.slice a2 n2 c2)), .int .u8 (p.toNat : Nat), .int .u8 (q.toNat : Nat)] w fun r w' => r = .returned (.bool true) ∧ Below w.heap.size w w' := by
  have HAW := Lib.hid (fun W (b : Below w.heap.size w W) => aw33 W (hm.below b) (hT.below b))
  have HF := Lib.hid (few_two e a1 a2 n1 c1 n2 c2 w hG o1 o2)
  clear o1 o2 hG
  have hp := p.toNat_lt
  have hq := q.toNat_lt
  have hcv := conv_at q
  go_enter Tryz.func9, Tryz.ntmps9
  go_wp2_with (first
    | (go_at_call 15; (with_reducible refine (HAW.out _ (by (repeat (first | exact Below.refl _ _ | assumption | (refine Below.drew ?_) | (refine Below.alloc ?_ (by first | (simp; done) | (simp; omega) | omega) _) | (refine Below.setCell ?_ (by first | (simp; done) | (simp; omega) | omega) _))))).mono ?_); rintro _ w1 ⟨rfl, hb⟩; have R1 := row_below hb (row_new w _ _ _) (by simp [vals_size]); have B1 := below_al hb; clear hb)
    | (go_at_call 16; (refine (HF.out _ B1).mono ?_); rintro _ w2 ⟨hb, hh⟩; have R2 := row_below hb R1 (by simp [vals_size]); have B2 := bt B1 hb; clear hb; rcases hh with rfl | ⟨rfl, hh⟩; rotate_left 1; obtain ⟨hz, l1, l2, i1, i2⟩ := hh.out)
    | (go_at_call 26; (refine (enc_two e l1 l2 _ _ _ (hm.below B2) (hT.below B2) (by omega) (i1.below B2) (i2.below B2)).mono ?_); rintro _ w4 ⟨hb, hh⟩; have B4 := bt B2 hb; clear hb; rcases hh with rfl | ⟨rfl, hx⟩; rotate_left 1; have hs2 := recB_size _ hx.out; have HM := Lib.hid (fun W (b : Below w.heap.size w W) => dec_more (e, l1, l2) hx.out q W (hm.below b) (hT.below b)); have HC := Lib.hid (fun k (hk : k < (recB (e, l1, l2)).size) W (b : Below w.heap.size w W) => dec_cut (e, l1, l2) hx.out k hk W (hm.below b) (hT.below b)); generalize recB (e, l1, l2) = s at hs2 HM HC ⊢; obtain ⟨hs1, hs2⟩ := hs2; have hmod : 0 ≤ (p.toNat : Int) % (s.size : Int) ∧ (p.toNat : Int) % (s.size : Int) ≤ (s.size : Int) := ⟨Int.emod_nonneg _ (by omega), Int.le_of_lt (Int.emod_lt_of_pos _ (by omega))⟩)
    | (go_at_call 28; have b5 := B5; clear b5; (refine (HM.out _ (by (repeat (first | exact Below.refl _ _ | assumption | (refine Below.drew ?_) | (refine Below.alloc ?_ (by first | (simp; done) | (simp; omega) | omega) _) | (refine Below.setCell ?_ (by first | (simp; done) | (simp; omega) | omega) _))))).mono ?_); rintro _ w6 ⟨al, gr, rfl, hone, hb⟩; have B6 : Below w.heap.size w w6 := Below.trans (show Below w.heap.size w _ by (repeat (first | exact Below.refl _ _ | assumption | (refine Below.drew ?_) | (refine Below.alloc ?_ (by first | (simp; done) | (simp; omega) | omega) _) | (refine Below.setCell ?_ (by first | (simp; done) | (simp; omega) | omega) _)))) (hb.mono (by simp; try omega)); clear hb)
    | (go_at_call 28; (refine (HC.out (p.toNat % s.size) (Nat.mod_lt _ (by omega)) _ B4).mono ?_); rintro _ w5 ⟨al, gr, rfl, hone, hb⟩; have B5 := bt B4 hb; have z5 := B5.size; clear hb))
  all_goals
    go_ret
    exact ⟨rfl, by first | exact B6.alloc B6.size _ | exact B6 | exact B4 | exact B2⟩
theorem law_cuts_any (e : En) (a1 a2 : Option Addr) (n1 c1 n2 c2 : Nat) (n m : Int) (w : World) (hm : MaxL w) (hT : Tab w) (o1 : n1 ≤ 1000 → ∃ l : List Int, l.length = n1 ∧ IS w (.slice a1 n1 c1) l) (o2 : n2 ≤ 1000 → ∃ l : List Gr, l.length = n2 ∧ GS w (.slice a2 n2 c2) l) (hG : GR w a2 n2) (bn : IntKind.u8.min ≤ n ∧ n ≤ IntKind.u8.max) (bm : IntKind.u8.min ≤ m ∧ m ≤ IntKind.u8.max) :
    Calls Tryz.prog 9 #[.agg (e.vals (.slice a1 n1 c1) (.slice a2 n2 c2)), .int .u8 n, .int .u8 m] w fun r w' => r = .returned (.bool true) ∧ Below w.heap.size w w' := by
  have e1 : IntKind.u8.min = 0 := rfl
  have e2 : IntKind.u8.max = 255 := rfl
  rw [e1, e2] at bn bm
  have h := law_cuts e a1 a2 n1 c1 n2 c2 (UInt8.ofNat n.toNat) (UInt8.ofNat m.toNat) w hm hT o1 o2 hG
  have hn : ((UInt8.ofNat n.toNat).toNat : Int) = n := by rw [UInt8.toNat_ofNat']; omega
  have hk : ((UInt8.ofNat m.toNat).toNat : Int) = m := by rw [UInt8.toNat_ofNat']; omega
  rw [hn, hk] at h
  exact h
end Go.Proofs.YtihbihkmchacnaaGreatDoor

end
section
/- The statement EntryReturns: the walk, the frame of the row, the card. Conditions: none beyond the statement. -/
namespace Go.Proofs.YtihbihkmchacnaaGreatDoor.entryReturns
open Go.ChangeShapes Go.WideShapes Go.ChangeAt Go.RowKit Go.Proofs.YtihbihkmchacnaaGreatDoor
open Go.ChangeMaps (open_string)

set_option maxRecDepth 100000 in
theorem contract (H : Type) (enc : TypeId × Value → H) (W : World) (base : Nat) (args : Array Value) (ds gs : List (DataW H)) (before : List MemPlace)
    (hval : ∀ (j : Nat) t v, Tryz.f6.params[j]? = some t → args[j]? = some v → Value.okWide Tryz.prog W .any base t v)
    (hW : DataW.Whole enc Tryz.prog Tryz.f6.params.toList Rows.entryReturnsSpec.vars false W args.toList ds gs before) (hL : laidMetH Tryz.prog Rows.entryReturnsRow.laid W) (hS : W.ShapedOpen Tryz.prog) :
    Calls Tryz.prog 6 args W fun e W' => ∃ v, e = .returned v ∧ Rows.entryReturnsSpec.post enc Tryz.prog Tryz.f6 false true false false W args v W' := by
  have hW' := hW
  have hlt : ∀ x ∈ before, x.block < W.heap.size := fun x hx => by simpa using hW'.lt x hx
  obtain ⟨p, q, hA0, hV, rfl, hfz, hnd⟩ := hW
  have hA : DataW.TrodAll enc Tryz.prog W 0 (fun _ => true) true Tryz.f6.params.toList args.toList ds p := hA0
  have hK := hA
  rw [Tryz.params6] at hA hval
  obtain ⟨v0, vs0, d0, ds0, p0, q0, hargs, rfl, rfl, h0, r0⟩ := trodAll_cons hA
  obtain ⟨rfl, rfl, rfl⟩ := trodAll_nil r0
  obtain rfl : args = #[v0] := by cases args; simp_all
  obtain ⟨rfl, rfl⟩ := trodVars_none hV
  obtain ⟨e0, a0, n0, c0, x0, m0, k0, rfl, o0, u0⟩ := open_en (hval 0 27 v0 rfl rfl) h0
  rw [MakeChecks.laidMetH_plain _ _ _ (by kernel_rfl)] at hL
  refine (law_returns e0 a0 x0 n0 c0 m0 k0 W (max_of hS) (tab_of hL) o0 u0 (en_gr h0)).mono fun e W' ⟨he, hb⟩ => ?_
  subst he
  exact ⟨_, rfl, _, _, _, [], _, [], hW', trodAll_cons_mk (shut_bool Tryz.underlying4 _) trodAll_mk0, args_below hb (by rw [Tryz.params6]; kernel_rfl) hK (fun x hx => hlt x (by simpa using hx)), rfl, hb.frame _, fun h => by cases h⟩

def zEnt : Value := .agg #[.int .i64 0, .string ⟨#[]⟩, .int .i64 0, .int .i64 0, .int .i64 0, .int .i64 0, .int .i64 0, .int .i64 0, .int .i64 0, .int .i64 0, .int .i64 0, .int .i64 0, .int .i64 0, .int .i64 0, .int .i64 0, .int .i64 0, .bool false, .int .i64 0, .string ⟨#[]⟩, .string ⟨#[]⟩, .int .i64 0, .int .i64 0, .bool false, .slice none 0 0, .int .i64 0, .int .i64 0, .int .i64 0, .bool false, .string ⟨#[]⟩, .string ⟨#[]⟩, .int .i64 0, .int .i64 0, .slice none 0 0]
def dEnt {H : Type} : DataW H := .agg [.lit (.int .i64 0), .lit (.string []), .agg [.lit (.int .i64 0), .lit (.int .i64 0), .lit (.int .i64 0), .lit (.int .i64 0), .lit (.int .i64 0), .lit (.int .i64 0), .lit (.int .i64 0), .lit (.int .i64 0), .lit (.int .i64 0), .lit (.int .i64 0), .lit (.int .i64 0), .lit (.int .i64 0), .lit (.int .i64 0), .lit (.int .i64 0), .lit (.bool false), .lit (.int .i64 0), .lit (.string []), .lit (.string []), .lit (.int .i64 0), .lit (.int .i64 0), .lit (.bool false)], .nil, .lit (.int .i64 0), .lit (.int .i64 0), .lit (.int .i64 0), .lit (.bool false), .lit (.string []), .lit (.string []), .lit (.int .i64 0), .lit (.int .i64 0), .nil]

theorem laid_met (os : Os) : laidMetH Tryz.prog Rows.entryReturnsRow.laid ((World.laidAll Tryz.prog os Rows.entryReturnsRow.laid).forCall (fun _ _ => 0) ⟨#[], #[(zEnt : Value)], []⟩).memory := by
  rw [MakeChecks.laidMetH_plain _ _ _ (by kernel_rfl)]; exact laidMet_laidAll _ (by kernel_rfl) (by kernel_rfl)
theorem reads (os : Os) {H : Type} (enc : TypeId × Value → H) : ∃ places, DataW.whole enc Tryz.prog ((World.laidAll Tryz.prog os Rows.entryReturnsRow.laid).forCall (fun _ _ => 0) ⟨#[], #[(zEnt : Value)], []⟩).memory Tryz.f6.params.toList Rows.entryReturnsSpec.vars false #[(zEnt : Value)].toList 8 = some ([dEnt], [], places) :=
  ⟨[], by kernel_rfl⟩

set_option maxRecDepth 100000 in
theorem lifted (os : Os) (started : os.Started) (H : Type) (enc : TypeId × Value → H) (F : Stop.Interp) :
    ReturnsInHanded {} Tryz.checked os 6 .any ((OpenSpec.ofChange Rows.entryReturnsSpec).preRow enc Tryz.prog Tryz.f6 Rows.entryReturnsRow.domain false Rows.entryReturnsRow.laid) (((OpenSpec.ofChange Rows.entryReturnsSpec).at F).post enc Tryz.prog Tryz.f6 false true false false) := by
  obtain ⟨places, hx⟩ := reads os enc
  refine returnsInHanded_of_row (C := Tryz.checked) (s := OpenSpec.ofChange Rows.entryReturnsSpec) ownk started (by kernel_rfl) Tryz.func6
    (witness_lay (enc := enc) (C := Tryz.checked) false #[(zEnt : Value)] (World.shaped_of_ZipB (by kernel_rfl) (by kernel_rfl)) (by kernel_rfl)
      (OpenSpec.preRow_of_cond 8 hx (by kernel_rfl) (fun k hk => by cases hk) (by kernel_rfl) (laid_met os))) ?_
  intro W base args ds gs before hval hW _ _ _ hL hS _
  exact contract H enc W base args ds gs before hval hW hL hS

theorem said : Rows.EntryReturnsSaid :=
  OpenClaim.holds_of_cond 6 Tryz.f6 rfl rfl rfl rfl rfl rfl rfl ⟨rfl, rfl, rfl, rfl, rfl⟩ rfl rfl rfl rfl rfl (by kernel_rfl) Tryz.func6 (by kernel_rfl)
    (of_decide_eq_true (by kernel_rfl)) (by unfold Func.isWrapper; first | (rw [if_pos (by decide +kernel)]; kernel_rfl) | (rw [if_neg (by decide +kernel)]; exact ⟨rfl, rfl⟩))
    (fun os started H enc _ F => by rw [OpenClaim.pre_eq_preRow]; exact lifted os started H enc F)

theorem plain (f : FuncId) (fn : Func) (hf : Tryz.pinned.checked.prog.funcNamed Rows.entryReturnsRow.func = some f) (hfn : Tryz.pinned.checked.prog.funcs[f]? = some fn) :
    false = Tryz.pinned.checked.prog.looks [] ∧ ∀ (j : Nat) t, fn.params[j]? = some t → Tryz.pinned.checked.prog.wantsStandIn t = false := by
  obtain rfl : f = 6 := Option.some.inj ((show Tryz.prog.funcNamed Rows.entryReturnsRow.func = some 6 by kernel_rfl).symm.trans hf) |>.symm
  obtain rfl : fn = Tryz.f6 := (Option.some.inj (Tryz.func6.symm.trans hfn)).symm
  refine ⟨by kernel_rfl, fun j t ht => ?_⟩
  rw [Tryz.params6] at ht
  have hm := Array.mem_of_getElem? ht
  have ha : (#[27] : Array TypeId).all (fun t => !Tryz.prog.wantsStandIn t) = true := by kernel_rfl
  have := (Array.all_eq_true_iff_forall_mem.1 ha) t hm
  exact (show Tryz.prog.wantsStandIn t = false by simpa using this)

/-- THE CARD -/
theorem card : Rows.EntryReturnsCardSaid :=
  Claim7.holds_tied_plain_at .later [] _ _ _ _ said (fun _ h => by cases h) (by kernel_rfl) (fun _ h => by cases h) entryReturns_row_tie rfl ⟨rfl, rfl⟩ (by kernel_rfl) rfl plain (by kernel_rfl)
end Go.Proofs.YtihbihkmchacnaaGreatDoor.entryReturns

end
section
/- The statement EntryCuts: the walk, the frame of the row, the card. Conditions: none beyond the statement. -/
namespace Go.Proofs.YtihbihkmchacnaaGreatDoor.entryCuts
open Go.ChangeShapes Go.WideShapes Go.ChangeAt Go.RowKit Go.Proofs.YtihbihkmchacnaaGreatDoor
open Go.ChangeMaps (open_string)

set_option maxRecDepth 100000 in
theorem contract (H : Type) (enc : TypeId × Value → H) (W : World) (base : Nat) (args : Array Value) (ds gs : List (DataW H)) (before : List MemPlace)
    (hval : ∀ (j : Nat) t v, Tryz.f9.params[j]? = some t → args[j]? = some v → Value.okWide Tryz.prog W .any base t v)
    (hW : DataW.Whole enc Tryz.prog Tryz.f9.params.toList Rows.entryCutsSpec.vars false W args.toList ds gs before) (hL : laidMetH Tryz.prog Rows.entryCutsRow.laid W) (hS : W.ShapedOpen Tryz.prog) :
    Calls Tryz.prog 9 args W fun e W' => ∃ v, e = .returned v ∧ Rows.entryCutsSpec.post enc Tryz.prog Tryz.f9 false true false false W args v W' := by
  have hW' := hW
  have hlt : ∀ x ∈ before, x.block < W.heap.size := fun x hx => by simpa using hW'.lt x hx
  obtain ⟨p, q, hA0, hV, rfl, hfz, hnd⟩ := hW
  have hA : DataW.TrodAll enc Tryz.prog W 0 (fun _ => true) true Tryz.f9.params.toList args.toList ds p := hA0
  have hK := hA
  rw [Tryz.params9] at hA hval
  obtain ⟨v0, vs0, d0, ds0, p0, q0, hargs, rfl, rfl, h0, r0⟩ := trodAll_cons hA
  obtain ⟨v1, vs1, d1, ds1, p1, q1, rfl, rfl, rfl, h1, r1⟩ := trodAll_cons r0
  obtain ⟨v2, vs2, d2, ds2, p2, q2, rfl, rfl, rfl, h2, r2⟩ := trodAll_cons r1
  obtain ⟨rfl, rfl, rfl⟩ := trodAll_nil r2
  obtain rfl : args = #[v0, v1, v2] := by cases args; simp_all
  obtain ⟨rfl, rfl⟩ := trodVars_none hV
  obtain ⟨e0, a0, n0, c0, x0, m0, k0, rfl, o0, u0⟩ := open_en (hval 0 27 v0 rfl rfl) h0
  obtain ⟨n1, rfl⟩ := okWide_int Tryz.underlying5 (hval 1 5 v1 rfl rfl)
  have b1 := int_bounds Tryz.underlying5 (hval 1 5 _ rfl rfl)
  obtain ⟨n2, rfl⟩ := okWide_int Tryz.underlying5 (hval 2 5 v2 rfl rfl)
  have b2 := int_bounds Tryz.underlying5 (hval 2 5 _ rfl rfl)
  rw [MakeChecks.laidMetH_plain _ _ _ (by kernel_rfl)] at hL
  refine (law_cuts_any e0 a0 x0 n0 c0 m0 k0 n1 n2 W (max_of hS) (tab_of hL) o0 u0 (en_gr h0) b1 b2).mono fun e W' ⟨he, hb⟩ => ?_
  subst he
  exact ⟨_, rfl, _, _, _, [], _, [], hW', trodAll_cons_mk (shut_bool Tryz.underlying4 _) trodAll_mk0, args_below hb (by rw [Tryz.params9]; kernel_rfl) hK (fun x hx => hlt x (by simpa using hx)), rfl, hb.frame _, fun h => by cases h⟩

def zEnt : Value := .agg #[.int .i64 0, .string ⟨#[]⟩, .int .i64 0, .int .i64 0, .int .i64 0, .int .i64 0, .int .i64 0, .int .i64 0, .int .i64 0, .int .i64 0, .int .i64 0, .int .i64 0, .int .i64 0, .int .i64 0, .int .i64 0, .int .i64 0, .bool false, .int .i64 0, .string ⟨#[]⟩, .string ⟨#[]⟩, .int .i64 0, .int .i64 0, .bool false, .slice none 0 0, .int .i64 0, .int .i64 0, .int .i64 0, .bool false, .string ⟨#[]⟩, .string ⟨#[]⟩, .int .i64 0, .int .i64 0, .slice none 0 0]
def dEnt {H : Type} : DataW H := .agg [.lit (.int .i64 0), .lit (.string []), .agg [.lit (.int .i64 0), .lit (.int .i64 0), .lit (.int .i64 0), .lit (.int .i64 0), .lit (.int .i64 0), .lit (.int .i64 0), .lit (.int .i64 0), .lit (.int .i64 0), .lit (.int .i64 0), .lit (.int .i64 0), .lit (.int .i64 0), .lit (.int .i64 0), .lit (.int .i64 0), .lit (.int .i64 0), .lit (.bool false), .lit (.int .i64 0), .lit (.string []), .lit (.string []), .lit (.int .i64 0), .lit (.int .i64 0), .lit (.bool false)], .nil, .lit (.int .i64 0), .lit (.int .i64 0), .lit (.int .i64 0), .lit (.bool false), .lit (.string []), .lit (.string []), .lit (.int .i64 0), .lit (.int .i64 0), .nil]

theorem laid_met (os : Os) : laidMetH Tryz.prog Rows.entryCutsRow.laid ((World.laidAll Tryz.prog os Rows.entryCutsRow.laid).forCall (fun _ _ => 0) ⟨#[], #[(zEnt : Value), (.int .u8 0 : Value), (.int .u8 0 : Value)], []⟩).memory := by
  rw [MakeChecks.laidMetH_plain _ _ _ (by kernel_rfl)]; exact laidMet_laidAll _ (by kernel_rfl) (by kernel_rfl)
theorem reads (os : Os) {H : Type} (enc : TypeId × Value → H) : ∃ places, DataW.whole enc Tryz.prog ((World.laidAll Tryz.prog os Rows.entryCutsRow.laid).forCall (fun _ _ => 0) ⟨#[], #[(zEnt : Value), (.int .u8 0 : Value), (.int .u8 0 : Value)], []⟩).memory Tryz.f9.params.toList Rows.entryCutsSpec.vars false #[(zEnt : Value), (.int .u8 0 : Value), (.int .u8 0 : Value)].toList 8 = some ([dEnt, .lit (.int .u8 0), .lit (.int .u8 0)], [], places) :=
  ⟨[], by kernel_rfl⟩

set_option maxRecDepth 100000 in
theorem lifted (os : Os) (started : os.Started) (H : Type) (enc : TypeId × Value → H) (F : Stop.Interp) :
    ReturnsInHanded {} Tryz.checked os 9 .any ((OpenSpec.ofChange Rows.entryCutsSpec).preRow enc Tryz.prog Tryz.f9 Rows.entryCutsRow.domain false Rows.entryCutsRow.laid) (((OpenSpec.ofChange Rows.entryCutsSpec).at F).post enc Tryz.prog Tryz.f9 false true false false) := by
  obtain ⟨places, hx⟩ := reads os enc
  refine returnsInHanded_of_row (C := Tryz.checked) (s := OpenSpec.ofChange Rows.entryCutsSpec) ownk started (by kernel_rfl) Tryz.func9
    (witness_lay (enc := enc) (C := Tryz.checked) false #[(zEnt : Value), (.int .u8 0 : Value), (.int .u8 0 : Value)] (World.shaped_of_ZipB (by kernel_rfl) (by kernel_rfl)) (by kernel_rfl)
      (OpenSpec.preRow_of_cond 8 hx (by kernel_rfl) (fun k hk => by cases hk) (by kernel_rfl) (laid_met os))) ?_
  intro W base args ds gs before hval hW _ _ _ hL hS _
  exact contract H enc W base args ds gs before hval hW hL hS

theorem said : Rows.EntryCutsSaid :=
  OpenClaim.holds_of_cond 9 Tryz.f9 rfl rfl rfl rfl rfl rfl rfl ⟨rfl, rfl, rfl, rfl, rfl⟩ rfl rfl rfl rfl rfl (by kernel_rfl) Tryz.func9 (by kernel_rfl)
    (of_decide_eq_true (by kernel_rfl)) (by unfold Func.isWrapper; first | (rw [if_pos (by decide +kernel)]; kernel_rfl) | (rw [if_neg (by decide +kernel)]; exact ⟨rfl, rfl⟩))
    (fun os started H enc _ F => by rw [OpenClaim.pre_eq_preRow]; exact lifted os started H enc F)

theorem plain (f : FuncId) (fn : Func) (hf : Tryz.pinned.checked.prog.funcNamed Rows.entryCutsRow.func = some f) (hfn : Tryz.pinned.checked.prog.funcs[f]? = some fn) :
    false = Tryz.pinned.checked.prog.looks [] ∧ ∀ (j : Nat) t, fn.params[j]? = some t → Tryz.pinned.checked.prog.wantsStandIn t = false := by
  obtain rfl : f = 9 := Option.some.inj ((show Tryz.prog.funcNamed Rows.entryCutsRow.func = some 9 by kernel_rfl).symm.trans hf) |>.symm
  obtain rfl : fn = Tryz.f9 := (Option.some.inj (Tryz.func9.symm.trans hfn)).symm
  refine ⟨by kernel_rfl, fun j t ht => ?_⟩
  rw [Tryz.params9] at ht
  have hm := Array.mem_of_getElem? ht
  have ha : (#[27, 5, 5] : Array TypeId).all (fun t => !Tryz.prog.wantsStandIn t) = true := by kernel_rfl
  have := (Array.all_eq_true_iff_forall_mem.1 ha) t hm
  exact (show Tryz.prog.wantsStandIn t = false by simpa using this)

/-- THE CARD -/
theorem card : Rows.EntryCutsCardSaid :=
  Claim7.holds_tied_plain_at .later [] _ _ _ _ said (fun _ h => by cases h) (by kernel_rfl) (fun _ h => by cases h) entryCuts_row_tie rfl ⟨rfl, rfl⟩ (by kernel_rfl) rfl plain (by kernel_rfl)
end Go.Proofs.YtihbihkmchacnaaGreatDoor.entryCuts

end
