/- Several texts in one: FrameEo LaEf CardEf. -/
import Derived.Test.YtdfdjfnfmibpjaaGreatDoorFrameEn
import Derived.Test.YtdfdjfnfmibpjaaGreatDoorFewE
import Derived.Test.YtdfdjfnfmibpjaaGreatDoorAwE
import Derived.Test.YtdfdjfnfmibpjaaGreatDoorTxE
import Derived.Test.YtdfdjfnfmibpjaaGreatDoorTxT
import Derived.Deep.RegionHeld3
import Derived.Test.YtdfdjfnfmibpjaaGreatDoorJEntryForms
section
/- Entries among the arguments (the openings). -/
namespace Go.Proofs.YtdfdjfnfmibpjaaGreatDoor
open Go.ChangeShapes Go.WideShapes Go.RowKit
set_option maxRecDepth 100000
theorem open_isliceN {H : Type} {enc : TypeId × Value → H} {W : World} {fuel : Nat} {v : Value} {x : DataW H × List MemPlace} (h : DataW.trod enc Tryz.prog W 0 (fun _ => true) true fuel 24 [v] = some x) :
    ∃ (a : Option Addr) (n c : Nat), v = .slice a n c ∧ (n ≤ 1000 → ∃ l : List Int, l.length = n ∧ IS W v l) := by
  rcases open_ints Tryz.underlying24 Tryz.underlying3 (by kernel_rfl) h with ⟨h1, -⟩ | ⟨a, len, cap, zs, h1, -, hl, -, hz, -, hc, -⟩
  · obtain rfl : v = .slice none 0 0 := by simpa using h1
    exact ⟨none, 0, 0, rfl, fun _ => ⟨[], rfl, IS.nil W⟩⟩
  · obtain rfl : v = .slice (some a) len cap := by simpa using h1
    refine ⟨some a, len, cap, rfl, fun hn => ⟨zs.take len, by rw [List.length_take]; split at hz <;> omega, ?_⟩⟩
    have hlen : (zs.take len).length = len := by rw [List.length_take]; split at hz <;> omega
    refine ⟨some a, cap, by rw [hlen], by omega, fun h0 => ?_⟩
    rw [hlen] at h0
    have hzl : len ≤ zs.length := by split at hz <;> omega
    have c0 := hc 0 (by omega)
    have hs : a.spot = none := by
      have := World.cell?_spot c0
      simpa [Addr.add] using this
    obtain ⟨b, o, s⟩ := a
    simp only at hs
    subst hs
    refine ⟨b, o, rfl, ?_, fun k hk => ?_⟩
    · have := World.block_lt_of_cell? W _ c0
      simpa [Addr.add] using this
    · rw [hlen] at hk
      have := hc k (by omega)
      rw [Addr.add_mid] at this
      rw [this]
      simp [List.getD_eq_getElem?_getD, List.getElem?_eq_getElem (show k < zs.length by omega)]
theorem enc_rowN {P : Program} {w : World} {r : Reach} {base : Nat} {t u : TypeId} {cs : Array Value} {ts : List TypeId} (hts : P.cellTypes P.depth t = some ts) (h : Row.okWide P w r base t cs) (i : Nat) (v : Value) (hv : cs[i]? = some v) (hu : ts[i % ts.length]? = some u) : Cell.okWide P w r base u v := by
  obtain ⟨ts', h1, _, h2⟩ := h
  obtain rfl : ts = ts' := Option.some.inj (hts.symm.trans h1)
  obtain ⟨u', a, b⟩ := h2 i v hv
  obtain rfl : u = u' := Option.some.inj (hu.symm.trans a)
  exact b
theorem enc_intN {P : Program} {w : World} {r : Reach} {base : Nat} {u : TypeId} {k : IntKind} {v : Value} (hu : P.underlying u = some (.int k)) (h : Cell.okWide P w r base u v) : ∃ n, v = .int k n := by
  cases v <;> simp_all [Cell.okWide, Cell.ok]
theorem enc_boolN {P : Program} {w : World} {r : Reach} {base : Nat} {u : TypeId} {v : Value} (hu : P.underlying u = some .bool) (h : Cell.okWide P w r base u v) : ∃ b, v = .bool b := by
  cases v <;> simp_all [Cell.okWide, Cell.ok]
theorem enc_strN {P : Program} {w : World} {r : Reach} {base : Nat} {u : TypeId} {v : Value} (hu : P.underlying u = some .string) (h : Cell.okWide P w r base u v) : ∃ b, v = .string b := by
  cases v <;> simp_all [Cell.okWide, Cell.ok]
theorem enc_cellsN {P : Program} {w : World} {r : Reach} {base : Nat} {t : TypeId} {v : Value} {fs : Array Field} (ht : P.underlying t = some (.struct fs)) (h : Value.okWide P w r base t v) : ∃ cs, v = .agg cs ∧ cs.size = P.cellsOf t ∧ Row.okWide P w r base t cs := by
  simpa only [Value.okWide, ht] using h
theorem open_gsliceN {H : Type} {enc : TypeId × Value → H} {W : World} {fuel : Nat} {v : Value} {x : DataW H × List MemPlace} (h : DataW.trod enc Tryz.prog W 0 (fun _ => true) true fuel 25 [v] = some x) :
    ∃ (a : Option Addr) (n c : Nat), v = .slice a n c ∧ (n ≤ 1000 → ∃ l : List Gr, l.length = n ∧ GS W v l) := by
  rcases Go.Deep.open_slice Tryz.underlying25 h with ⟨h1, -⟩ | ⟨a, len, cap, m, f, D, Pl, h1, -, hl, -, hm, -, hi⟩
  · obtain rfl : v = .slice none 0 0 := by simpa using h1
    exact ⟨none, 0, 0, rfl, fun _ => ⟨[], rfl, GS.nil W⟩⟩
  · obtain rfl : v = .slice (some a) len cap := by simpa using h1
    refine ⟨some a, len, cap, rfl, fun hn => ?_⟩
    have e3 : Tryz.prog.cellsOf 82 = 3 := by kernel_rfl
    have each : ∀ i, i < len → ∃ g : Gr, W.cell? (a.add (i * 3)) = some (.string g.1) ∧ W.cell? ((a.add (i * 3)).add 1) = some (.bool g.2.1) ∧ W.cell? ((a.add (i * 3)).add 2) = some (.int .i64 g.2.2) := fun i hlt => by
      obtain ⟨cs, hc, ht⟩ := hi i (by rw [hm]; split <;> omega)
      rw [e3] at hc
      obtain ⟨_, hcl, hat⟩ := World.cells?_some hc
      obtain ⟨y0, y1, y2, n', -, -, f0, f1, f2⟩ := Go.Deep.trod_struct3 Tryz.underlying82 ht
      match cs, hcl with
      | [c0, c1, c2], _ =>
        obtain ⟨b, e0, -⟩ := DataW.trod_string Tryz.underlying9 f0
        obtain ⟨g, e1, -⟩ := DataW.trod_bool Tryz.underlying4 f1
        obtain ⟨l, e2, -⟩ := DataW.trod_int Tryz.underlying3 f2
        have k0 : c0 = .string b := List.head_eq_of_cons_eq e0
        have k1 : c1 = .bool g := List.head_eq_of_cons_eq e1
        have k2 : c2 = .int .i64 l := List.head_eq_of_cons_eq e2
        subst k0 k1 k2
        exact ⟨(b, g, l), by simpa [Addr.add] using hat 0 (by omega), hat 1 (by omega), hat 2 (by omega)⟩
    let G : Nat → Gr := fun i => if h : i < len then Classical.choose (each i h) else (⟨#[]⟩, false, 0)
    have hG : ∀ i, i < len → W.cell? (a.add (i * 3)) = some (.string (G i).1) ∧ W.cell? ((a.add (i * 3)).add 1) = some (.bool (G i).2.1) ∧ W.cell? ((a.add (i * 3)).add 2) = some (.int .i64 (G i).2.2) := fun i hlt => by
      have := Classical.choose_spec (each i hlt)
      simp only [G, dif_pos hlt]; exact this
    refine ⟨(List.range len).map G, by simp, some a, cap, by simp, by simp; omega, fun h0 => ?_⟩
    have h0' : 0 < len := by simpa using h0
    have c0 := (hG 0 h0').1
    have hs : a.spot = none := by
      have := World.cell?_spot c0
      simpa [Addr.add] using this
    obtain ⟨b, o, s⟩ := a
    simp only at hs
    subst hs
    refine ⟨b, o, rfl, ?_, fun k hk => ?_⟩
    · have := World.block_lt_of_cell? W _ c0
      simpa [Addr.add] using this
    · have hk' : k < len := by simpa using hk
      have := hG k hk'
      rw [Addr.add_mid, Addr.add_mid, Addr.add_mid] at this
      simpa using this
theorem open_enN {H : Type} {enc : TypeId × Value → H} {W : World} {r : Reach} {base : Nat} {v : Value} {d : DataW H} {p : List MemPlace} (hv : Value.okWide Tryz.prog W r base 27 v) (h : DataW.Trod enc Tryz.prog W 0 (fun _ => true) true 27 v d p) :
    ∃ (e : En) (a1 : Option Addr) (n1 c1 : Nat) (a2 : Option Addr) (n2 c2 : Nat), v = .agg (e.vals (.slice a1 n1 c1) (.slice a2 n2 c2)) ∧ (n1 ≤ 1000 → ∃ l : List Int, l.length = n1 ∧ IS W (.slice a1 n1 c1) l) ∧ (n2 ≤ 1000 → ∃ l : List Gr, l.length = n2 ∧ GS W (.slice a2 n2 c2) l) := by
  obtain ⟨⟨l⟩, rfl, hsz, hrow⟩ := enc_cellsN Tryz.underlying27 hv
  have e : Tryz.prog.cellsOf 27 = 33 := by kernel_rfl
  rw [e] at hsz
  have hts : Tryz.prog.cellTypes Tryz.prog.depth 27 = some [3, 9, 3, 3, 3, 3, 3, 3, 3, 3, 3, 3, 3, 3, 3, 3, 4, 3, 9, 9, 3, 3, 4, 24, 3, 3, 3, 4, 9, 9, 3, 3, 25] := by kernel_rfl
  rcases l with _ | ⟨x0, _ | ⟨x1, _ | ⟨x2, _ | ⟨x3, _ | ⟨x4, _ | ⟨x5, _ | ⟨x6, _ | ⟨x7, _ | ⟨x8, _ | ⟨x9, _ | ⟨x10, _ | ⟨x11, _ | ⟨x12, _ | ⟨x13, _ | ⟨x14, _ | ⟨x15, _ | ⟨x16, _ | ⟨x17, _ | ⟨x18, _ | ⟨x19, _ | ⟨x20, _ | ⟨x21, _ | ⟨x22, _ | ⟨x23, _ | ⟨x24, _ | ⟨x25, _ | ⟨x26, _ | ⟨x27, _ | ⟨x28, _ | ⟨x29, _ | ⟨x30, _ | ⟨x31, _ | ⟨x32, _ | ⟨x33, l⟩⟩⟩⟩⟩⟩⟩⟩⟩⟩⟩⟩⟩⟩⟩⟩⟩⟩⟩⟩⟩⟩⟩⟩⟩⟩⟩⟩⟩⟩⟩⟩⟩⟩ <;> simp at hsz
  obtain ⟨fuel, hf⟩ := h
  obtain ⟨xs, n, -, -, -, hxs, hfs⟩ := DataW.trod_struct Tryz.underlying27 hf
  have hx0 : xs[3]? = some (xs[3]'(by rw [hxs]; decide)) := List.getElem?_eq_getElem _
  have hx1 : xs[12]? = some (xs[12]'(by rw [hxs]; decide)) := List.getElem?_eq_getElem _
  have s1 := (hfs 3 _ rfl).trans hx0
  have s2 := (hfs 12 _ rfl).trans hx1
  obtain ⟨a1, n1, c1, rfl, o1⟩ := open_isliceN (v := x23) s1
  obtain ⟨a2, n2, c2, rfl, o2⟩ := open_gsliceN (v := x32) s2
  clear hfs hx0 hx1 s1 s2 hf
  obtain ⟨y0, rfl⟩ := enc_intN Tryz.underlying3 (enc_rowN hts hrow 0 x0 rfl rfl)
  obtain ⟨y1, rfl⟩ := enc_strN Tryz.underlying9 (enc_rowN hts hrow 1 x1 rfl rfl)
  obtain ⟨y2, rfl⟩ := enc_intN Tryz.underlying3 (enc_rowN hts hrow 2 x2 rfl rfl)
  obtain ⟨y3, rfl⟩ := enc_intN Tryz.underlying3 (enc_rowN hts hrow 3 x3 rfl rfl)
  obtain ⟨y4, rfl⟩ := enc_intN Tryz.underlying3 (enc_rowN hts hrow 4 x4 rfl rfl)
  obtain ⟨y5, rfl⟩ := enc_intN Tryz.underlying3 (enc_rowN hts hrow 5 x5 rfl rfl)
  obtain ⟨y6, rfl⟩ := enc_intN Tryz.underlying3 (enc_rowN hts hrow 6 x6 rfl rfl)
  obtain ⟨y7, rfl⟩ := enc_intN Tryz.underlying3 (enc_rowN hts hrow 7 x7 rfl rfl)
  obtain ⟨y8, rfl⟩ := enc_intN Tryz.underlying3 (enc_rowN hts hrow 8 x8 rfl rfl)
  obtain ⟨y9, rfl⟩ := enc_intN Tryz.underlying3 (enc_rowN hts hrow 9 x9 rfl rfl)
  obtain ⟨y10, rfl⟩ := enc_intN Tryz.underlying3 (enc_rowN hts hrow 10 x10 rfl rfl)
  obtain ⟨y11, rfl⟩ := enc_intN Tryz.underlying3 (enc_rowN hts hrow 11 x11 rfl rfl)
  obtain ⟨y12, rfl⟩ := enc_intN Tryz.underlying3 (enc_rowN hts hrow 12 x12 rfl rfl)
  obtain ⟨y13, rfl⟩ := enc_intN Tryz.underlying3 (enc_rowN hts hrow 13 x13 rfl rfl)
  obtain ⟨y14, rfl⟩ := enc_intN Tryz.underlying3 (enc_rowN hts hrow 14 x14 rfl rfl)
  obtain ⟨y15, rfl⟩ := enc_intN Tryz.underlying3 (enc_rowN hts hrow 15 x15 rfl rfl)
  obtain ⟨y16, rfl⟩ := enc_boolN Tryz.underlying4 (enc_rowN hts hrow 16 x16 rfl rfl)
  obtain ⟨y17, rfl⟩ := enc_intN Tryz.underlying3 (enc_rowN hts hrow 17 x17 rfl rfl)
  obtain ⟨y18, rfl⟩ := enc_strN Tryz.underlying9 (enc_rowN hts hrow 18 x18 rfl rfl)
  obtain ⟨y19, rfl⟩ := enc_strN Tryz.underlying9 (enc_rowN hts hrow 19 x19 rfl rfl)
  obtain ⟨y20, rfl⟩ := enc_intN Tryz.underlying3 (enc_rowN hts hrow 20 x20 rfl rfl)
  obtain ⟨y21, rfl⟩ := enc_intN Tryz.underlying3 (enc_rowN hts hrow 21 x21 rfl rfl)
  obtain ⟨y22, rfl⟩ := enc_boolN Tryz.underlying4 (enc_rowN hts hrow 22 x22 rfl rfl)
  obtain ⟨y24, rfl⟩ := enc_intN Tryz.underlying3 (enc_rowN hts hrow 24 x24 rfl rfl)
  obtain ⟨y25, rfl⟩ := enc_intN Tryz.underlying3 (enc_rowN hts hrow 25 x25 rfl rfl)
  obtain ⟨y26, rfl⟩ := enc_intN Tryz.underlying3 (enc_rowN hts hrow 26 x26 rfl rfl)
  obtain ⟨y27, rfl⟩ := enc_boolN Tryz.underlying4 (enc_rowN hts hrow 27 x27 rfl rfl)
  obtain ⟨y28, rfl⟩ := enc_strN Tryz.underlying9 (enc_rowN hts hrow 28 x28 rfl rfl)
  obtain ⟨y29, rfl⟩ := enc_strN Tryz.underlying9 (enc_rowN hts hrow 29 x29 rfl rfl)
  obtain ⟨y30, rfl⟩ := enc_intN Tryz.underlying3 (enc_rowN hts hrow 30 x30 rfl rfl)
  obtain ⟨y31, rfl⟩ := enc_intN Tryz.underlying3 (enc_rowN hts hrow 31 x31 rfl rfl)
  exact ⟨⟨y0, y1, y2, y3, y4, y5, y6, y7, y8, y9, y10, y11, y12, y13, y14, y15, y16, y17, y18, y19, y20, y21, y22, y24, y25, y26, y27, y28, y29, y30, y31⟩, a1, n1, c1, a2, n2, c2, by unfold En.vals; rfl, o1, o2⟩
theorem open_grN {H : Type} {enc : TypeId × Value → H} {W : World} {fuel : Nat} {a2 : Option Addr} {n2 c2 : Nat} {x : DataW H × List MemPlace} (h : DataW.trod enc Tryz.prog W 0 (fun _ => true) true fuel 25 [.slice a2 n2 c2] = some x) : GR W a2 n2 := by
  rcases Go.Deep.open_slice Tryz.underlying25 h with ⟨h1, -⟩ | ⟨a, len, cap, m, f, D, Pl, h1, -, hl, hmax, hm, -, hi⟩
  · have := List.head_eq_of_cons_eq h1
    injection this with e1 e2 e3
    subst e2
    exact ⟨by omega, fun k hk => by omega⟩
  · have := List.head_eq_of_cons_eq h1
    injection this with e1 e2 e3
    subst e1 e2 e3
    refine ⟨by simp only [maxLen] at hmax; omega, fun k hk => ?_⟩
    have e3 : Tryz.prog.cellsOf 82 = 3 := by kernel_rfl
    obtain ⟨cs, hc, ht⟩ := hi k (by rw [hm]; split <;> omega)
    rw [e3] at hc
    obtain ⟨_, hcl, hat⟩ := World.cells?_some hc
    obtain ⟨y0, y1, y2, n', -, -, f0, f1, f2⟩ := Go.Deep.trod_struct3 Tryz.underlying82 ht
    match cs, hcl with
    | [c0, c1, c2], _ =>
      obtain ⟨b, e0, -⟩ := DataW.trod_string Tryz.underlying9 f0
      obtain ⟨g, e1, -⟩ := DataW.trod_bool Tryz.underlying4 f1
      obtain ⟨l, e2, -⟩ := DataW.trod_int Tryz.underlying3 f2
      have k0 : c0 = .string b := List.head_eq_of_cons_eq e0
      have k1 : c1 = .bool g := List.head_eq_of_cons_eq e1
      have k2 : c2 = .int .i64 l := List.head_eq_of_cons_eq e2
      subst k0 k1 k2
      have z0 := hat 0 (by omega)
      have z1 := hat 1 (by omega)
      have z2 := hat 2 (by omega)
      have hs : a.spot = none := by
        obtain ⟨cs', hc', -⟩ := hi 0 (by rw [hm]; split <;> omega)
        rw [e3] at hc'
        obtain ⟨_, hcl', hat'⟩ := World.cells?_some hc'
        match cs', hcl' with
        | [_, _, _], _ =>
          have := World.cell?_spot (hat' 0 (by omega))
          simpa [Addr.add] using this
      obtain ⟨bb, o, s⟩ := a
      simp only at hs
      subst hs
      refine ⟨bb, o, (b, g, l), rfl, ?_, ?_, ?_, ?_⟩
      · have := World.block_lt_of_cell? W _ z0
        rw [Addr.add_mid, Addr.add_mid] at this
        exact this
      · simpa [Addr.add_mid] using z0
      · simpa [Addr.add_mid] using z1
      · simpa [Addr.add_mid] using z2
theorem en_grN {H : Type} {enc : TypeId × Value → H} {W : World} {e : En} {a1 a2 : Option Addr} {n1 c1 n2 c2 : Nat} {d : DataW H} {p : List MemPlace} (h : DataW.Trod enc Tryz.prog W 0 (fun _ => true) true 27 (.agg (e.vals (.slice a1 n1 c1) (.slice a2 n2 c2))) d p) : GR W a2 n2 := by
  obtain ⟨fuel, hf⟩ := h
  unfold En.vals at hf
  obtain ⟨xs, n, -, -, -, hxs, hfs⟩ := DataW.trod_struct Tryz.underlying27 hf
  have hx1 : xs[12]? = some (xs[12]'(by rw [hxs]; decide)) := List.getElem?_eq_getElem _
  have s2 := (hfs 12 _ rfl).trans hx1
  exact open_grN s2
end Go.Proofs.YtdfdjfnfmibpjaaGreatDoor

end
section
/- The walk of EntryForms. -/
namespace Go.Proofs.YtdfdjfnfmibpjaaGreatDoor
open Go.RowKit
set_option maxHeartbeats 32000000
set_option linter.unusedSimpArgs false
set_option maxRecDepth 8000
/-- a list of texts as a result -/
def TL (w : World) (v : Value) (l : List ByteArray) : Prop := (l = [] ∧ v = .slice none 0 0) ∨ ∃ g n c, n = l.length ∧ v = .slice (some ⟨g, 0, none⟩) n c ∧ Strs w g l ∧ g < w.heap.size ∧ 0 < n
theorem TL.below {w w' : World} {v : Value} {l : List ByteArray} (h : TL w v l) (hb : Below w.heap.size w w') : TL w' v l := by
  rcases h with h | ⟨g, n, c, h1, h2, h3, h4, h5⟩
  · exact Or.inl h
  · exact Or.inr ⟨g, n, c, h1, h2, fun k hk => (hb.cell (p := ⟨g, k, none⟩) h4).trans (h3 k hk), Nat.lt_of_lt_of_le h4 hb.size, h5⟩
theorem tl_texts (v u : Value) (l : List ByteArray) (w : World) (hv : TL w v l) (hu : TL w u l) (hl : l.length ≤ 1000) :
    Calls Tryz.prog 16 #[v, u] w fun r w' => r = .returned (.bool true) ∧ Below w.heap.size w w' := by
  rcases hv with ⟨rfl, rfl⟩ | ⟨g, n, c, rfl, rfl, h3, h4, h5⟩
  · rcases hu with ⟨-, rfl⟩ | ⟨g, n, c, rfl, -, -, -, h5⟩
    · refine (rds_texts0 0 0 0 0 w rfl rfl).mono ?_
      rintro r w' ⟨rfl, rfl⟩
      exact ⟨rfl, Below.refl _ _⟩
    · exact absurd h5 (by simp)
  · rcases hu with ⟨rfl, -⟩ | ⟨g', n', c', rfl, rfl, k3, k4, k5⟩
    · exact absurd h5 (by simp)
    · refine (rds_texts l l g g' c c' w h3 k3 hl hl).mono ?_
      rintro r w' ⟨rfl, hb⟩
      rw [decide_eq_true rfl]
      exact ⟨rfl, hb⟩
def txE (x : Fu) : List ByteArray := if okX x = true then txX x else []
attribute [local go_sem ↓] ldEnt stEnt ldDat stDat
attribute [local go_sem] isDat_mk isHead_mk headOf_mk cellsOfV_mk isAggV_mk row_new row_new2 row_new2' row_drew row_drewN vals_size vals_dat dat_size dat_one allOne_nil allOne_cons one_int one_bool one_string one_pointer one_slice one_func
theorem tx_no (e : En) (al gr : Value) (l2 : List Int) (g2 : List Gr) (w : World) (hok : okX (e, l2, g2) = false) (hsz : e.name.size ≤ 60) (hm : MaxL w) (hT : Tab w) (h1 : IS w al l2) (h2 : GS w gr g2) :
    Calls Tryz.prog 17 #[.agg (e.vals al gr)] w fun r w' => r = .returned (.slice none 0 0) ∧ Below w.heap.size w w' := by
  have hv := fun W (b : Below w.heap.size w W) => va_any e al gr l2 g2 W (hm.below b) (hT.below b) (by omega) (h1.below b) (h2.below b)
  rw [hok] at hv
  have HV := Lib.hid hv
  clear hv hok h1 h2
  go_enter Tryz.func17, Tryz.ntmps17
  go_wp2_with (go_at_call 10; (with_reducible refine (HV.out _ (by exact belA)).mono ?_); rintro _ w2 ⟨rfl, hb⟩; have B2 := Below.trans (show Below w.heap.size w _ by exact belA) (hb.mono (by simp)); clear hb)
  go_ret
  exact ⟨rfl, B2⟩
theorem rtx_no (e : En) (al gr : Value) (l2 : List Int) (g2 : List Gr) (w : World) (hok : okX (e, l2, g2) = false) (hsz : e.name.size ≤ 60) (h1 : IS w al l2) (h2 : GS w gr g2) :
    Calls Tryz.prog 18 #[.agg (e.vals al gr)] w fun r w' => r = .returned (.slice none 0 0) ∧ Below w.heap.size w w' := by
  have hv := fun W (b : Below w.heap.size w W) => rva_any (e, l2, g2) al gr W hsz (h1.below b) (h2.below b)
  dsimp only at hv
  rw [hok] at hv
  have HV := Lib.hid hv
  clear hv hok h1 h2
  go_enter Tryz.func18, Tryz.ntmps18
  go_wp2_with (go_at_call 11; (with_reducible refine (HV.out _ (by exact belA)).mono ?_); rintro _ w2 ⟨rfl, hb⟩; have B2 := Below.trans (show Below w.heap.size w _ by exact belA) (hb.mono (by simp)); clear hb)
  go_ret
  exact ⟨rfl, B2⟩
theorem okX_gs8 (x : Fu) (h : okX x = true) : x.2.2.length ≤ 8 := by
  by_cases k : x.1.kind = 4
  · exact (kf_4 x h k).2.2.1
  · unfold okX at h
    rw [if_neg k] at h
    have e0 : ∀ e : En, ∀ l g, (okD e l g = true ∨ okG e l g = true ∨ okA e l g = true ∨ okC e l g = true) → g = [] := fun e l g h => by
      rcases h with h | h | h | h
      · unfold okD at h; simp only [Bool.and_eq_true] at h; exact ((sameE_eq _ _ _ _ _ _).1 h.2).2.2.symm
      · unfold okG at h; simp only [Bool.and_eq_true] at h; exact ((sameE_eq _ _ _ _ _ _).1 h.2).2.2.symm
      · unfold okA at h; simp only [Bool.and_eq_true] at h; exact ((sameE_eq _ _ _ _ _ _).1 h.2).2.2.symm
      · unfold okC at h; simp only [Bool.and_eq_true] at h; exact ((sameE_eq _ _ _ _ _ _).1 h.2).2.2.symm
    repeat' split at h
    all_goals first | (rw [e0 _ _ _ (Or.inl h)]; decide) | (rw [e0 _ _ _ (Or.inr (Or.inl h))]; decide) | (rw [e0 _ _ _ (Or.inr (Or.inr (Or.inl h)))]; decide) | (rw [e0 _ _ _ (Or.inr (Or.inr (Or.inr h)))]; decide) | cases h
theorem txX_pos (x : Fu) : 1 ≤ (txX x).length ∧ ((txX x).length ≤ 1000 ∨ 900 < x.2.2.length) := by
  have g : ∀ k ts, ts.length ≤ (gsT x.2.2 ts k).length := fun k ts => by
    induction k with
    | zero => exact Nat.le_refl _
    | succ k ih => rw [gsT, List.length_append]; omega
  have n : ∀ k ts, ts.length ≤ (nsT x.1 ts k).length := fun k ts => by
    induction k with
    | zero => exact Nat.le_refl _
    | succ k ih => rw [nsT, List.length_append]; omega
  unfold txX
  split
  · refine ⟨?_, Or.inl ?_⟩
    · unfold txData txD2 txD1
      simp only [List.length_append]
      have := n 11 (txD0 x.1 [hdB x.1])
      have : 1 ≤ (txD0 x.1 [hdB x.1]).length := by unfold txD0; simp only [List.length_append, List.length_singleton]; omega
      omega
    · unfold txData txD2; exact Nat.le_trans LenLe.h (by decide)
  split
  · exact ⟨by unfold txGroup; simp only [List.length_append, List.length_singleton]; omega, Or.inl (by unfold txGroup; exact Nat.le_trans LenLe.h (by decide))⟩
  split
  · exact ⟨by unfold txAlias; simp only [List.length_append, List.length_singleton]; omega, Or.inl (by unfold txAlias; exact Nat.le_trans LenLe.h (by decide))⟩
  split
  · exact ⟨by unfold txCat; simp only [List.length_append, List.length_singleton]; omega, Or.inl (by unfold txCat; exact Nat.le_trans LenLe.h (by decide))⟩
  · unfold txProf
    have h1 := g x.2.2.length ([hdB x.1] ++ ln ⟨#[108, 101, 118, 101, 108]⟩ (atW levW x.1.lev) ++ ln ⟨#[111, 119, 110, 101, 114]⟩ x.1.owner)
    have h2 := gsT_len x.2.2 ([hdB x.1] ++ ln ⟨#[108, 101, 118, 101, 108]⟩ (atW levW x.1.lev) ++ ln ⟨#[111, 119, 110, 101, 114]⟩ x.1.owner) x.2.2.length
    have h3 : ([hdB x.1] ++ ln ⟨#[108, 101, 118, 101, 108]⟩ (atW levW x.1.lev) ++ ln ⟨#[111, 119, 110, 101, 114]⟩ x.1.owner).length ≤ 3 := LenLe.h
    have h4 : 1 ≤ ([hdB x.1] ++ ln ⟨#[108, 101, 118, 101, 108]⟩ (atW levW x.1.lev) ++ ln ⟨#[111, 119, 110, 101, 114]⟩ x.1.owner).length := by simp only [List.length_append, List.length_singleton]; omega
    exact ⟨by omega, by omega⟩
theorem txE_len (x : Fu) : (txE x).length ≤ 1000 := by
  unfold txE
  split
  · rename_i h
    rcases (txX_pos x).2 with h1 | h1
    · exact h1
    · have := okX_gs8 x h
      omega
  · exact Nat.zero_le _
theorem tx_two (e : En) (al gr : Value) (l2 : List Int) (g2 : List Gr) (w : World) (hsz : e.name.size ≤ 60) (hm : MaxL w) (hT : Tab w) (h1 : IS w al l2) (h2 : GS w gr g2) :
    Calls Tryz.prog 17 #[.agg (e.vals al gr)] w fun r w' => ∃ v, r = .returned v ∧ TL w' v (txE (e, l2, g2)) ∧ Below w.heap.size w w' := by
  unfold txE
  by_cases h : okX (e, l2, g2) = true
  · rw [if_pos h]
    refine (tx_any (e, l2, g2) al gr w h hm hT h1 h2).mono ?_
    rintro r w' ⟨g, n, c, hn, rfl, hs, hb⟩
    have hp := (txX_pos (e, l2, g2)).1
    exact ⟨_, rfl, Or.inr ⟨g, n, c, hn, rfl, hs, block_lt_of_cell (hs 0 hp), by omega⟩, hb⟩
  · rw [if_neg h]
    refine (tx_no e al gr l2 g2 w (by simpa using h) hsz hm hT h1 h2).mono ?_
    rintro r w' ⟨rfl, hb⟩
    exact ⟨_, rfl, Or.inl ⟨rfl, rfl⟩, hb⟩
theorem rtx_two (e : En) (al gr : Value) (l2 : List Int) (g2 : List Gr) (w : World) (hsz : e.name.size ≤ 60) (h1 : IS w al l2) (h2 : GS w gr g2) :
    Calls Tryz.prog 18 #[.agg (e.vals al gr)] w fun r w' => ∃ v, r = .returned v ∧ TL w' v (txE (e, l2, g2)) ∧ Below w.heap.size w w' := by
  unfold txE
  by_cases h : okX (e, l2, g2) = true
  · rw [if_pos h]
    refine (rtx_any (e, l2, g2) al gr w h h1 h2).mono ?_
    rintro r w' ⟨a, n, c, rfl, ho, hb⟩
    have hp := (txX_pos (e, l2, g2)).1
    refine ⟨_, rfl, Or.inr ?_, hb⟩
    have ho' := ho
    unfold OW at ho'
    rcases ho'.2 with ⟨e1, e2⟩ | ⟨g, cap, cur, e1, h3, -⟩
    · omega
    · injection e1 with e1 e2 e3
      subst e1 e2 e3
      have hs := owns_strs ho
      exact ⟨g, _, _, rfl, rfl, hs, block_lt_of_cell (hs 0 hp), hp⟩
  · rw [if_neg h]
    refine (rtx_no e al gr l2 g2 w (by simpa using h) hsz h1 h2).mono ?_
    rintro r w' ⟨rfl, hb⟩
    exact ⟨_, rfl, Or.inl ⟨rfl, rfl⟩, hb⟩
def kZ (k : Int) (s : ByteArray) : ByteArray := ⟨(Ek.key k (Ds.bl s)).toArray⟩
theorem kz_p (k : Int) (s : ByteArray) (w : World) : Calls Tryz.prog 14 #[.int .i64 k, .string s] w fun r w' => r = .returned (.string (kZ k s)) ∧ Below w.heap.size w w' := by
  refine (en_key k s w).mono ?_
  rintro r w' ⟨t, rfl, ht, hb⟩
  obtain rfl : t = kZ k s := Ds.bl_inj (ht.trans (Ds.bl_mk _).symm)
  exact ⟨rfl, hb⟩
theorem kz_r (k : Int) (s : ByteArray) (w : World) : Calls Tryz.prog 15 #[.int .i64 k, .string s] w fun r w' => r = .returned (.string (kZ k s)) ∧ Below w.heap.size w w' := by
  refine (rkey k s w).mono ?_
  rintro r w' ⟨t, rfl, ht, rfl⟩
  obtain rfl : t = kZ k s := Ds.bl_inj (ht.trans (Ds.bl_mk _).symm)
  exact ⟨rfl, Below.refl _ _⟩
theorem keep2E {W w1 w2 : World} {g h : Nat} {cs ds : Array Value} (hb : Below w1.heap.size w1 w2) (h0 : 0 < cs.size) (h1 : 0 < ds.size) (s : row w1 g = cs ∧ row w1 h = ds ∧ Hid (Below W.heap.size W w1)) : row w2 g = cs ∧ row w2 h = ds ∧ Hid (Below W.heap.size W w2) := ⟨row_below hb s.1 h0, row_below hb s.2.1 h1, Lib.hid (bt s.2.2.out hb)⟩
theorem two_rows (w : World) (A B : Array Value) (t t' : TypeId) (h0 : 0 < A.size) : row ((w.alloc (.cells A t)).alloc (.cells B t')) w.heap.size = A ∧ row ((w.alloc (.cells A t)).alloc (.cells B t')) (w.heap.size + 1) = B ∧ Below w.heap.size w ((w.alloc (.cells A t)).alloc (.cells B t')) := by
  have hs : (w.alloc (.cells A t)).heap.size = w.heap.size + 1 := by simp
  refine ⟨row_below (show Below (w.alloc (.cells A t)).heap.size (w.alloc (.cells A t)) _ by exact belA) (row_new w A t (0, 0)) h0, ?_, by exact belA⟩
  rw [← hs]
  exact row_new (w.alloc (.cells A t)) B t' (0, 0)
theorem law_forms_yes (e f : En) (al gr al' gr' : Value) (l1 k1 : List Int) (l2 k2 : List Gr) (kind : Int) (name : ByteArray) (w : World) (hm : MaxL w) (hT : Tab w) (_ : allOne (e.vals al gr).toList = true) (_ : allOne (f.vals al' gr').toList = true) (hz : e.name.size ≤ 60) (hzn : name.size ≤ 60) (i1 : IS w al l1) (i2 : GS w gr l2) (j1 : IS w al' k1) (j2 : GS w gr' k2)
    (hF1 : ∀ W, Below w.heap.size w W → Calls Tryz.prog 9 #[.agg (e.vals al gr)] W fun r w' => Below W.heap.size W w' ∧ ∃ b : Bool, r = .returned (.bool b)) (hF2 : ∀ W, Below w.heap.size w W → Calls Tryz.prog 9 #[.agg (f.vals al' gr')] W fun r w' => Below W.heap.size W w' ∧ ∃ b : Bool, r = .returned (.bool b)) :
    Calls Tryz.prog 3 #[.agg (e.vals al gr), .agg (f.vals al' gr'), .int .i64 kind, .string name] w fun r w' => r = .returned (.bool true) ∧ Below w.heap.size w w' := by
  have HAW := Lib.hid (fun W (b : Below w.heap.size w W) => aw33 W (hm.below b) (hT.below b))
  have HF1 := Lib.hid hF1
  have HF2 := Lib.hid hF2
  have HV := Lib.hid (fun W (b : Below w.heap.size w W) => va_any e al gr l1 l2 W (hm.below b) (hT.below b) (by omega) (i1.below b) (i2.below b))
  have HRV := Lib.hid (fun W (b : Below w.heap.size w W) => rva_any (e, l1, l2) al gr W hz (i1.below b) (i2.below b))
  have HS := Lib.hid (fun W (b : Below w.heap.size w W) => en_same e f al gr al' gr' l1 k1 l2 k2 W (i1.below b) (j1.below b) (i2.below b) (j2.below b))
  have HRS := Lib.hid (fun W (b : Below w.heap.size w W) => rsame e f al gr al' gr' l1 k1 l2 k2 W (i1.below b) (j1.below b) (i2.below b) (j2.below b))
  have HK := Lib.hid (fun W => kz_p kind name W)
  have HRK := Lib.hid (fun W => kz_r kind name W)
  have HT := Lib.hid (fun W (b : Below w.heap.size w W) => tx_two e al gr l1 l2 W hz (hm.below b) (hT.below b) (i1.below b) (i2.below b))
  have HRT := Lib.hid (fun W (b : Below w.heap.size w W) => rtx_two e al gr l1 l2 W hz (i1.below b) (i2.below b))
  have hlen := txE_len (e, l1, l2)
  generalize txE (e, l1, l2) = tl at HT HRT hlen
  have HLEN := Lib.hid hlen
  generalize okX (e, l1, l2) = okb at HV HRV
  generalize sameE e f l1 k1 l2 k2 = sm at HS HRS
  generalize kZ kind name = kz at HK HRK
  have f1 : decide (60 < (name.size : Int)) = false := by rw [decide_eq_false_iff_not]; omega
  clear hF1 hF2 i1 i2 j1 j2 hm hT hz hzn hlen
  obtain ⟨ra, rb, rB⟩ := two_rows w (e.vals al gr) (f.vals al' gr') 27 27 (by rw [vals_size]; decide)
  go_enter Tryz.func3, Tryz.ntmps3
  go_upto_region 5 with (first
    | (go_at_call 8; (with_reducible refine (HAW.out _ rB).mono ?_); rintro _ w1 ⟨rfl, hb⟩; have S1 : row w1 w.heap.size = e.vals al gr ∧ row w1 (w.heap.size + 1) = f.vals al' gr' ∧ Hid (Below w.heap.size w w1) := keep2E hb (by rw [vals_size]; decide) (by rw [vals_size]; decide) ⟨ra, rb, Lib.hid rB⟩; have q1 := S1.1; have q2 := S1.2.1; clear hb)
    | (go_at_call 9; (with_reducible refine (HF1.out _ S1.2.2.out).mono ?_); rintro _ w2 ⟨hb, bb, rfl⟩; have S2 : row w2 w.heap.size = e.vals al gr ∧ row w2 (w.heap.size + 1) = f.vals al' gr' ∧ Hid (Below w.heap.size w w2) := keep2E hb (by rw [vals_size]; decide) (by rw [vals_size]; decide) S1; have q3 := S2.1; have q4 := S2.2.1; clear hb; cases bb)
    | (go_at_call 9; (with_reducible refine (HF2.out _ S2.2.2.out).mono ?_); rintro _ w3 ⟨hb, bb, rfl⟩; have S3 : row w3 w.heap.size = e.vals al gr ∧ row w3 (w.heap.size + 1) = f.vals al' gr' ∧ Hid (Below w.heap.size w w3) := keep2E hb (by rw [vals_size]; decide) (by rw [vals_size]; decide) S2; have q5 := S3.1; have q6 := S3.2.1; clear hb; cases bb))
  · go_ret
    exact ⟨rfl, S2.2.2.out⟩
  · go_ret
    exact ⟨rfl, S3.2.2.out⟩
  clear S1 S2 q1 q2 q3 q4 q5 q6 HAW HF1 HF2 ra rb rB
  go_region_held3 (fun w' => row w' w.heap.size = e.vals al gr ∧ row w' (w.heap.size + 1) = f.vals al' gr' ∧ Hid (Below w.heap.size w w')) (first | assumption | exact S3 | exact ⟨S3.1, S3.2.1, Lib.hid (Below.drew S3.2.2.out)⟩ | exact keep2E hb (by rw [vals_size]; decide) (by rw [vals_size]; decide) (by assumption)) (first
    | (go_at_call 10; (refine (HV.out _ (by assumption : row _ _ = _ ∧ row _ _ = _ ∧ Hid (Below _ _ _)).2.2.out).mono ?_); rintro _ v2 ⟨rfl, hb⟩)
    | (go_at_call 11; (refine (HRV.out _ (by assumption : row _ _ = _ ∧ row _ _ = _ ∧ Hid (Below _ _ _)).2.2.out).mono ?_); rintro _ v2 ⟨rfl, hb⟩)
    | (go_at_call 12; (refine (HS.out _ (by assumption : row _ _ = _ ∧ row _ _ = _ ∧ Hid (Below _ _ _)).2.2.out).mono ?_); rintro _ v2 ⟨rfl, hb⟩)
    | (go_at_call 13; (refine (HRS.out _ (by assumption : row _ _ = _ ∧ row _ _ = _ ∧ Hid (Below _ _ _)).2.2.out).mono ?_); rintro _ v2 ⟨rfl, hb⟩)
    | (go_at_call 14; (with_reducible refine (HK.out _).mono ?_); rintro _ v2 ⟨rfl, hb⟩)
    | (go_at_call 15; (with_reducible refine (HRK.out _).mono ?_); rintro _ v2 ⟨rfl, hb⟩)
    | (go_at_call 17; (refine (HT.out _ (by assumption : row _ _ = _ ∧ row _ _ = _ ∧ Hid (Below _ _ _)).2.2.out).mono ?_); rintro _ v2 ⟨tv, rfl, htv, hb⟩)
    | (go_at_call 18; (refine (HRT.out _ (by assumption : row _ _ = _ ∧ row _ _ = _ ∧ Hid (Below _ _ _)).2.2.out).mono ?_); rintro _ v2 ⟨tu, rfl, htu, hb⟩)
    | (go_at_call 16; (with_reducible refine (tl_texts _ _ tl _ ?_ ?_ HLEN.out).mono ?_); (focus ((repeat (first | (with_reducible assumption) | (with_reducible exact TL.below ‹_› (Below.drew (Below.refl _ _))) | (with_reducible apply TL.below; rotate_left 1; with_reducible assumption))); done)); (focus ((repeat (first | (with_reducible assumption) | (with_reducible apply TL.below; rotate_left 1; with_reducible assumption))); done)); rintro _ v2 ⟨rfl, hb⟩))
  all_goals
    go_wp2_with fail
    go_ret
    exact ⟨by simp, (by assumption : row _ _ = _ ∧ row _ _ = _ ∧ Hid (Below _ _ _)).2.2.out⟩
/-- few, by cases -/
theorem ef_few (e : En) (a1 a2 : Option Addr) (n1 c1 n2 c2 : Nat) (w : World) (hG : GR w a2 n2) (W : World) (hB : Below w.heap.size w W) :
    Calls Tryz.prog 9 #[.agg (e.vals (.slice a1 n1 c1) (.slice a2 n2 c2))] W fun r w' => Below W.heap.size W w' ∧ (r = .returned (.bool false) ∨ r = .returned (.bool true) ∧ Hid (e.name.size ≤ 60 ∧ n1 ≤ 1000 ∧ n2 ≤ 1000)) := by
  have hG' : GR W a2 n2 := ⟨hG.1, fun k hk => by
    obtain ⟨b, o, g, h1, h2, h3, h4, h5⟩ := hG.2 k hk
    exact ⟨b, o, g, h1, Nat.lt_of_lt_of_le h2 hB.size, (hB.cell (p := ⟨b, o + k * 3, none⟩) h2).trans h3, (hB.cell (p := ⟨b, o + k * 3 + 1, none⟩) h2).trans h4, (hB.cell (p := ⟨b, o + k * 3 + 2, none⟩) h2).trans h5⟩⟩
  refine (few33 e a1 a2 n1 c1 n2 c2 W hG').mono ?_
  rintro r w' ⟨b, rfl, hb, hB2⟩
  refine ⟨hB2, ?_⟩
  cases b
  · exact Or.inl rfl
  · obtain ⟨h1, h2, h3⟩ := hb rfl
    exact Or.inr ⟨rfl, Lib.hid ⟨h1, by omega, by omega⟩⟩
theorem law_forms_no (e f : En) (al gr al' gr' : Value) (A B : Prop) (kind : Int) (name : ByteArray) (w : World) (hm : MaxL w) (hT : Tab w) (_ : allOne (e.vals al gr).toList = true) (_ : allOne (f.vals al' gr').toList = true) (h : ¬ (A ∧ B ∧ name.size ≤ 60))
    (hF1 : ∀ W, Below w.heap.size w W → Calls Tryz.prog 9 #[.agg (e.vals al gr)] W fun r w' => Below W.heap.size W w' ∧ (r = .returned (.bool false) ∨ r = .returned (.bool true) ∧ Hid A)) (hF2 : ∀ W, Below w.heap.size w W → Calls Tryz.prog 9 #[.agg (f.vals al' gr')] W fun r w' => Below W.heap.size W w' ∧ (r = .returned (.bool false) ∨ r = .returned (.bool true) ∧ Hid B)) :
    Calls Tryz.prog 3 #[.agg (e.vals al gr), .agg (f.vals al' gr'), .int .i64 kind, .string name] w fun r w' => r = .returned (.bool true) ∧ Below w.heap.size w w' := by
  have HAW := Lib.hid (fun W (b : Below w.heap.size w W) => aw33 W (hm.below b) (hT.below b))
  have HF1 := Lib.hid hF1
  have HF2 := Lib.hid hF2
  clear hF1 hF2 hm hT
  obtain ⟨ra, rb, rB⟩ := two_rows w (e.vals al gr) (f.vals al' gr') 27 27 (by rw [vals_size]; decide)
  by_cases hC : name.size ≤ 60
  · have HN := Lib.hid (fun (a : A) (b : B) => h ⟨a, b, hC⟩)
    clear h
    go_enter Tryz.func3, Tryz.ntmps3
    go_upto_region 5 with (first
      | (go_at_call 8; (with_reducible refine (HAW.out _ rB).mono ?_); rintro _ w1 ⟨rfl, hb⟩; have S1 : row w1 w.heap.size = e.vals al gr ∧ row w1 (w.heap.size + 1) = f.vals al' gr' ∧ Hid (Below w.heap.size w w1) := keep2E hb (by rw [vals_size]; decide) (by rw [vals_size]; decide) ⟨ra, rb, Lib.hid rB⟩; have q1 := S1.1; have q2 := S1.2.1; clear hb)
      | (go_at_call 9; (with_reducible refine (HF1.out _ S1.2.2.out).mono ?_); rintro _ w2 ⟨hb, hh⟩; have S2 : row w2 w.heap.size = e.vals al gr ∧ row w2 (w.heap.size + 1) = f.vals al' gr' ∧ Hid (Below w.heap.size w w2) := keep2E hb (by rw [vals_size]; decide) (by rw [vals_size]; decide) S1; have q3 := S2.1; have q4 := S2.2.1; clear hb; rcases hh with rfl | ⟨rfl, hA⟩)
      | (go_at_call 9; (with_reducible refine (HF2.out _ S2.2.2.out).mono ?_); rintro _ w3 ⟨hb, hh⟩; have S3 := Lib.hid (bt S2.2.2.out hb); clear hb; rcases hh with rfl | ⟨rfl, hB⟩; rotate_left 1; exact absurd hB.out (HN.out hA.out)))
    · go_ret
      exact ⟨rfl, S2.2.2.out⟩
    · go_ret
      exact ⟨rfl, S3.out⟩
  · have f1 : decide (60 < (name.size : Int)) = true := by rw [decide_eq_true_eq]; omega
    clear h
    go_enter Tryz.func3, Tryz.ntmps3
    go_upto_region 5 with (first
      | (go_at_call 8; (with_reducible refine (HAW.out _ rB).mono ?_); rintro _ w1 ⟨rfl, hb⟩; have S1 : row w1 w.heap.size = e.vals al gr ∧ row w1 (w.heap.size + 1) = f.vals al' gr' ∧ Hid (Below w.heap.size w w1) := keep2E hb (by rw [vals_size]; decide) (by rw [vals_size]; decide) ⟨ra, rb, Lib.hid rB⟩; have q1 := S1.1; have q2 := S1.2.1; clear hb)
      | (go_at_call 9; (with_reducible refine (HF1.out _ S1.2.2.out).mono ?_); rintro _ w2 ⟨hb, hh⟩; have S2 : row w2 w.heap.size = e.vals al gr ∧ row w2 (w.heap.size + 1) = f.vals al' gr' ∧ Hid (Below w.heap.size w w2) := keep2E hb (by rw [vals_size]; decide) (by rw [vals_size]; decide) S1; have q3 := S2.1; have q4 := S2.2.1; clear hb; rcases hh with rfl | ⟨rfl, hA⟩)
      | (go_at_call 9; (with_reducible refine (HF2.out _ S2.2.2.out).mono ?_); rintro _ w3 ⟨hb, hh⟩; have S3 := Lib.hid (bt S2.2.2.out hb); clear hb; rcases hh with rfl | ⟨rfl, hB⟩))
    all_goals
      go_ret
      exact ⟨rfl, by first | exact S3.out | exact S2.2.2.out⟩
theorem law_forms (e f : En) (a1 a2 b1 b2 : Option Addr) (n1 c1 n2 c2 m1 d1 m2 d2 : Nat) (kind : Int) (name : ByteArray) (w : World) (hm : MaxL w) (hT : Tab w) (o1 : n1 ≤ 1000 → ∃ l : List Int, l.length = n1 ∧ IS w (.slice a1 n1 c1) l) (o2 : n2 ≤ 1000 → ∃ l : List Gr, l.length = n2 ∧ GS w (.slice a2 n2 c2) l) (hG : GR w a2 n2) (p1 : m1 ≤ 1000 → ∃ l : List Int, l.length = m1 ∧ IS w (.slice b1 m1 d1) l) (p2 : m2 ≤ 1000 → ∃ l : List Gr, l.length = m2 ∧ GS w (.slice b2 m2 d2) l) (hG' : GR w b2 m2) :
    Calls Tryz.prog 3 #[.agg (e.vals (.slice a1 n1 c1) (.slice a2 n2 c2)), .agg (f.vals (.slice b1 m1 d1) (.slice b2 m2 d2)), .int .i64 kind, .string name] w fun r w' => r = .returned (.bool true) ∧ Below w.heap.size w w' := by
  have hone := vals_one e (.slice a1 n1 c1) (.slice a2 n2 c2) rfl rfl
  have hone' := vals_one f (.slice b1 m1 d1) (.slice b2 m2 d2) rfl rfl
  by_cases h : (e.name.size ≤ 60 ∧ n1 ≤ 1000 ∧ n2 ≤ 1000) ∧ (f.name.size ≤ 60 ∧ m1 ≤ 1000 ∧ m2 ≤ 1000) ∧ name.size ≤ 60
  · obtain ⟨⟨h1, h2, h3⟩, ⟨h4, h5, h6⟩, h7⟩ := h
    obtain ⟨l1, -, i1⟩ := o1 h2
    obtain ⟨l2, -, i2⟩ := o2 h3
    obtain ⟨k1, -, j1⟩ := p1 h5
    obtain ⟨k2, -, j2⟩ := p2 h6
    refine law_forms_yes e f _ _ _ _ l1 k1 l2 k2 kind name w hm hT hone hone' h1 h7 i1 i2 j1 j2 (fun W b => ?_) (fun W b => ?_)
    · refine (ef_few e a1 a2 n1 c1 n2 c2 w hG W b).mono ?_
      rintro r w' ⟨hb, rfl | ⟨rfl, -⟩⟩
      · exact ⟨hb, false, rfl⟩
      · exact ⟨hb, true, rfl⟩
    · refine (ef_few f b1 b2 m1 d1 m2 d2 w hG' W b).mono ?_
      rintro r w' ⟨hb, rfl | ⟨rfl, -⟩⟩
      · exact ⟨hb, false, rfl⟩
      · exact ⟨hb, true, rfl⟩
  · exact law_forms_no e f _ _ _ _ _ _ kind name w hm hT hone hone' h (fun W b => ef_few e a1 a2 n1 c1 n2 c2 w hG W b) (fun W b => ef_few f b1 b2 m1 d1 m2 d2 w hG' W b)
end Go.Proofs.YtdfdjfnfmibpjaaGreatDoor

end
section
/- The statement EntryForms: the walk, the frame of the row, the card. Conditions: none beyond the statement. -/
namespace Go.Proofs.YtdfdjfnfmibpjaaGreatDoor.entryForms
open Go.ChangeShapes Go.WideShapes Go.ChangeAt Go.RowKit Go.Proofs.YtdfdjfnfmibpjaaGreatDoor
open Go.ChangeMaps (open_string)

set_option maxRecDepth 100000 in
theorem contract (H : Type) (enc : TypeId × Value → H) (W : World) (base : Nat) (args : Array Value) (ds gs : List (DataW H)) (before : List MemPlace)
    (hval : ∀ (j : Nat) t v, Tryz.f3.params[j]? = some t → args[j]? = some v → Value.okWide Tryz.prog W .any base t v)
    (hW : DataW.Whole enc Tryz.prog Tryz.f3.params.toList Rows.entryFormsSpec.vars false W args.toList ds gs before) (hL : laidMetH Tryz.prog Rows.entryFormsRow.laid W) (hS : W.ShapedOpen Tryz.prog) :
    Calls Tryz.prog 3 args W fun e W' => ∃ v, e = .returned v ∧ Rows.entryFormsSpec.post enc Tryz.prog Tryz.f3 false true false false W args v W' := by
  have hW' := hW
  have hlt : ∀ x ∈ before, x.block < W.heap.size := fun x hx => by simpa using hW'.lt x hx
  obtain ⟨p, q, hA0, hV, rfl, hfz, hnd⟩ := hW
  have hA : DataW.TrodAll enc Tryz.prog W 0 (fun _ => true) true Tryz.f3.params.toList args.toList ds p := hA0
  have hK := hA
  rw [Tryz.params3] at hA hval
  obtain ⟨v0, vs0, d0, ds0, p0, q0, hargs, rfl, rfl, h0, r0⟩ := trodAll_cons hA
  obtain ⟨v1, vs1, d1, ds1, p1, q1, rfl, rfl, rfl, h1, r1⟩ := trodAll_cons r0
  obtain ⟨v2, vs2, d2, ds2, p2, q2, rfl, rfl, rfl, h2, r2⟩ := trodAll_cons r1
  obtain ⟨v3, vs3, d3, ds3, p3, q3, rfl, rfl, rfl, h3, r3⟩ := trodAll_cons r2
  obtain ⟨rfl, rfl, rfl⟩ := trodAll_nil r3
  obtain rfl : args = #[v0, v1, v2, v3] := by cases args; simp_all
  obtain ⟨rfl, rfl⟩ := trodVars_none hV
  obtain ⟨e0, a0, n0, c0, x0, m0, k0, rfl, o0, u0⟩ := open_enN (hval 0 27 v0 rfl rfl) h0
  obtain ⟨e1, a1, n1, c1, x1, m1, k1, rfl, o1, u1⟩ := open_enN (hval 1 27 v1 rfl rfl) h1
  obtain ⟨n2, rfl⟩ := okWide_int Tryz.underlying3 (hval 2 3 v2 rfl rfl)
  have hs3 := hval 3 9 v3 rfl rfl
  obtain ⟨s3, rfl⟩ := okWide_string Tryz.underlying9 hs3
  rw [MakeChecks.laidMetH_plain _ _ _ (by kernel_rfl)] at hL
  refine (law_forms e0 e1 a0 x0 a1 x1 n0 c0 m0 k0 n1 c1 m1 k1 _ _ W (max_of hS) (tab_of hL) o0 u0 (en_grN h0) o1 u1 (en_grN h1)).mono fun e W' ⟨he, hb⟩ => ?_
  subst he
  exact ⟨_, rfl, _, _, _, [], _, [], hW', trodAll_cons_mk (shut_bool Tryz.underlying4 _) trodAll_mk0, args_below hb (by rw [Tryz.params3]; kernel_rfl) hK (fun x hx => hlt x (by simpa using hx)), rfl, hb.frame _, fun h => by cases h⟩

def zEnt : Value := .agg #[.int .i64 0, .string ⟨#[]⟩, .int .i64 0, .int .i64 0, .int .i64 0, .int .i64 0, .int .i64 0, .int .i64 0, .int .i64 0, .int .i64 0, .int .i64 0, .int .i64 0, .int .i64 0, .int .i64 0, .int .i64 0, .int .i64 0, .bool false, .int .i64 0, .string ⟨#[]⟩, .string ⟨#[]⟩, .int .i64 0, .int .i64 0, .bool false, .slice none 0 0, .int .i64 0, .int .i64 0, .int .i64 0, .bool false, .string ⟨#[]⟩, .string ⟨#[]⟩, .int .i64 0, .int .i64 0, .slice none 0 0]
def dEnt {H : Type} : DataW H := .agg [.lit (.int .i64 0), .lit (.string []), .agg [.lit (.int .i64 0), .lit (.int .i64 0), .lit (.int .i64 0), .lit (.int .i64 0), .lit (.int .i64 0), .lit (.int .i64 0), .lit (.int .i64 0), .lit (.int .i64 0), .lit (.int .i64 0), .lit (.int .i64 0), .lit (.int .i64 0), .lit (.int .i64 0), .lit (.int .i64 0), .lit (.int .i64 0), .lit (.bool false), .lit (.int .i64 0), .lit (.string []), .lit (.string []), .lit (.int .i64 0), .lit (.int .i64 0), .lit (.bool false)], .nil, .lit (.int .i64 0), .lit (.int .i64 0), .lit (.int .i64 0), .lit (.bool false), .lit (.string []), .lit (.string []), .lit (.int .i64 0), .lit (.int .i64 0), .nil]

theorem laid_met (os : Os) : laidMetH Tryz.prog Rows.entryFormsRow.laid ((World.laidAll Tryz.prog os Rows.entryFormsRow.laid).forCall (fun _ _ => 0) ⟨#[], #[(zEnt : Value), (zEnt : Value), (.int .i64 0 : Value), (.string ⟨#[]⟩ : Value)], []⟩).memory := by
  rw [MakeChecks.laidMetH_plain _ _ _ (by kernel_rfl)]; exact laidMet_laidAll _ (by kernel_rfl) (by kernel_rfl)
theorem reads (os : Os) {H : Type} (enc : TypeId × Value → H) : ∃ places, DataW.whole enc Tryz.prog ((World.laidAll Tryz.prog os Rows.entryFormsRow.laid).forCall (fun _ _ => 0) ⟨#[], #[(zEnt : Value), (zEnt : Value), (.int .i64 0 : Value), (.string ⟨#[]⟩ : Value)], []⟩).memory Tryz.f3.params.toList Rows.entryFormsSpec.vars false #[(zEnt : Value), (zEnt : Value), (.int .i64 0 : Value), (.string ⟨#[]⟩ : Value)].toList 8 = some ([dEnt, dEnt, .lit (.int .i64 0), .lit (.string [])], [], places) :=
  ⟨[], by kernel_rfl⟩

set_option maxRecDepth 100000 in
theorem lifted (os : Os) (started : os.Started) (H : Type) (enc : TypeId × Value → H) (F : Stop.Interp) :
    ReturnsInHanded {} Tryz.checked os 3 .any ((OpenSpec.ofChange Rows.entryFormsSpec).preRow enc Tryz.prog Tryz.f3 Rows.entryFormsRow.domain false Rows.entryFormsRow.laid) (((OpenSpec.ofChange Rows.entryFormsSpec).at F).post enc Tryz.prog Tryz.f3 false true false false) := by
  obtain ⟨places, hx⟩ := reads os enc
  refine returnsInHanded_of_row (C := Tryz.checked) (s := OpenSpec.ofChange Rows.entryFormsSpec) ownk started (by kernel_rfl) Tryz.func3
    (witness_lay (enc := enc) (C := Tryz.checked) false #[(zEnt : Value), (zEnt : Value), (.int .i64 0 : Value), (.string ⟨#[]⟩ : Value)] (World.shaped_of_ZipB (by kernel_rfl) (by kernel_rfl)) (by kernel_rfl)
      (OpenSpec.preRow_of_cond 8 hx (by kernel_rfl) (fun k hk => by cases hk) (by kernel_rfl) (laid_met os))) ?_
  intro W base args ds gs before hval hW _ _ _ hL hS _
  exact contract H enc W base args ds gs before hval hW hL hS

theorem said : Rows.EntryFormsSaid :=
  OpenClaim.holds_of_cond 3 Tryz.f3 rfl rfl rfl rfl rfl rfl rfl ⟨rfl, rfl, rfl, rfl, rfl⟩ rfl rfl rfl rfl rfl (by kernel_rfl) Tryz.func3 joined_entryForms
    (of_decide_eq_true (by kernel_rfl)) (by unfold Func.isWrapper; first | (rw [if_pos (by decide +kernel)]; kernel_rfl) | (rw [if_neg (by decide +kernel)]; exact ⟨rfl, rfl⟩))
    (fun os started H enc _ F => by rw [OpenClaim.pre_eq_preRow]; exact lifted os started H enc F)

theorem plain (f : FuncId) (fn : Func) (hf : Tryz.pinned.checked.prog.funcNamed Rows.entryFormsRow.func = some f) (hfn : Tryz.pinned.checked.prog.funcs[f]? = some fn) :
    false = Tryz.pinned.checked.prog.looks [] ∧ ∀ (j : Nat) t, fn.params[j]? = some t → Tryz.pinned.checked.prog.wantsStandIn t = false := by
  obtain rfl : f = 3 := Option.some.inj ((show Tryz.prog.funcNamed Rows.entryFormsRow.func = some 3 by kernel_rfl).symm.trans hf) |>.symm
  obtain rfl : fn = Tryz.f3 := (Option.some.inj (Tryz.func3.symm.trans hfn)).symm
  refine ⟨by kernel_rfl, fun j t ht => ?_⟩
  rw [Tryz.params3] at ht
  have hm := Array.mem_of_getElem? ht
  have ha : (#[27, 27, 3, 9] : Array TypeId).all (fun t => !Tryz.prog.wantsStandIn t) = true := by kernel_rfl
  have := (Array.all_eq_true_iff_forall_mem.1 ha) t hm
  exact (show Tryz.prog.wantsStandIn t = false by simpa using this)

/-- THE CARD -/
theorem card : Rows.EntryFormsCardSaid :=
  Claim7.holds_tied_plain_at .later [] _ _ _ _ said (fun _ h => by cases h) (by kernel_rfl) (fun _ h => by cases h) entryForms_row_tie rfl ⟨rfl, rfl⟩ (by kernel_rfl) rfl plain (by kernel_rfl)
end Go.Proofs.YtdfdjfnfmibpjaaGreatDoor.entryForms

end
