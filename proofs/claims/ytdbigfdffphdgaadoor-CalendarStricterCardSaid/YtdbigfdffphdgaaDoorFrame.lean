/- What every law's frame needs: arguments read the same below; the tables that the rows list. -/
import Derived.Test.YtdbigfdffphdgaaDoorCards
import Derived.Test.YtdbigfdffphdgaaDoorTie
import Derived.Test.YtdbigfdffphdgaaDoorTxtA
import Derived.ProofKit
import Derived.OpenShut
import Derived.Deep.DeepHandedRow
import Derived.Lib.LaidTab
import Derived.Stop.LaidErr
import Derived.Carry
namespace Go.Proofs.YtdbigfdffphdgaaDoor
open Go.ChangeShapes Go.WideShapes Go.ChangeAt Go.RowKit

theorem ownk : ownKnob Tryd.prog.godebug = none := by kernel_rfl
theorem laidOut : laidOutB Tryd.prog = true := by kernel_rfl

/-- What the arguments read as before they read as behind a call that turns nothing below. -/
theorem trodAll_below {H : Type} {enc : TypeId × Value → H} {W W' : World} (hb : Below W.heap.size W W') (sp : Nat → Bool) :
    ∀ (ts : List TypeId) (vs : List Value) (ds : List (DataW H)) (ps : List MemPlace), (∀ t ∈ ts, Tryd.prog.readableRec t = true ∧ t < Tryd.prog.types.size) → DataW.TrodAll enc Tryd.prog W 0 (fun _ => true) true ts vs ds ps →
      (∀ p ∈ ps, p.block < W.heap.size) → (∀ p ∈ ps, sp p.block = true) → DataW.TrodAll enc Tryd.prog W' 0 sp true ts vs ds ps
  | [], vs, ds, ps, _, h, _, _ => by
    obtain ⟨rfl, rfl, rfl⟩ := trodAll_nil h
    exact trodAll_mk0
  | t :: ts, vs, ds, ps, ht, h, hlt, hsp => by
    obtain ⟨v, vs', d, ds', p, q, rfl, rfl, rfl, h0, h1⟩ := trodAll_cons h
    have k := ht t (by simp)
    exact trodAll_cons_mk (WideElems.Trod_stays laidOut k.1 k.2 h0 (fun x hx => hb.same (hlt x (by simp [hx]))) (fun x hx => hsp x (by simp [hx])))
      (trodAll_below hb sp ts vs' ds' q (fun u hu => ht u (by simp [hu])) h1 (fun x hx => hlt x (by simp [hx])) (fun x hx => hsp x (by simp [hx])))

/-- The places of the arguments, as the post wants them. -/
theorem args_below {H : Type} {enc : TypeId × Value → H} {W W' : World} (hb : Below W.heap.size W W') {ts : List TypeId} {vs : List Value} {ds : List (DataW H)} {ps : List MemPlace} (ht : (ts.all fun t => Tryd.prog.readableRec t && decide (t < Tryd.prog.types.size)) = true)
    (h : DataW.TrodAll enc Tryd.prog W 0 (fun _ => true) true ts vs ds ps) (hlt : ∀ p ∈ ps, p.block < W.heap.size) : DataW.TrodAll enc Tryd.prog W' 0 (fun b => decide (b < W.heap.size)) true ts vs ds ps :=
  trodAll_below hb _ ts vs ds ps (fun t hm => by have := List.all_eq_true.1 ht t hm; simpa using this) h hlt (fun p hp => by simpa using hlt p hp)
theorem string_bound {P : Program} {w : World} {r : Reach} {base : Nat} {t : TypeId} {s : ByteArray} (ht : P.underlying t = some .string) (h : Value.okWide P w r base t (.string s)) : s.size ≤ 9223372036854775807 := by
  simp only [Value.okWide, Cell.okWide, Cell.ok, ht] at h
  have e : IntKind.i64.max = 9223372036854775807 := rfl
  rw [e] at h; omega
theorem row_cell {P : Program} {w : World} {r : Reach} {base : Nat} {t u : TypeId} {cs : Array Value} {ts : List TypeId} (hts : P.cellTypes P.depth t = some ts) (h : Row.okWide P w r base t cs) (i : Nat) (v : Value) (hv : cs[i]? = some v) (hu : ts[i % ts.length]? = some u) : Cell.okWide P w r base u v := by
  obtain ⟨ts', h1, _, h2⟩ := h
  obtain rfl : ts = ts' := Option.some.inj (hts.symm.trans h1)
  obtain ⟨u', a, b⟩ := h2 i v hv
  obtain rfl : u = u' := Option.some.inj (hu.symm.trans a)
  exact b
theorem cell_int {P : Program} {w : World} {r : Reach} {base : Nat} {u : TypeId} {k : IntKind} {v : Value} (hu : P.underlying u = some (.int k)) (h : Cell.okWide P w r base u v) : ∃ n, v = .int k n := by
  cases v <;> simp_all [Cell.okWide, Cell.ok]
theorem cell_bool {P : Program} {w : World} {r : Reach} {base : Nat} {u : TypeId} {v : Value} (hu : P.underlying u = some .bool) (h : Cell.okWide P w r base u v) : ∃ b, v = .bool b := by
  cases v <;> simp_all [Cell.okWide, Cell.ok]
theorem struct_cells {P : Program} {w : World} {r : Reach} {base : Nat} {t : TypeId} {v : Value} {fs : Array Field} (ht : P.underlying t = some (.struct fs)) (h : Value.okWide P w r base t v) : ∃ cs, v = .agg cs ∧ cs.size = P.cellsOf t ∧ Row.okWide P w r base t cs := by
  simpa only [Value.okWide, ht] using h
theorem open_policy {w : World} {r : Reach} {base : Nat} {v : Value} (h : Value.okWide Tryd.prog w r base 37 v) : ∃ ke un ac : Int, v = .agg #[.int .i64 ke, .int .i64 un, .int .i64 ac] := by
  obtain ⟨⟨l⟩, rfl, hsz, hrow⟩ := struct_cells Tryd.underlying37 h
  have e : Tryd.prog.cellsOf 37 = 3 := by kernel_rfl
  rw [e] at hsz
  have hts : Tryd.prog.cellTypes Tryd.prog.depth 37 = some [3, 3, 3] := by kernel_rfl
  rcases l with _ | ⟨a, _ | ⟨b, _ | ⟨c, _ | ⟨d, l⟩⟩⟩⟩ <;> simp at hsz
  obtain ⟨ke, rfl⟩ := cell_int Tryd.underlying3 (row_cell hts hrow 0 a rfl rfl)
  obtain ⟨un, rfl⟩ := cell_int Tryd.underlying3 (row_cell hts hrow 1 b rfl rfl)
  obtain ⟨ac, rfl⟩ := cell_int Tryd.underlying3 (row_cell hts hrow 2 c rfl rfl)
  exact ⟨ke, un, ac, rfl⟩
theorem open_entry {w : World} {r : Reach} {base : Nat} {v : Value} (h : Value.okWide Tryd.prog w r base 43 v) : ∃ (x0 x1 x2 x3 x4 x5 x6 x7 x8 x9 x10 x11 x12 x13 x14 x15 x16 x17 x18 x19 x23 x25 x26 x27 x28 x29 x30 x31 x32 : Value) (cr ex us : Int) (ar : Bool), v = .agg #[x0, x1, x2, x3, x4, x5, x6, x7, x8, x9, x10, x11, x12, x13, x14, x15, x16, x17, x18, x19, .int .i64 cr, .int .i64 ex, .bool ar, x23, .int .i64 us, x25, x26, x27, x28, x29, x30, x31, x32] := by
  obtain ⟨⟨l⟩, rfl, hsz, hrow⟩ := struct_cells Tryd.underlying43 h
  have e : Tryd.prog.cellsOf 43 = 33 := by kernel_rfl
  rw [e] at hsz
  have hts : Tryd.prog.cellTypes Tryd.prog.depth 43 = some [3, 9, 3, 3, 3, 3, 3, 3, 3, 3, 3, 3, 3, 3, 3, 3, 4, 3, 9, 9, 3, 3, 4, 40, 3, 3, 3, 4, 9, 9, 3, 3, 41] := by kernel_rfl
  rcases l with _ | ⟨x0, _ | ⟨x1, _ | ⟨x2, _ | ⟨x3, _ | ⟨x4, _ | ⟨x5, _ | ⟨x6, _ | ⟨x7, _ | ⟨x8, _ | ⟨x9, _ | ⟨x10, _ | ⟨x11, _ | ⟨x12, _ | ⟨x13, _ | ⟨x14, _ | ⟨x15, _ | ⟨x16, _ | ⟨x17, _ | ⟨x18, _ | ⟨x19, _ | ⟨x20, _ | ⟨x21, _ | ⟨x22, _ | ⟨x23, _ | ⟨x24, _ | ⟨x25, _ | ⟨x26, _ | ⟨x27, _ | ⟨x28, _ | ⟨x29, _ | ⟨x30, _ | ⟨x31, _ | ⟨x32, _ | ⟨x33, l⟩⟩⟩⟩⟩⟩⟩⟩⟩⟩⟩⟩⟩⟩⟩⟩⟩⟩⟩⟩⟩⟩⟩⟩⟩⟩⟩⟩⟩⟩⟩⟩⟩⟩ <;> simp at hsz
  obtain ⟨cr, rfl⟩ := cell_int Tryd.underlying3 (row_cell hts hrow 20 x20 rfl rfl)
  obtain ⟨ex, rfl⟩ := cell_int Tryd.underlying3 (row_cell hts hrow 21 x21 rfl rfl)
  obtain ⟨ar, rfl⟩ := cell_bool Tryd.underlying4 (row_cell hts hrow 22 x22 rfl rfl)
  obtain ⟨us, rfl⟩ := cell_int Tryd.underlying3 (row_cell hts hrow 24 x24 rfl rfl)
  exact ⟨x0, x1, x2, x3, x4, x5, x6, x7, x8, x9, x10, x11, x12, x13, x14, x15, x16, x17, x18, x19, x23, x25, x26, x27, x28, x29, x30, x31, x32, cr, ex, us, ar, rfl⟩
theorem gTabType : (Tryd.prog.globals[0]?).map (·.type) = some 66 := by kernel_rfl
theorem cellsTab : Tryd.prog.cellsOf 66 = 20 := by kernel_rfl
theorem cellsU64 : Tryd.prog.cellsOf 60 = 1 := by kernel_rfl
theorem tab_of {W : World} (h : laidMetH Tryd.prog [("math/bits.deBruijn32tab", Rows.laid_math_bits_deBruijn32tab), ("math/bits.deBruijn64tab", Rows.laid_math_bits_deBruijn64tab), ("internal/strconv.uint64pow10", Rows.laid_internal_strconv_uint64pow10)] W) : Tab W :=
  Lib.tabIs_of_head (rest := []) gTab gTabType Tryd.underlying66 Tryd.underlying60 cellsU64 cellsTab (laidMet.tail (laidMet.tail (show laidMet Tryd.prog _ W from h)))
/-- The cells of a block are other ones. -/
def withCells (cs : Array Value) : Obj → Obj
  | .cells _ t frozen => .cells cs t frozen
  | o => o
/-- A world for the witness: the settled one, the tables holding what their initialisers lay. -/
noncomputable def laidWorld (os : Os) : World :=
  let w := World.holding Tryd.prog os ⟨#[], #[], []⟩
  { w with heap := ((w.heap.modify 1 (withCells #[.int .u8 0, .int .u8 1, .int .u8 28, .int .u8 2, .int .u8 29, .int .u8 14, .int .u8 24, .int .u8 3, .int .u8 30, .int .u8 22, .int .u8 20, .int .u8 15, .int .u8 25, .int .u8 17, .int .u8 4, .int .u8 8, .int .u8 31, .int .u8 27, .int .u8 13, .int .u8 23, .int .u8 21, .int .u8 19, .int .u8 16, .int .u8 7, .int .u8 26, .int .u8 12, .int .u8 18, .int .u8 6, .int .u8 11, .int .u8 5, .int .u8 10, .int .u8 9])).modify 2 (withCells #[.int .u8 0, .int .u8 1, .int .u8 56, .int .u8 2, .int .u8 57, .int .u8 49, .int .u8 28, .int .u8 3, .int .u8 61, .int .u8 58, .int .u8 42, .int .u8 50, .int .u8 38, .int .u8 29, .int .u8 17, .int .u8 4, .int .u8 62, .int .u8 47, .int .u8 59, .int .u8 36, .int .u8 45, .int .u8 43, .int .u8 51, .int .u8 22, .int .u8 53, .int .u8 39, .int .u8 33, .int .u8 30, .int .u8 24, .int .u8 18, .int .u8 12, .int .u8 5, .int .u8 63, .int .u8 55, .int .u8 48, .int .u8 27, .int .u8 60, .int .u8 41, .int .u8 37, .int .u8 16, .int .u8 46, .int .u8 35, .int .u8 44, .int .u8 21, .int .u8 52, .int .u8 32, .int .u8 23, .int .u8 11, .int .u8 54, .int .u8 26, .int .u8 40, .int .u8 15, .int .u8 34, .int .u8 20, .int .u8 31, .int .u8 10, .int .u8 25, .int .u8 14, .int .u8 19, .int .u8 9, .int .u8 13, .int .u8 8, .int .u8 7, .int .u8 6])).modify 0 (withCells #[.int .u64 1, .int .u64 10, .int .u64 100, .int .u64 1000, .int .u64 10000, .int .u64 100000, .int .u64 1000000, .int .u64 10000000, .int .u64 100000000, .int .u64 1000000000, .int .u64 10000000000, .int .u64 100000000000, .int .u64 1000000000000, .int .u64 10000000000000, .int .u64 100000000000000, .int .u64 1000000000000000, .int .u64 10000000000000000, .int .u64 100000000000000000, .int .u64 1000000000000000000, .int .u64 10000000000000000000]) }
end Go.Proofs.YtdbigfdffphdgaaDoor
