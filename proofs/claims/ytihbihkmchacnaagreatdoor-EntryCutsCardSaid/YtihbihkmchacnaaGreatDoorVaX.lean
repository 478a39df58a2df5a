/- Contracts of package entry: Valid at a data set and at a profile, at no kind; at any entry. -/
import Derived.Test.YtihbihkmchacnaaGreatDoorVaH
import Derived.Test.YtihbihkmchacnaaGreatDoorVaE
import Derived.Test.YtihbihkmchacnaaGreatDoorVaP
import Derived.Test.YtihbihkmchacnaaGreatDoorFoF
import Derived.Test.YtihbihkmchacnaaGreatDoorFoG
import Derived.Test.YtihbihkmchacnaaGreatDoorFoQ
import Derived.Test.YtihbihkmchacnaaGreatDoorEp
import Derived.Test.YtihbihkmchacnaaGreatDoorKyA
namespace Go.Proofs.YtihbihkmchacnaaGreatDoor
open Go.RowKit
set_option maxHeartbeats 1600000
set_option maxRecDepth 8000
theorem ent_valid : EntF 46 := enters_of Tryz.func46 (by kernel_rfl) rfl
theorem ent_pat : EntF 101 := enters_of Tryz.func101 (by kernel_rfl) rfl
theorem ent_data : EntF 126 := enters_of Tryz.func126 (by kernel_rfl) rfl
theorem ent_vdata : EntF 127 := enters_of Tryz.func127 (by kernel_rfl) rfl
theorem ent_prof : EntF 145 := enters_of Tryz.func145 (by kernel_rfl) rfl
theorem ent_vprof : EntF 146 := enters_of Tryz.func146 (by kernel_rfl) rfl
theorem fr_data (c rb g : Nat) (s : List UInt8 × Nat) (e : En) (gr : Value) (w : World) (h : RS w c rb g s (e.vals (.slice none 0 0) gr)) (hs : s.1.length ≤ 1000) :
    Calls Tryz.prog 126 #[.pointer (some ⟨c, 0, none⟩), .pointer (some ⟨g, 0, none⟩)] w fun r w' => r = .returned (.tuple #[]) ∧ ∃ al', RS w' c rb g (rdData e s).2.2 ((rdData e s).1.vals al' gr) ∧ (IS w' al' (rdData e s).2.1 ∧ ∀ x, al'.ownBlock = some x → w.heap.size ≤ x) ∧ G2 w w' rb g := by
  rcases Nat.eq_zero_or_pos (cntv 4 (clip (Rd.num (Rd.boo (sq (Rd.txt 200 (Rd.txt 200 (Rd.num (Rd.boo (sq s 14)).2).2).2).2 2)).2).1)) with h0 | h0
  · exact fr_data0 c rb g s e gr w h hs (Lib.hid h0)
  · exact fr_data1 c rb g s e gr w h hs h0
theorem wr_data (e : En) (al gr : Value) (l2 : List Int) (w : World) (hI : IS w al l2) (h : DatOk e l2) : Writes w 126 (e.vals al gr) (bodyDx e l2) := by
  intro W c g hB hc _ hW
  have this := fw_data c g [] e al gr l2 w W hI hB hc hW (fun x hx => by have := h.n x hx; omega) e.cls.toNat e.cr.toNat e.ex.toNat e.used.toNat (Int.toNat_of_nonneg h.c.1).symm (Int.toNat_of_nonneg h.cr.1).symm (Int.toNat_of_nonneg h.ex.1).symm (Int.toNat_of_nonneg h.u.1).symm (by have a1 := h.c; have a2 := h.cr; have a3 := h.ex; have a4 := h.u; omega) (by have := h.v; omega) (by have := h.o; omega) h.nl4 (fun x hx => by have := h.nl x hx; omega) (by simp)
  rw [List.nil_append] at this
  exact this
theorem wr_prof (e : En) (al gr : Value) (g2 : List Gr) (w : World) (hI : GS w gr g2) (h : ProfOk e g2) : Writes w 145 (e.vals al gr) (bodyP e g2) := by
  intro W c g hB hc _ hW
  have this := fw_prof c g [] e al gr g2 w W hI hB hc hW h (by simp)
  rw [List.nil_append] at this
  exact this
theorem IS.keep {w1 w2 : World} {v : Value} {l : List Int} (h : IS w1 v l) (b : Nat) (ho : ∀ x, v.ownBlock = some x → b ≤ x) (hs : w1.heap.size ≤ w2.heap.size) (hk : ∀ k, b ≤ k → k < w1.heap.size → w2.heap[k]? = w1.heap[k]?) : IS w2 v l := by
  obtain ⟨a, c, rfl, h2, h3⟩ := h
  refine ⟨a, c, rfl, h2, fun h0 => ?_⟩
  obtain ⟨bb, o, rfl, hlt, hc⟩ := h3 h0
  have hb := ho bb rfl
  exact ⟨bb, o, rfl, Nat.lt_of_lt_of_le hlt hs, fun k hk' => (World.cell?_of_block (a := ⟨bb, o + k, none⟩) (hk bb hb hlt)).trans (hc k hk')⟩
theorem GS.keep {w1 w2 : World} {v : Value} {l : List Gr} (h : GS w1 v l) (b : Nat) (ho : ∀ x, v.ownBlock = some x → b ≤ x) (hs : w1.heap.size ≤ w2.heap.size) (hk : ∀ k, b ≤ k → k < w1.heap.size → w2.heap[k]? = w1.heap[k]?) : GS w2 v l := by
  obtain ⟨a, c, rfl, h2, h3⟩ := h
  refine ⟨a, c, rfl, h2, fun h0 => ?_⟩
  obtain ⟨bb, o, rfl, hlt, hc⟩ := h3 h0
  have hb := ho bb rfl
  have q := fun i => World.cell?_of_block (w := w1) (w' := w2) (a := ⟨bb, i, none⟩) (hk bb hb hlt)
  exact ⟨bb, o, rfl, Nat.lt_of_lt_of_le hlt hs, fun k hk' => ⟨(q _).trans (hc k hk').1, (q _).trans (hc k hk').2.1, (q _).trans (hc k hk').2.2⟩⟩
theorem is_one {w : World} {v : Value} {l : List Int} (h : IS w v l) : one v = true := by obtain ⟨a, c, rfl, _⟩ := h; rfl
theorem gs_one {w : World} {v : Value} {l : List Gr} (h : GS w v l) : one v = true := by obtain ⟨a, c, rfl, _⟩ := h; rfl
/-- what was read of a data set -/
def PD (e : En) (l : List Int) (b : Nat) (w : World) (cs : Array Value) : Prop := ∃ al, cs = (onlyD e).vals al (.slice none 0 0) ∧ IS w al l ∧ ∀ x, al.ownBlock = some x → b ≤ x
theorem PD.stable (e : En) (l : List Int) : Stable (PD e l) := fun b _ _ _ ⟨al, he, hi, ho⟩ hs hk => ⟨al, he, hi.keep b ho hs hk, ho⟩
def PP (e : En) (l : List Gr) (b : Nat) (w : World) (cs : Array Value) : Prop := ∃ gr, cs = (onlyP e).vals (.slice none 0 0) gr ∧ GS w gr l ∧ ∀ x, gr.ownBlock = some x → b ≤ x
theorem PP.stable (e : En) (l : List Gr) : Stable (PP e l) := fun b _ _ _ ⟨al, he, hi, ho⟩ hs hk => ⟨al, he, hi.keep b ho hs hk, ho⟩
theorem re_data (e : En) (l : List Int) (w : World) (h : DatOk e l) (hl : (bodyDx e l).length ≤ 1000) : Reads w 126 (bodyDx e l) (zcells e.kind e.name) ([], 0) (PD e l) := by
  intro W c rb g _ _ _ _ hR
  refine (fr_data c rb g (bodyDx e l, 0) ({ En.zero with kind := e.kind, name := e.name } : En) _ W hR hl).mono ?_
  rintro r w' ⟨rfl, al', hR', hI, hG⟩
  have hb := rd_bodyD e l [] h
  rw [List.append_nil] at hb
  rw [hb] at hR' hI
  exact ⟨rfl, hG, _, hR', vals_size _ _ _, vals_one _ _ _ (is_one hI.1) rfl, al', rfl, hI.1, hI.2⟩
theorem re_prof (e : En) (l : List Gr) (w : World) (h : ProfOk e l) (hl : (bodyP e l).length ≤ 1000) : Reads w 145 (bodyP e l) (zcells e.kind e.name) ([], 0) (PP e l) := by
  intro W c rb g _ _ _ _ hR
  refine (fr_prof c rb g (bodyP e l, 0) ({ En.zero with kind := e.kind, name := e.name } : En) _ W hR hl).mono ?_
  rintro r w' ⟨rfl, gr', hR', hI, hG⟩
  have hb := rd_bodyP e l [] h
  rw [List.append_nil] at hb
  rw [hb] at hR' hI
  exact ⟨rfl, hG, _, hR', vals_size _ _ _, vals_one _ _ _ rfl (gs_one hI.1), gr', rfl, hI.1, hI.2⟩
theorem bodyD_len (e : En) (l : List Int) (h : DatOk e l) : (bodyDx e l).length ≤ 1000 := by
  have a1 := encs_six _ (nums_nat _ h.n)
  have a2 := encs_six _ (nums_nat _ h.nl)
  rw [List.length_map] at a1 a2
  have hz : (numD e).length = 14 := rfl
  have l4 := h.nl4
  have q1 := h.c; have q2 := h.v; have q3 := h.o; have q4 := h.cr; have q5 := h.ex; have q6 := h.u
  have c1 := enc_le10 e.cls.toNat (by omega)
  have c2 := enc_le10 e.vol.size (by omega)
  have c3 := enc_le10 e.own.size (by omega)
  have c4 := enc_le10 e.cr.toNat (by omega)
  have c5 := enc_le10 e.ex.toNat (by omega)
  have c6 := enc_le10 e.used.toNat (by omega)
  have c7 := enc_le10 l.length (by omega)
  unfold bodyDx bodyD
  simp only [encs, List.length_append, List.length_cons, List.length_nil, Ds.bl_length]
  omega
theorem va_kind0 (e : En) (al gr : Value) (l2 : List Int) (g2 : List Gr) (w : World) (hk : e.kind = 0) (hm : MaxL w) (hT : Tab w) (h1 : IS w al l2) (h2 : GS w gr g2) :
    Calls Tryz.prog 17 #[.agg (e.vals al gr)] w fun r w' => r = .returned (.bool (okD e l2 g2)) ∧ Below w.heap.size w w' := by
  have hf : Instr.findNow (.int .i64) (.int .i64 e.kind) fe5.toList 0 = some (some (0, .agg (formV (68 : Nat) 46 126 127))) := by rw [hk]; rfl
  have hn := fun W (b : Below w.heap.size w W) => ds_valid e.name W (hm.below b)
  have hv := fun W (b : Below w.heap.size w W) => va_data e al gr l2 W (hm.below b) (hT.below b) (h1.below b)
  unfold okD
  cases hx : Ds.name (Ds.bl e.name)
  · rw [hx] at hn
    exact va_name 68 _ _ _ 0 e al gr w ent_valid hf hn
  · rw [hx] at hn
    cases hy : Vp.dat e l2
    · rw [hy] at hv
      exact va_fields 68 _ _ _ 0 e al gr w ent_valid ent_vdata hf hn hv
    · rw [hy] at hv
      have hd := (dat_ok e l2 hy).1
      refine va_bare 68 _ _ _ 0 e al gr (bodyDx e l2) ([], 0) _ _ w ent_valid ent_vdata ent_data hf hn hv (fun W b => wr_data e al gr l2 W (h1.below b) hd) (fun W _ => re_data e l2 W hd (bodyD_len e l2 hd)) (PD.stable e l2) rfl ?_
      rintro W b cs' hb ⟨al', rfl, hi, _⟩
      exact en_same (onlyD e) e _ _ al gr l2 l2 [] g2 W hi (h1.below hb) (GS.nil W) (h2.below hb)
theorem va_kind4 (e : En) (al gr : Value) (l2 : List Int) (g2 : List Gr) (w : World) (hk : e.kind = 4) (hm : MaxL w) (h1 : IS w al l2) (h2 : GS w gr g2) :
    Calls Tryz.prog 17 #[.agg (e.vals al gr)] w fun r w' => r = .returned (.bool (okP e l2 g2)) ∧ Below w.heap.size w w' := by
  have hf : Instr.findNow (.int .i64) (.int .i64 e.kind) fe5.toList 0 = some (some (4, .agg (formV (80 : Nat) 101 145 146))) := by rw [hk]; rfl
  have hn := fun W (b : Below w.heap.size w W) => ds_pat e.name W (hm.below b)
  have hv := fun W (b : Below w.heap.size w W) => va_prof e al gr g2 W (hm.below b) (h2.below b)
  unfold okP
  cases hx : Ds.pat (Ds.bl e.name)
  · rw [hx] at hn
    exact va_name 80 _ _ _ 4 e al gr w ent_pat hf hn
  · rw [hx] at hn
    cases hy : Vp.prof e g2
    · rw [hy] at hv
      exact va_fields 80 _ _ _ 4 e al gr w ent_pat ent_vprof hf hn hv
    · rw [hy] at hv
      have hd := prof_ok e g2 hy
      have hbl : (bodyP e g2).length ≤ 1000 := by
        have z1 := enc_le10 e.lev.toNat (by have := hd.1.l; omega)
        have z2 := enc_le10 e.owner.size (by have := hd.2.2.1; omega)
        have z3 := enc_le10 g2.length (by have := hd.1.g8; omega)
        have z4 := grs_len g2 hd.2.2.2
        have z5 := hd.1.g8
        have z6 := hd.2.2.1
        unfold bodyP
        simp only [List.length_append, Ds.bl_length]
        omega
      refine va_bare 80 _ _ _ 4 e al gr (bodyP e g2) ([], 0) _ _ w ent_pat ent_vprof ent_prof hf hn hv (fun W b => wr_prof e al gr g2 W (h2.below b) hd.1) (fun W _ => re_prof e g2 W hd.1 hbl) (PP.stable e g2) rfl ?_
      rintro W b cs' hb ⟨gr', rfl, hi, _⟩
      exact en_same (onlyP e) e _ _ al gr [] l2 g2 g2 W (IS.nil W) (h1.below hb) hi (h2.below hb)
attribute [local go_sem ↓] ldEnt stEnt
attribute [local go_sem] isHead_mk headOf_mk cellsOfV_mk isAggV_mk row_new row_new2 row_new2' row_drew row_drewN vals_0 vals_1 vals_size allOne_nil allOne_cons one_int one_bool one_string one_pointer one_slice one_func
theorem lk_nil (k : Int) (h : Instr.findNow (.int .i64) (.int .i64 k) fe5.toList 0 = some none) (W : World) (m : Nat) (hb : W.heap[m]? = some (.map fe5 5)) :
    (Instr.lookup 70 (.map (some m)) (.int .i64 k) true).run Tryz.prog W = .ok (.tuple #[.agg #[.int .u8 0, .nilFunc, .nilFunc, .nilFunc], .bool false]) W := lk_none W m k _ hb h form_zero
theorem va_none (e : En) (al gr : Value) (w : World) (hk : ¬ (0 ≤ e.kind ∧ e.kind ≤ 4)) :
    Calls Tryz.prog 17 #[.agg (e.vals al gr)] w fun r w' => r = .returned (.bool false) ∧ Below w.heap.size w w' := by
  have hf := form_no e.kind hk
  clear hk
  have s1 : (w.alloc (.cells (e.vals al gr) 27)).heap.size = w.heap.size + 1 := by simp
  have hl1 : (Instr.lookup 70 (.map (some (w.heap.size + 1))) (.int .i64 e.kind) true).run Tryz.prog ((w.alloc (.cells (e.vals al gr) 27)).alloc (.map fe5 5)).drew = .ok (.tuple #[.agg #[.int .u8 0, .nilFunc, .nilFunc, .nilFunc], .bool false]) ((w.alloc (.cells (e.vals al gr) 27)).alloc (.map fe5 5)).drew := by
    refine lk_nil e.kind hf _ _ ?_
    have := heap_alloc_new (w.alloc (.cells (e.vals al gr) 27)) (.map fe5 5)
    rw [s1] at this
    exact this
  have hl2 : ∀ o, (Instr.lookup 70 (.map (some (w.heap.size + 1))) (.int .i64 e.kind) true).run Tryz.prog (((w.alloc (.cells (e.vals al gr) 27)).alloc (.map fe5 5)).alloc o).drew = .ok (.tuple #[.agg #[.int .u8 0, .nilFunc, .nilFunc, .nilFunc], .bool false]) (((w.alloc (.cells (e.vals al gr) 27)).alloc (.map fe5 5)).alloc o).drew := fun o => by
    refine lk_nil e.kind hf _ _ ?_
    have := heap_alloc_new (w.alloc (.cells (e.vals al gr) 27)) (.map fe5 5)
    rw [s1] at this
    exact (heap_alloc_old ((w.alloc (.cells (e.vals al gr) 27)).alloc (.map fe5 5)) o (by simp)).trans this
  have hl3 : ∀ o, (Instr.lookup 70 (.map (some (w.heap.size + 1 + 1))) (.int .i64 e.kind) true).run Tryz.prog (((w.alloc (.cells (e.vals al gr) 27)).alloc o).alloc (.map fe5 5)).drew = .ok (.tuple #[.agg #[.int .u8 0, .nilFunc, .nilFunc, .nilFunc], .bool false]) (((w.alloc (.cells (e.vals al gr) 27)).alloc o).alloc (.map fe5 5)).drew := fun o => by
    refine lk_nil e.kind hf _ _ ?_
    have s2 : ((w.alloc (.cells (e.vals al gr) 27)).alloc o).heap.size = w.heap.size + 1 + 1 := by simp
    have := heap_alloc_new ((w.alloc (.cells (e.vals al gr) 27)).alloc o) (.map fe5 5)
    rw [s2] at this
    exact this
  clear hf s1
  go_enter Tryz.func17, Tryz.ntmps17
  go_upto_region 1 with fail
  go_cut [3, 4] (fun _ t4 wx => t4 = .bool false ∧ Below w.heap.size w wx)
  case first =>
    go_region_law (first | (go_simp; go_at_call 48; (with_reducible refine (fo_forms _).mono ?_); rintro _ w1 ⟨rfl, rfl⟩))
    all_goals
      go_wp2_with fail
      go_meet
      exact ⟨rfl, by (repeat (first | exact Below.refl _ _ | assumption | (refine Below.drew ?_) | (refine Below.alloc ?_ (by first | (simp; done) | (simp; omega) | omega) _) | (refine Below.setCell ?_ (by first | (simp; done) | (simp; omega) | omega) _)))⟩
  case rest =>
    obtain ⟨rfl, B⟩ := hcut
    go_wp2_with fail
    go_ret
    exact ⟨rfl, B⟩
theorem va_any (e : En) (al gr : Value) (l2 : List Int) (g2 : List Gr) (w : World) (hm : MaxL w) (hT : Tab w) (hsz : e.name.size ≤ 1000) (h1 : IS w al l2) (h2 : GS w gr g2) :
    Calls Tryz.prog 17 #[.agg (e.vals al gr)] w fun r w' => r = .returned (.bool (okX (e, l2, g2))) ∧ Below w.heap.size w w' := by
  unfold okX
  simp only
  by_cases k0 : e.kind = 0
  · rw [if_pos k0]; exact va_kind0 e al gr l2 g2 w k0 hm hT h1 h2
  rw [if_neg k0]
  by_cases k1 : e.kind = 1
  · rw [if_pos k1]; exact va_kind1 e al gr l2 g2 w k1 hm h1 h2
  rw [if_neg k1]
  by_cases k2 : e.kind = 2
  · rw [if_pos k2]; exact va_kind2 e al gr l2 g2 w k2 hm hsz h1 h2
  rw [if_neg k2]
  by_cases k3 : e.kind = 3
  · rw [if_pos k3]; exact va_kind3 e al gr l2 g2 w k3 hm h1 h2
  rw [if_neg k3]
  by_cases k4 : e.kind = 4
  · rw [if_pos k4]; exact va_kind4 e al gr l2 g2 w k4 hm h1 h2
  rw [if_neg k4]
  exact va_none e al gr w (by omega)
end Go.Proofs.YtihbihkmchacnaaGreatDoor
