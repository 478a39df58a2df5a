/- Several texts in one: AcB AcC AcD Ta Tb Tc. -/
import Derived.Test.YtfmjeppajpiekaaGreatDoorAcA
import Derived.Test.YtfmjeppajpiekaaGreatDoorSaL
import Derived.Deep.RegionHeld3
import Derived.Test.YtfmjeppajpiekaaGreatDoorDsW
import Derived.Deep.AppendLies
section
/- Contracts of package access: Best. -/
namespace Go.Proofs.YtfmjeppajpiekaaGreatDoor
open Go.RowKit
set_option maxHeartbeats 40000000
set_option maxRecDepth 8000
attribute [local go_sem ↓] ldEnt stEnt stEntRow ldEntM
attribute [local go_sem] Held_drew isHead_mk headOf_mk offOf_mk isPtr_mk cellsOfV_mk isAggV_mk row_new row_new2 row_new2' row_drew row_drewN vals_size allOne_nil allOne_cons one_int one_bool one_string one_pointer one_slice vals_0 vals_1 vals_32
/-- Valid at a profile of a list -/
theorem va_ef (x : Ef) (a1 : Option Addr) (c1 : Nat) (gr : Value) (w : World) (hk : x.e.kind = 4) (hm : MaxL w) (hg : GS w gr x.gs) :
    Calls Tryz.prog 17 #[.agg (x.e.vals (.slice a1 x.n1 c1) gr)] w fun r w' => r = .returned (.bool (okQ x)) ∧ Below w.heap.size w w' := by
  by_cases h0 : x.n1 = 0
  · have h := va_kind4 x.e (.slice a1 x.n1 c1) gr [] x.gs w hk hm ⟨a1, c1, by rw [h0]; rfl, by decide, fun h => by simp at h⟩ hg
    have e := okQ_okX x [] hk (by rw [h0]; rfl)
    unfold okX at e
    simp only at e
    rw [if_neg (by omega), if_neg (by omega), if_neg (by omega), if_neg (by omega), if_pos hk] at e
    rw [← e]; exact h
  · have h := va_long x.e gr a1 x.n1 c1 x.gs w h0 hk hm hg
    have e : okQ x = false := by unfold okQ; rw [decide_eq_false h0, Bool.and_false, Bool.and_false, Bool.and_false]
    rw [e]; exact h
/-- the best so far, by its index -/
def BI2 (nm : List UInt8) (F : Nat → Ef) (k : Nat) (j : Int) : Prop := (best nm (lst F k) = none ∧ j = -1) ∨ ∃ i : Nat, j = i ∧ i < k ∧ best nm (lst F k) = some (F i)
theorem BI2.keep {nm : List UInt8} {F : Nat → Ef} {k : Nat} {j : Int} (h : BI2 nm F k j) (hh : hits nm (F k) = false ∨ ahead (F k) (best nm (lst F k)) = false) : BI2 nm F (k + 1) j := by
  have e : best nm (lst F (k + 1)) = best nm (lst F k) := by
    rw [lst_succ, best_snoc]
    unfold bstep
    rw [if_neg (by rcases hh with h | h <;> simp [h])]
  unfold BI2
  rw [e]
  rcases h with h | ⟨i, h1, h2, h3⟩
  · exact Or.inl h
  · exact Or.inr ⟨i, h1, by omega, h3⟩
theorem BI2.take {nm : List UInt8} {F : Nat → Ef} {k : Nat} (h1 : hits nm (F k) = true) (h2 : ahead (F k) (best nm (lst F k)) = true) : BI2 nm F (k + 1) (k : Int) := by
  refine Or.inr ⟨k, rfl, by omega, ?_⟩
  rw [lst_succ, best_snoc]
  unfold bstep
  rw [if_pos ⟨h1, h2⟩]
def zE : Array Value := zlit 0 ⟨#[]⟩
theorem zE_eq : zE = En.zero.vals (.slice none 0 0) (.slice none 0 0) := zlit_eq 0 ⟨#[]⟩
/-- what Best keeps between rounds -/
def BW (w wr : World) : Prop := EB wr w.heap.size zE ∧ Below w.heap.size w wr
theorem BW.below {w wr w' : World} (h : BW w wr) (hb : Below wr.heap.size wr w') : BW w w' :=
  ⟨h.1.of_block (hb.block _ h.1.2.2) hb.size, bt h.2 hb⟩
theorem BW.after {w wr w' : World} {o : Obj} (h : BW w wr) (hb : Below (wr.alloc o).heap.size (wr.alloc o) w') : BW w w' := h.below (below1 hb)
theorem keepA {W w1 w2 : World} {g : Nat} {cs : Array Value} {p0 p1 : Addr} {v0 v1 : Value} (hb : Below w1.heap.size w1 w2) (s : row w1 g = cs ∧ w1.cell? p0 = some v0 ∧ w1.cell? p1 = some v1 ∧ Below W.heap.size W w1) (h0 : 0 < cs.size) :
    row w2 g = cs ∧ w2.cell? p0 = some v0 ∧ w2.cell? p1 = some v1 ∧ Below W.heap.size W w2 := ⟨row_below hb s.1 h0, below_cell hb s.2.1, below_cell hb s.2.2.1, bt s.2.2.2 hb⟩
theorem keepB {W w1 w2 : World} {g : Nat} {cs : Array Value} {p0 p1 p2 : Addr} {v0 v1 v2 : Value} (hb : Below w1.heap.size w1 w2) (s : row w1 g = cs ∧ w1.cell? p0 = some v0 ∧ w1.cell? p1 = some v1 ∧ w1.cell? p2 = some v2 ∧ Below W.heap.size W w1) (h0 : 0 < cs.size) :
    row w2 g = cs ∧ w2.cell? p0 = some v0 ∧ w2.cell? p1 = some v1 ∧ w2.cell? p2 = some v2 ∧ Below W.heap.size W w2 := ⟨row_below hb s.1 h0, below_cell hb s.2.1, below_cell hb s.2.2.1, below_cell hb s.2.2.2.1, bt s.2.2.2.2 hb⟩
theorem vals_set32 (e : En) (al gr v : Value) : (e.vals al gr).setIfInBounds 32 v = e.vals al v := by unfold En.vals; rfl
theorem set_held {w : World} {g n : Nat} (h : Held w g n) (i : Nat) (v : Value) : w.setCell ⟨g, i, none⟩ v = w.setRow g ((row w g).setIfInBounds i v) := by
  obtain ⟨t, fr, hb⟩ := held_block h
  exact setCell_eq_setRow w g i _ t fr v hb
theorem held_other {w : World} {g g' n : Nat} {c : Array Value} (h : Held w g n) (hne : g ≠ g') : Held (w.setRow g' c) g n :=
  h.of_block (setRow_block w g' g c hne)
/-- behind Best's copy: the entry's block with the new grants -/
theorem best_end (v : Value) {w wr w2 : World} {e : En} {al gr : Value} {t : TypeId} (hBW : BW w wr) (hb : Below (wr.alloc (.cells (e.vals al gr) t)).heap.size (wr.alloc (.cells (e.vals al gr) t)) w2) :
    row (w2.setCell ⟨wr.heap.size, 32, none⟩ v) wr.heap.size = e.vals al v ∧ Held (w2.setCell ⟨wr.heap.size, 32, none⟩ v) w.heap.size 33 ∧
    w2.cell? ⟨wr.heap.size, 32, none⟩ = some gr ∧ w2.frozen? ⟨wr.heap.size, 32, none⟩ = false ∧
    (∀ c, Below w.heap.size w ((w2.setCell ⟨wr.heap.size, 32, none⟩ v).setRow w.heap.size c)) ∧ (∀ c k, (wr.alloc (.cells (e.vals al gr) t)).heap.size ≤ k → k < w2.heap.size → ((w2.setCell ⟨wr.heap.size, 32, none⟩ v).setRow w.heap.size c).heap[k]? = w2.heap[k]?) := by
  have hz := hBW.2.size
  have hlt := hBW.1.2.2
  have hE := (EB.new wr (e.vals al gr) t).of_block (hb.block wr.heap.size (by simp)) hb.size
  have hH := held_of hE (vals_size e al gr) (by decide)
  have hW := held_of ((BW.after hBW hb).1) (show zE.size = 33 from rfl) (by decide)
  have hs := set_held hH 32 v
  rw [hE.1, vals_set32] at hs
  have hne : w.heap.size ≠ wr.heap.size := by omega
  rw [hs]
  refine ⟨row_setRow hH _, held_other hW hne, cell_row hE.1 32 _ (vals_32 e al gr), hE.2.1 32, fun c => ?_, fun c k h1 h2 => ?_⟩
  · exact below_setRow (below_setRow (BW.after hBW hb).2 (by omega) _) (Nat.le_refl _) _
  · simp at h1
    rw [setRow_block _ _ _ _ (by omega), setRow_block _ _ _ _ (by omega)]
def BestR (nm : List UInt8) (l : List Ef) (r : Ending) (w' : World) : Prop :=
  (best nm l = none ∧ r = .returned (.tuple #[.agg zE, .bool false])) ∨
  ∃ (x : Ef) (a1 : Option Addr) (c1 : Nat) (gr : Value), best nm l = some x ∧ r = .returned (.tuple #[.agg (x.e.vals (.slice a1 x.n1 c1) gr), .bool true]) ∧ GS w' gr x.gs
theorem ac_best (a : Option Addr) (n c : Nat) (F : Nat → Ef) (name : ByteArray) (w : World) (hm : MaxL w) (hES : ES w a n F) (hn : n ≤ 1000) (hF : ∀ k, k < n → (F k).e.name.size ≤ 60 ∧ (F k).n2 ≤ 1000) :
    Calls Tryz.prog 36 #[.slice a n c, .string name] w fun r w' => BestR (Ds.bl name) (lst F n) r w' ∧ Below w.heap.size w w' := by
  have HF := Lib.hid hF
  have HES := Lib.hid hES
  clear hF hES
  go_enter Tryz.func36, Tryz.ntmps36
  go_wp2_with fail
  go_loopw [6, 12] (fun bj i wr => ∃ (k : Nat) (j : Int), k ≤ n ∧ i = .int .i64 k ∧ bj = .int .i64 j ∧ BI2 (Ds.bl name) F k j ∧ BW w wr) (fun _ i _ => n - (intOf i).toNat)
  case atStart => exact ⟨0, -1, Nat.zero_le _, rfl, rfl, Or.inl ⟨rfl, rfl⟩, EB.new w zE _, by (repeat (first | exact Below.refl _ _ | assumption | (refine Below.drew ?_) | (refine Below.alloc ?_ (by first | (simp; done) | (simp; omega) | omega) _) | (refine Below.setCell ?_ (by first | (simp; done) | (simp; omega) | omega) _)))⟩
  case round =>
    obtain ⟨k, j, hk, rfl, rfl, hj, hBW⟩ := hrel
    have HBW := Lib.hid hBW
    have HJ := Lib.hid hj
    clear hBW hj
    by_cases hlt : k < n
    · obtain ⟨b, o, rfl, hb, a1, c1, a2, c2, hmid, -, -, hgs⟩ := (HES.out.below HBW.out.2).2 k hlt
      obtain ⟨-, hg⟩ := hgs (HF.out k hlt).2
      have hx60 := (HF.out k hlt).1
      have hmr := hm.below HBW.out.2
      have hz : (mid wr b (o + k * 33)).size = 33 := by rw [hmid]; exact vals_size _ _ _
      have hone := vals_one (F k).e (.slice a1 (F k).n1 c1) (.slice a2 (F k).n2 c2) rfl rfl
      have HMR := Lib.hid hmr
      have HG := Lib.hid hg
      clear hmr hg hgs
      by_cases hk4 : (F k).e.kind = 4
      rotate_left
      · have q4 : ((F k).e.kind == 4) = false := by rw [beq_eq_false_iff_ne]; exact hk4
        have HH : Hid (hits (Ds.bl name) (F k) = false) := Lib.hid (by unfold hits; rw [decide_eq_false hk4, Bool.false_and])
        clear hk4
        go_wp2_with fail
        go_quiet (fail)
        go_wp2_with fail
        go_roundw
        case rel => exact ⟨k + 1, j, by omega, by go_num, rfl, HJ.out.keep (Or.inl HH.out), (HBW.out.below ((Below.refl _ _).alloc (Nat.le_refl _) _)).below (below_drewN (Below.refl _ _) _)⟩
        case measure => simp [intOf]; omega
      have q4 : ((F k).e.kind == 4) = true := by rw [beq_iff_eq]; exact hk4
      have R0 := row_new wr ((F k).e.vals (.slice a1 (F k).n1 c1) (.slice a2 (F k).n2 c2)) 27 (0, 0)
      have N0 := cell_row R0 0 _ (vals_0 _ _ _)
      have N1 := cell_row R0 1 _ (vals_1 _ _ _)
      have ha := fun W (B : Below (wr.alloc (.cells ((F k).e.vals (.slice a1 (F k).n1 c1) (.slice a2 (F k).n2 c2)) 27)).heap.size (wr.alloc (.cells ((F k).e.vals (.slice a1 (F k).n1 c1) (.slice a2 (F k).n2 c2)) 27)) W) => below1 B
      have hv := fun W B => va_ef (F k) a1 c1 (.slice a2 (F k).n2 c2) W hk4 (HMR.out.below (ha W B)) (HG.out.below (ha W B))
      have hmt := fun W B => ds_match (F k).e.name name W (HMR.out.below (ha W B))
      have hh4 : hits (Ds.bl name) (F k) = (okQ (F k) && Ds.match_ (Ds.bl (F k).e.name) (Ds.bl name)) := by unfold hits; rw [decide_eq_true hk4, Bool.true_and]
      have HA := Lib.hid ha
      clear ha hk4
      cases hq : okQ (F k)
      · rw [hq] at hv hh4
        have HV := Lib.hid hv
        have HH := Lib.hid hh4
        clear hv hmt hh4 hq
        go_upto_region 5 with fail
        refine wp_region_held_drew (S := fun w' => row w' wr.heap.size = (F k).e.vals (.slice a1 (F k).n1 c1) (.slice a2 (F k).n2 c2) ∧ w'.cell? ⟨wr.heap.size, 0, none⟩ = some (.int .i64 (F k).e.kind) ∧ w'.cell? ⟨wr.heap.size, 1, none⟩ = some (.string (F k).e.name) ∧ Below (wr.alloc (.cells ((F k).e.vals (.slice a1 (F k).n1 c1) (.slice a2 (F k).n2 c2)) 27)).heap.size (wr.alloc (.cells ((F k).e.vals (.slice a1 (F k).n1 c1) (.slice a2 (F k).n2 c2)) 27)) w') (by kernel_rfl) ?_ (fun hHeld => ?_)
        · exact ⟨R0, N0, N1, Below.drew (Below.refl _ _)⟩
        (refine rg_y (i := 0) (some 17) (v := ?_) rfl rfl (by kernel_rfl) (by kernel_rfl) (by kernel_rfl) (fun _ _ _ h => h) (by kernel_rfl) ?_ (by assumption) ?_; rotate_left 1; focus (intro w hSw; (try dsimp only at hSw); (first | (go_simp; done) | (go_simp; with_reducible rfl))); (try simp only [Act.put, List.setIfInBounds_toArray, List.set_cons_zero, List.set_cons_succ]))
        (refine rg_y (i := 1) (some 18) (v := ?_) rfl rfl (by kernel_rfl) (by kernel_rfl) (by kernel_rfl) (fun _ _ _ h => h) (by kernel_rfl) ?_ (by assumption) ?_; rotate_left 1; focus (intro w hSw; (try dsimp only at hSw); (first | (go_simp; done) | (go_simp; with_reducible rfl))); (try simp only [Act.put, List.setIfInBounds_toArray, List.set_cons_zero, List.set_cons_succ]))
        (refine rg_y (i := 2) (some 19) (v := ?_) rfl rfl (by kernel_rfl) (by kernel_rfl) (by kernel_rfl) (fun _ _ _ h => h) (by kernel_rfl) ?_ (by assumption) ?_; rotate_left 1; focus (intro w hSw; (try dsimp only at hSw); (first | (go_simp; done) | (go_simp; with_reducible rfl))); (try simp only [Act.put, List.setIfInBounds_toArray, List.set_cons_zero, List.set_cons_succ]))
        (refine rg_y (i := 3) (some 20) (v := ?_) rfl rfl (by kernel_rfl) (by kernel_rfl) (by kernel_rfl) (fun _ _ _ h => h) (by kernel_rfl) ?_ (by assumption) ?_; rotate_left 1; focus (intro w hSw; (try dsimp only at hSw); (first | (go_simp; done) | (go_simp; with_reducible rfl))); (try simp only [Act.put, List.setIfInBounds_toArray, List.set_cons_zero, List.set_cons_succ]))
        refine rg_y (i := 4) (some 21) (v := .agg ((F k).e.vals (.slice a1 (F k).n1 c1) (.slice a2 (F k).n2 c2))) rfl rfl (by kernel_rfl) (by kernel_rfl) (by kernel_rfl) (fun _ _ _ h => h) (by kernel_rfl) (fun w hSw => ?_) (by assumption) ?_
        · refine (ldEnt _ w _ _ _ _ _ _ rfl (by show (row w wr.heap.size).size = 33; rw [hSw.1]; exact vals_size _ _ _)).trans ?_
          show Result.ok (Next.value (.agg (row w wr.heap.size))) w = _
          rw [hSw.1]
        (try simp only [Act.put, List.setIfInBounds_toArray, List.set_cons_zero, List.set_cons_succ])
        (refine wpAnyH_ready (rs := [5]) (by kernel_rfl) (by simp) ?_; refine AllReadyH.cons (o := _) rfl (fun K hK => ?_) AllReadyH.nil)
        go_simp
        (go_at_call 17; (with_reducible refine (HV.out _ hHeld.2.2.2).mono ?_); rintro _ w2 ⟨rfl, hb⟩)
        go_wp2_with fail
        refine hK.out _ _ (keepA hb hHeld (by simp [vals_size])) (fun hHeld => ?_)
        clear hb
        (clear hK K; (try simp only [Act.put, List.setIfInBounds_toArray, List.set_cons_zero, List.set_cons_succ]))
        (refine rg_y (i := 6) (some 23) (v := ?_) rfl rfl (by kernel_rfl) (by kernel_rfl) (by kernel_rfl) (fun _ _ _ h => h) (by kernel_rfl) ?_ (by assumption) ?_; rotate_left 1; focus (intro w hSw; (try dsimp only at hSw); (first | (go_simp; done) | (go_simp; with_reducible rfl))); (try simp only [Act.put, List.setIfInBounds_toArray, List.set_cons_zero, List.set_cons_succ]))
        (refine rg_y (i := 7) (some 24) (v := ?_) rfl rfl (by kernel_rfl) (by kernel_rfl) (by kernel_rfl) (fun _ _ _ h => h) (by kernel_rfl) ?_ (by assumption) ?_; rotate_left 1; focus (intro w hSw; (try dsimp only at hSw); (first | (go_simp; done) | (go_simp; with_reducible rfl))); (try simp only [Act.put, List.setIfInBounds_toArray, List.set_cons_zero, List.set_cons_succ]))
        (refine rg_s (i := 8) (some 25) rfl rfl (by kernel_rfl) (by kernel_rfl) (by kernel_rfl) (fun _ _ _ h => h) (by kernel_rfl) (by assumption) ?_; (try simp only [Act.put, List.setIfInBounds_toArray, List.set_cons_zero, List.set_cons_succ]))
        (refine rg_s (i := 9) (some 26) rfl rfl (by kernel_rfl) (by kernel_rfl) (by kernel_rfl) (fun _ _ _ h => h) (by kernel_rfl) (by assumption) ?_; (try simp only [Act.put, List.setIfInBounds_toArray, List.set_cons_zero, List.set_cons_succ]))
        (refine rg_s (i := 10) (some 27) rfl rfl (by kernel_rfl) (by kernel_rfl) (by kernel_rfl) (fun _ _ _ h => h) (by kernel_rfl) (by assumption) ?_; (try simp only [Act.put, List.setIfInBounds_toArray, List.set_cons_zero, List.set_cons_succ]))
        (refine rg_n (i := 11) (some 28) rfl rfl (by kernel_rfl) (by kernel_rfl) (by assumption) ?_; (try simp only [Act.put, List.setIfInBounds_toArray, List.set_cons_zero, List.set_cons_succ]))
        (refine rg_y (i := 12) (some 29) (v := ?_) rfl rfl (by kernel_rfl) (by kernel_rfl) (by kernel_rfl) (fun _ _ _ h => h) (by kernel_rfl) ?_ (by assumption) ?_; rotate_left 1; focus (intro w hSw; (try dsimp only at hSw); (first | (go_simp; done) | (go_simp; with_reducible rfl))); (try simp only [Act.put, List.setIfInBounds_toArray, List.set_cons_zero, List.set_cons_succ]))
        (refine rg_y (i := 13) (some 30) (v := ?_) rfl rfl (by kernel_rfl) (by kernel_rfl) (by kernel_rfl) (fun _ _ _ h => h) (by kernel_rfl) ?_ (by assumption) ?_; rotate_left 1; focus (intro w hSw; (try dsimp only at hSw); (first | (go_simp; done) | (go_simp; with_reducible rfl))); (try simp only [Act.put, List.setIfInBounds_toArray, List.set_cons_zero, List.set_cons_succ]))
        (refine rg_s (i := 14) (some 31) rfl rfl (by kernel_rfl) (by kernel_rfl) (by kernel_rfl) (fun _ _ _ h => h) (by kernel_rfl) (by assumption) ?_; (try simp only [Act.put, List.setIfInBounds_toArray, List.set_cons_zero, List.set_cons_succ]))
        (refine rg_s (i := 15) (some 32) rfl rfl (by kernel_rfl) (by kernel_rfl) (by kernel_rfl) (fun _ _ _ h => h) (by kernel_rfl) (by assumption) ?_; (try simp only [Act.put, List.setIfInBounds_toArray, List.set_cons_zero, List.set_cons_succ]))
        (refine rg_s (i := 16) (some 33) rfl rfl (by kernel_rfl) (by kernel_rfl) (by kernel_rfl) (fun _ _ _ h => h) (by kernel_rfl) (by assumption) ?_; (try simp only [Act.put, List.setIfInBounds_toArray, List.set_cons_zero, List.set_cons_succ]))
        (refine rg_s (i := 17) (some 34) rfl rfl (by kernel_rfl) (by kernel_rfl) (by kernel_rfl) (fun _ _ _ h => h) (by kernel_rfl) (by assumption) ?_; (try simp only [Act.put, List.setIfInBounds_toArray, List.set_cons_zero, List.set_cons_succ]))
        (refine rg_s (i := 18) (some 35) rfl rfl (by kernel_rfl) (by kernel_rfl) (by kernel_rfl) (fun _ _ _ h => h) (by kernel_rfl) (by assumption) ?_; (try simp only [Act.put, List.setIfInBounds_toArray, List.set_cons_zero, List.set_cons_succ]))
        (refine rg_s (i := 19) (some 36) rfl rfl (by kernel_rfl) (by kernel_rfl) (by kernel_rfl) (fun _ _ _ h => h) (by kernel_rfl) (by assumption) ?_; (try simp only [Act.put, List.setIfInBounds_toArray, List.set_cons_zero, List.set_cons_succ]))
        (refine rg_s (i := 20) (some 37) rfl rfl (by kernel_rfl) (by kernel_rfl) (by kernel_rfl) (fun _ _ _ h => h) (by kernel_rfl) (by assumption) ?_; (try simp only [Act.put, List.setIfInBounds_toArray, List.set_cons_zero, List.set_cons_succ]))
        (refine rg_s (i := 21) (some 38) rfl rfl (by kernel_rfl) (by kernel_rfl) (by kernel_rfl) (fun _ _ _ h => h) (by kernel_rfl) (by assumption) ?_; (try simp only [Act.put, List.setIfInBounds_toArray, List.set_cons_zero, List.set_cons_succ]))
        (refine rg_s (i := 22) (some 39) rfl rfl (by kernel_rfl) (by kernel_rfl) (by kernel_rfl) (fun _ _ _ h => h) (by kernel_rfl) (by assumption) ?_; (try simp only [Act.put, List.setIfInBounds_toArray, List.set_cons_zero, List.set_cons_succ]))
        (refine rg_s (i := 23) (some 40) rfl rfl (by kernel_rfl) (by kernel_rfl) (by kernel_rfl) (fun _ _ _ h => h) (by kernel_rfl) (by assumption) ?_; (try simp only [Act.put, List.setIfInBounds_toArray, List.set_cons_zero, List.set_cons_succ]))
        (refine rg_n (i := 24) (some 41) rfl rfl (by kernel_rfl) (by kernel_rfl) (by assumption) ?_; (try simp only [Act.put, List.setIfInBounds_toArray, List.set_cons_zero, List.set_cons_succ]))
        (refine rg_s (i := 25) (some 42) rfl rfl (by kernel_rfl) (by kernel_rfl) (by kernel_rfl) (fun _ _ _ h => h) (by kernel_rfl) (by assumption) ?_; (try simp only [Act.put, List.setIfInBounds_toArray, List.set_cons_zero, List.set_cons_succ]))
        (refine rg_s (i := 26) (some 43) rfl rfl (by kernel_rfl) (by kernel_rfl) (by kernel_rfl) (fun _ _ _ h => h) (by kernel_rfl) (by assumption) ?_; (try simp only [Act.put, List.setIfInBounds_toArray, List.set_cons_zero, List.set_cons_succ]))
        (refine rg_y (i := 27) (some 44) (v := ?_) rfl rfl (by kernel_rfl) (by kernel_rfl) (by kernel_rfl) (fun _ _ _ h => h) (by kernel_rfl) ?_ (by assumption) ?_; rotate_left 1; focus (intro w hSw; (try dsimp only at hSw); (first | (go_simp; done) | (go_simp; with_reducible rfl))); (try simp only [Act.put, List.setIfInBounds_toArray, List.set_cons_zero, List.set_cons_succ]))
        refine wpAnyH_done (by kernel_rfl) ?_ _
        go_wp2_with fail
        go_roundw
        case rel => exact ⟨k + 1, j, by omega, by go_num, rfl, HJ.out.keep (Or.inl (by rw [HH.out]; rfl)), HBW.out.after hHeld.2.2.2⟩
        case measure => simp [intOf]; omega
      rw [hq] at hv hh4
      cases hmm : Ds.match_ (Ds.bl (F k).e.name) (Ds.bl name)
      · rw [hmm] at hmt hh4
        have HV := Lib.hid hv
        have HM := Lib.hid hmt
        have HH := Lib.hid hh4
        clear hv hmt hh4 hq hmm
        go_upto_region 5 with fail
        refine wp_region_held_drew (S := fun w' => row w' wr.heap.size = (F k).e.vals (.slice a1 (F k).n1 c1) (.slice a2 (F k).n2 c2) ∧ w'.cell? ⟨wr.heap.size, 0, none⟩ = some (.int .i64 (F k).e.kind) ∧ w'.cell? ⟨wr.heap.size, 1, none⟩ = some (.string (F k).e.name) ∧ Below (wr.alloc (.cells ((F k).e.vals (.slice a1 (F k).n1 c1) (.slice a2 (F k).n2 c2)) 27)).heap.size (wr.alloc (.cells ((F k).e.vals (.slice a1 (F k).n1 c1) (.slice a2 (F k).n2 c2)) 27)) w') (by kernel_rfl) ?_ (fun hHeld => ?_)
        · exact ⟨R0, N0, N1, Below.drew (Below.refl _ _)⟩
        (refine rg_y (i := 0) (some 17) (v := ?_) rfl rfl (by kernel_rfl) (by kernel_rfl) (by kernel_rfl) (fun _ _ _ h => h) (by kernel_rfl) ?_ (by assumption) ?_; rotate_left 1; focus (intro w hSw; (try dsimp only at hSw); (first | (go_simp; done) | (go_simp; with_reducible rfl))); (try simp only [Act.put, List.setIfInBounds_toArray, List.set_cons_zero, List.set_cons_succ]))
        (refine rg_y (i := 1) (some 18) (v := ?_) rfl rfl (by kernel_rfl) (by kernel_rfl) (by kernel_rfl) (fun _ _ _ h => h) (by kernel_rfl) ?_ (by assumption) ?_; rotate_left 1; focus (intro w hSw; (try dsimp only at hSw); (first | (go_simp; done) | (go_simp; with_reducible rfl))); (try simp only [Act.put, List.setIfInBounds_toArray, List.set_cons_zero, List.set_cons_succ]))
        (refine rg_y (i := 2) (some 19) (v := ?_) rfl rfl (by kernel_rfl) (by kernel_rfl) (by kernel_rfl) (fun _ _ _ h => h) (by kernel_rfl) ?_ (by assumption) ?_; rotate_left 1; focus (intro w hSw; (try dsimp only at hSw); (first | (go_simp; done) | (go_simp; with_reducible rfl))); (try simp only [Act.put, List.setIfInBounds_toArray, List.set_cons_zero, List.set_cons_succ]))
        (refine rg_y (i := 3) (some 20) (v := ?_) rfl rfl (by kernel_rfl) (by kernel_rfl) (by kernel_rfl) (fun _ _ _ h => h) (by kernel_rfl) ?_ (by assumption) ?_; rotate_left 1; focus (intro w hSw; (try dsimp only at hSw); (first | (go_simp; done) | (go_simp; with_reducible rfl))); (try simp only [Act.put, List.setIfInBounds_toArray, List.set_cons_zero, List.set_cons_succ]))
        refine rg_y (i := 4) (some 21) (v := .agg ((F k).e.vals (.slice a1 (F k).n1 c1) (.slice a2 (F k).n2 c2))) rfl rfl (by kernel_rfl) (by kernel_rfl) (by kernel_rfl) (fun _ _ _ h => h) (by kernel_rfl) (fun w hSw => ?_) (by assumption) ?_
        · refine (ldEnt _ w _ _ _ _ _ _ rfl (by show (row w wr.heap.size).size = 33; rw [hSw.1]; exact vals_size _ _ _)).trans ?_
          show Result.ok (Next.value (.agg (row w wr.heap.size))) w = _
          rw [hSw.1]
        (try simp only [Act.put, List.setIfInBounds_toArray, List.set_cons_zero, List.set_cons_succ])
        (refine wpAnyH_ready (rs := [5]) (by kernel_rfl) (by simp) ?_; refine AllReadyH.cons (o := _) rfl (fun K hK => ?_) AllReadyH.nil)
        go_simp
        (go_at_call 17; (with_reducible refine (HV.out _ hHeld.2.2.2).mono ?_); rintro _ w2 ⟨rfl, hb⟩)
        go_wp2_with fail
        refine hK.out _ _ (keepA hb hHeld (by simp [vals_size])) (fun hHeld => ?_)
        clear hb
        (clear hK K; (try simp only [Act.put, List.setIfInBounds_toArray, List.set_cons_zero, List.set_cons_succ]))
        (refine rg_y (i := 6) (some 23) (v := ?_) rfl rfl (by kernel_rfl) (by kernel_rfl) (by kernel_rfl) (fun _ _ _ h => h) (by kernel_rfl) ?_ (by assumption) ?_; rotate_left 1; focus (intro w hSw; (try dsimp only at hSw); (first | (go_simp; done) | (go_simp; with_reducible rfl))); (try simp only [Act.put, List.setIfInBounds_toArray, List.set_cons_zero, List.set_cons_succ]))
        (refine rg_y (i := 7) (some 24) (v := ?_) rfl rfl (by kernel_rfl) (by kernel_rfl) (by kernel_rfl) (fun _ _ _ h => h) (by kernel_rfl) ?_ (by assumption) ?_; rotate_left 1; focus (intro w hSw; (try dsimp only at hSw); (first | (go_simp; done) | (go_simp; with_reducible rfl))); (try simp only [Act.put, List.setIfInBounds_toArray, List.set_cons_zero, List.set_cons_succ]))
        (refine rg_y (i := 8) (some 25) (v := ?_) rfl rfl (by kernel_rfl) (by kernel_rfl) (by kernel_rfl) (fun _ _ _ h => h) (by kernel_rfl) ?_ (by assumption) ?_; rotate_left 1; focus (intro w hSw; (try dsimp only at hSw); (first | (go_simp; done) | (go_simp; with_reducible rfl))); (try simp only [Act.put, List.setIfInBounds_toArray, List.set_cons_zero, List.set_cons_succ]))
        (refine rg_y (i := 9) (some 26) (v := ?_) rfl rfl (by kernel_rfl) (by kernel_rfl) (by kernel_rfl) (fun _ _ _ h => h) (by kernel_rfl) ?_ (by assumption) ?_; rotate_left 1; focus (intro w hSw; (try dsimp only at hSw); (first | (go_simp; done) | (go_simp; with_reducible rfl))); (try simp only [Act.put, List.setIfInBounds_toArray, List.set_cons_zero, List.set_cons_succ]))
        (refine rg_y (i := 10) (some 27) (v := ?_) rfl rfl (by kernel_rfl) (by kernel_rfl) (by kernel_rfl) (fun _ _ _ h => h) (by kernel_rfl) ?_ (by assumption) ?_; rotate_left 1; focus (intro w hSw; (try dsimp only at hSw); (first | (go_simp; done) | (go_simp; with_reducible rfl))); (try simp only [Act.put, List.setIfInBounds_toArray, List.set_cons_zero, List.set_cons_succ]))
        (refine wpAnyH_ready (rs := [11]) (by kernel_rfl) (by simp) ?_; refine AllReadyH.cons (o := _) rfl (fun K hK => ?_) AllReadyH.nil)
        go_simp
        (go_at_call 33; (with_reducible refine (HM.out _ hHeld.2.2.2).mono ?_); rintro _ w2 ⟨rfl, hb⟩)
        go_wp2_with fail
        refine hK.out _ _ (keepA hb hHeld (by simp [vals_size])) (fun hHeld => ?_)
        clear hb
        (clear hK K; (try simp only [Act.put, List.setIfInBounds_toArray, List.set_cons_zero, List.set_cons_succ]))
        (refine rg_y (i := 12) (some 29) (v := ?_) rfl rfl (by kernel_rfl) (by kernel_rfl) (by kernel_rfl) (fun _ _ _ h => h) (by kernel_rfl) ?_ (by assumption) ?_; rotate_left 1; focus (intro w hSw; (try dsimp only at hSw); (first | (go_simp; done) | (go_simp; with_reducible rfl))); (try simp only [Act.put, List.setIfInBounds_toArray, List.set_cons_zero, List.set_cons_succ]))
        (refine rg_y (i := 13) (some 30) (v := ?_) rfl rfl (by kernel_rfl) (by kernel_rfl) (by kernel_rfl) (fun _ _ _ h => h) (by kernel_rfl) ?_ (by assumption) ?_; rotate_left 1; focus (intro w hSw; (try dsimp only at hSw); (first | (go_simp; done) | (go_simp; with_reducible rfl))); (try simp only [Act.put, List.setIfInBounds_toArray, List.set_cons_zero, List.set_cons_succ]))
        (refine rg_s (i := 14) (some 31) rfl rfl (by kernel_rfl) (by kernel_rfl) (by kernel_rfl) (fun _ _ _ h => h) (by kernel_rfl) (by assumption) ?_; (try simp only [Act.put, List.setIfInBounds_toArray, List.set_cons_zero, List.set_cons_succ]))
        (refine rg_s (i := 15) (some 32) rfl rfl (by kernel_rfl) (by kernel_rfl) (by kernel_rfl) (fun _ _ _ h => h) (by kernel_rfl) (by assumption) ?_; (try simp only [Act.put, List.setIfInBounds_toArray, List.set_cons_zero, List.set_cons_succ]))
        (refine rg_s (i := 16) (some 33) rfl rfl (by kernel_rfl) (by kernel_rfl) (by kernel_rfl) (fun _ _ _ h => h) (by kernel_rfl) (by assumption) ?_; (try simp only [Act.put, List.setIfInBounds_toArray, List.set_cons_zero, List.set_cons_succ]))
        (refine rg_s (i := 17) (some 34) rfl rfl (by kernel_rfl) (by kernel_rfl) (by kernel_rfl) (fun _ _ _ h => h) (by kernel_rfl) (by assumption) ?_; (try simp only [Act.put, List.setIfInBounds_toArray, List.set_cons_zero, List.set_cons_succ]))
        (refine rg_s (i := 18) (some 35) rfl rfl (by kernel_rfl) (by kernel_rfl) (by kernel_rfl) (fun _ _ _ h => h) (by kernel_rfl) (by assumption) ?_; (try simp only [Act.put, List.setIfInBounds_toArray, List.set_cons_zero, List.set_cons_succ]))
        (refine rg_s (i := 19) (some 36) rfl rfl (by kernel_rfl) (by kernel_rfl) (by kernel_rfl) (fun _ _ _ h => h) (by kernel_rfl) (by assumption) ?_; (try simp only [Act.put, List.setIfInBounds_toArray, List.set_cons_zero, List.set_cons_succ]))
        (refine rg_s (i := 20) (some 37) rfl rfl (by kernel_rfl) (by kernel_rfl) (by kernel_rfl) (fun _ _ _ h => h) (by kernel_rfl) (by assumption) ?_; (try simp only [Act.put, List.setIfInBounds_toArray, List.set_cons_zero, List.set_cons_succ]))
        (refine rg_s (i := 21) (some 38) rfl rfl (by kernel_rfl) (by kernel_rfl) (by kernel_rfl) (fun _ _ _ h => h) (by kernel_rfl) (by assumption) ?_; (try simp only [Act.put, List.setIfInBounds_toArray, List.set_cons_zero, List.set_cons_succ]))
        (refine rg_s (i := 22) (some 39) rfl rfl (by kernel_rfl) (by kernel_rfl) (by kernel_rfl) (fun _ _ _ h => h) (by kernel_rfl) (by assumption) ?_; (try simp only [Act.put, List.setIfInBounds_toArray, List.set_cons_zero, List.set_cons_succ]))
        (refine rg_s (i := 23) (some 40) rfl rfl (by kernel_rfl) (by kernel_rfl) (by kernel_rfl) (fun _ _ _ h => h) (by kernel_rfl) (by assumption) ?_; (try simp only [Act.put, List.setIfInBounds_toArray, List.set_cons_zero, List.set_cons_succ]))
        (refine rg_n (i := 24) (some 41) rfl rfl (by kernel_rfl) (by kernel_rfl) (by assumption) ?_; (try simp only [Act.put, List.setIfInBounds_toArray, List.set_cons_zero, List.set_cons_succ]))
        (refine rg_s (i := 25) (some 42) rfl rfl (by kernel_rfl) (by kernel_rfl) (by kernel_rfl) (fun _ _ _ h => h) (by kernel_rfl) (by assumption) ?_; (try simp only [Act.put, List.setIfInBounds_toArray, List.set_cons_zero, List.set_cons_succ]))
        (refine rg_s (i := 26) (some 43) rfl rfl (by kernel_rfl) (by kernel_rfl) (by kernel_rfl) (fun _ _ _ h => h) (by kernel_rfl) (by assumption) ?_; (try simp only [Act.put, List.setIfInBounds_toArray, List.set_cons_zero, List.set_cons_succ]))
        (refine rg_y (i := 27) (some 44) (v := ?_) rfl rfl (by kernel_rfl) (by kernel_rfl) (by kernel_rfl) (fun _ _ _ h => h) (by kernel_rfl) ?_ (by assumption) ?_; rotate_left 1; focus (intro w hSw; (try dsimp only at hSw); (first | (go_simp; done) | (go_simp; with_reducible rfl))); (try simp only [Act.put, List.setIfInBounds_toArray, List.set_cons_zero, List.set_cons_succ]))
        refine wpAnyH_done (by kernel_rfl) ?_ _
        go_wp2_with fail
        go_roundw
        case rel => exact ⟨k + 1, j, by omega, by go_num, rfl, HJ.out.keep (Or.inl (by rw [HH.out]; rfl)), HBW.out.after hHeld.2.2.2⟩
        case measure => simp [intOf]; omega
      rw [hmm] at hmt hh4
      rcases HJ.out with ⟨hno, rfl⟩ | ⟨i, rfl, hik, hso⟩
      · have HV := Lib.hid hv
        have HM := Lib.hid hmt
        have HH := Lib.hid hh4
        have HN := Lib.hid hno
        clear hv hmt hh4 hq hmm hno
        go_upto_region 5 with fail
        refine wp_region_held_drew (S := fun w' => row w' wr.heap.size = (F k).e.vals (.slice a1 (F k).n1 c1) (.slice a2 (F k).n2 c2) ∧ w'.cell? ⟨wr.heap.size, 0, none⟩ = some (.int .i64 (F k).e.kind) ∧ w'.cell? ⟨wr.heap.size, 1, none⟩ = some (.string (F k).e.name) ∧ Below (wr.alloc (.cells ((F k).e.vals (.slice a1 (F k).n1 c1) (.slice a2 (F k).n2 c2)) 27)).heap.size (wr.alloc (.cells ((F k).e.vals (.slice a1 (F k).n1 c1) (.slice a2 (F k).n2 c2)) 27)) w') (by kernel_rfl) ?_ (fun hHeld => ?_)
        · exact ⟨R0, N0, N1, Below.drew (Below.refl _ _)⟩
        (refine rg_y (i := 0) (some 17) (v := ?_) rfl rfl (by kernel_rfl) (by kernel_rfl) (by kernel_rfl) (fun _ _ _ h => h) (by kernel_rfl) ?_ (by assumption) ?_; rotate_left 1; focus (intro w hSw; (try dsimp only at hSw); (first | (go_simp; done) | (go_simp; with_reducible rfl))); (try simp only [Act.put, List.setIfInBounds_toArray, List.set_cons_zero, List.set_cons_succ]))
        (refine rg_y (i := 1) (some 18) (v := ?_) rfl rfl (by kernel_rfl) (by kernel_rfl) (by kernel_rfl) (fun _ _ _ h => h) (by kernel_rfl) ?_ (by assumption) ?_; rotate_left 1; focus (intro w hSw; (try dsimp only at hSw); (first | (go_simp; done) | (go_simp; with_reducible rfl))); (try simp only [Act.put, List.setIfInBounds_toArray, List.set_cons_zero, List.set_cons_succ]))
        (refine rg_y (i := 2) (some 19) (v := ?_) rfl rfl (by kernel_rfl) (by kernel_rfl) (by kernel_rfl) (fun _ _ _ h => h) (by kernel_rfl) ?_ (by assumption) ?_; rotate_left 1; focus (intro w hSw; (try dsimp only at hSw); (first | (go_simp; done) | (go_simp; with_reducible rfl))); (try simp only [Act.put, List.setIfInBounds_toArray, List.set_cons_zero, List.set_cons_succ]))
        (refine rg_y (i := 3) (some 20) (v := ?_) rfl rfl (by kernel_rfl) (by kernel_rfl) (by kernel_rfl) (fun _ _ _ h => h) (by kernel_rfl) ?_ (by assumption) ?_; rotate_left 1; focus (intro w hSw; (try dsimp only at hSw); (first | (go_simp; done) | (go_simp; with_reducible rfl))); (try simp only [Act.put, List.setIfInBounds_toArray, List.set_cons_zero, List.set_cons_succ]))
        refine rg_y (i := 4) (some 21) (v := .agg ((F k).e.vals (.slice a1 (F k).n1 c1) (.slice a2 (F k).n2 c2))) rfl rfl (by kernel_rfl) (by kernel_rfl) (by kernel_rfl) (fun _ _ _ h => h) (by kernel_rfl) (fun w hSw => ?_) (by assumption) ?_
        · refine (ldEnt _ w _ _ _ _ _ _ rfl (by show (row w wr.heap.size).size = 33; rw [hSw.1]; exact vals_size _ _ _)).trans ?_
          show Result.ok (Next.value (.agg (row w wr.heap.size))) w = _
          rw [hSw.1]
        (try simp only [Act.put, List.setIfInBounds_toArray, List.set_cons_zero, List.set_cons_succ])
        (refine wpAnyH_ready (rs := [5]) (by kernel_rfl) (by simp) ?_; refine AllReadyH.cons (o := _) rfl (fun K hK => ?_) AllReadyH.nil)
        go_simp
        (go_at_call 17; (with_reducible refine (HV.out _ hHeld.2.2.2).mono ?_); rintro _ w2 ⟨rfl, hb⟩)
        go_wp2_with fail
        refine hK.out _ _ (keepA hb hHeld (by simp [vals_size])) (fun hHeld => ?_)
        clear hb
        (clear hK K; (try simp only [Act.put, List.setIfInBounds_toArray, List.set_cons_zero, List.set_cons_succ]))
        (refine rg_y (i := 6) (some 23) (v := ?_) rfl rfl (by kernel_rfl) (by kernel_rfl) (by kernel_rfl) (fun _ _ _ h => h) (by kernel_rfl) ?_ (by assumption) ?_; rotate_left 1; focus (intro w hSw; (try dsimp only at hSw); (first | (go_simp; done) | (go_simp; with_reducible rfl))); (try simp only [Act.put, List.setIfInBounds_toArray, List.set_cons_zero, List.set_cons_succ]))
        (refine rg_y (i := 7) (some 24) (v := ?_) rfl rfl (by kernel_rfl) (by kernel_rfl) (by kernel_rfl) (fun _ _ _ h => h) (by kernel_rfl) ?_ (by assumption) ?_; rotate_left 1; focus (intro w hSw; (try dsimp only at hSw); (first | (go_simp; done) | (go_simp; with_reducible rfl))); (try simp only [Act.put, List.setIfInBounds_toArray, List.set_cons_zero, List.set_cons_succ]))
        (refine rg_y (i := 8) (some 25) (v := ?_) rfl rfl (by kernel_rfl) (by kernel_rfl) (by kernel_rfl) (fun _ _ _ h => h) (by kernel_rfl) ?_ (by assumption) ?_; rotate_left 1; focus (intro w hSw; (try dsimp only at hSw); (first | (go_simp; done) | (go_simp; with_reducible rfl))); (try simp only [Act.put, List.setIfInBounds_toArray, List.set_cons_zero, List.set_cons_succ]))
        (refine rg_y (i := 9) (some 26) (v := ?_) rfl rfl (by kernel_rfl) (by kernel_rfl) (by kernel_rfl) (fun _ _ _ h => h) (by kernel_rfl) ?_ (by assumption) ?_; rotate_left 1; focus (intro w hSw; (try dsimp only at hSw); (first | (go_simp; done) | (go_simp; with_reducible rfl))); (try simp only [Act.put, List.setIfInBounds_toArray, List.set_cons_zero, List.set_cons_succ]))
        (refine rg_y (i := 10) (some 27) (v := ?_) rfl rfl (by kernel_rfl) (by kernel_rfl) (by kernel_rfl) (fun _ _ _ h => h) (by kernel_rfl) ?_ (by assumption) ?_; rotate_left 1; focus (intro w hSw; (try dsimp only at hSw); (first | (go_simp; done) | (go_simp; with_reducible rfl))); (try simp only [Act.put, List.setIfInBounds_toArray, List.set_cons_zero, List.set_cons_succ]))
        (refine wpAnyH_ready (rs := [11]) (by kernel_rfl) (by simp) ?_; refine AllReadyH.cons (o := _) rfl (fun K hK => ?_) AllReadyH.nil)
        go_simp
        (go_at_call 33; (with_reducible refine (HM.out _ hHeld.2.2.2).mono ?_); rintro _ w2 ⟨rfl, hb⟩)
        go_wp2_with fail
        refine hK.out _ _ (keepA hb hHeld (by simp [vals_size])) (fun hHeld => ?_)
        clear hb
        (clear hK K; (try simp only [Act.put, List.setIfInBounds_toArray, List.set_cons_zero, List.set_cons_succ]))
        (refine rg_y (i := 12) (some 29) (v := ?_) rfl rfl (by kernel_rfl) (by kernel_rfl) (by kernel_rfl) (fun _ _ _ h => h) (by kernel_rfl) ?_ (by assumption) ?_; rotate_left 1; focus (intro w hSw; (try dsimp only at hSw); (first | (go_simp; done) | (go_simp; with_reducible rfl))); (try simp only [Act.put, List.setIfInBounds_toArray, List.set_cons_zero, List.set_cons_succ]))
        (refine rg_y (i := 13) (some 30) (v := ?_) rfl rfl (by kernel_rfl) (by kernel_rfl) (by kernel_rfl) (fun _ _ _ h => h) (by kernel_rfl) ?_ (by assumption) ?_; rotate_left 1; focus (intro w hSw; (try dsimp only at hSw); (first | (go_simp; done) | (go_simp; with_reducible rfl))); (try simp only [Act.put, List.setIfInBounds_toArray, List.set_cons_zero, List.set_cons_succ]))
        (refine rg_y (i := 14) (some 31) (v := ?_) rfl rfl (by kernel_rfl) (by kernel_rfl) (by kernel_rfl) (fun _ _ _ h => h) (by kernel_rfl) ?_ (by assumption) ?_; rotate_left 1; focus (intro w hSw; (try dsimp only at hSw); (first | (go_simp; done) | (go_simp; with_reducible rfl))); (try simp only [Act.put, List.setIfInBounds_toArray, List.set_cons_zero, List.set_cons_succ]))
        (refine rg_y (i := 15) (some 32) (v := ?_) rfl rfl (by kernel_rfl) (by kernel_rfl) (by kernel_rfl) (fun _ _ _ h => h) (by kernel_rfl) ?_ (by assumption) ?_; rotate_left 1; focus (intro w hSw; (try dsimp only at hSw); (first | (go_simp; done) | (go_simp; with_reducible rfl))); (try simp only [Act.put, List.setIfInBounds_toArray, List.set_cons_zero, List.set_cons_succ]))
        (refine rg_y (i := 16) (some 33) (v := ?_) rfl rfl (by kernel_rfl) (by kernel_rfl) (by kernel_rfl) (fun _ _ _ h => h) (by kernel_rfl) ?_ (by assumption) ?_; rotate_left 1; focus (intro w hSw; (try dsimp only at hSw); (first | (go_simp; done) | (go_simp; with_reducible rfl))); (try simp only [Act.put, List.setIfInBounds_toArray, List.set_cons_zero, List.set_cons_succ]))
        (refine rg_s (i := 17) (some 34) rfl rfl (by kernel_rfl) (by kernel_rfl) (by kernel_rfl) (fun _ _ _ h => h) (by kernel_rfl) (by assumption) ?_; (try simp only [Act.put, List.setIfInBounds_toArray, List.set_cons_zero, List.set_cons_succ]))
        (refine rg_s (i := 18) (some 35) rfl rfl (by kernel_rfl) (by kernel_rfl) (by kernel_rfl) (fun _ _ _ h => h) (by kernel_rfl) (by assumption) ?_; (try simp only [Act.put, List.setIfInBounds_toArray, List.set_cons_zero, List.set_cons_succ]))
        (refine rg_s (i := 19) (some 36) rfl rfl (by kernel_rfl) (by kernel_rfl) (by kernel_rfl) (fun _ _ _ h => h) (by kernel_rfl) (by assumption) ?_; (try simp only [Act.put, List.setIfInBounds_toArray, List.set_cons_zero, List.set_cons_succ]))
        (refine rg_s (i := 20) (some 37) rfl rfl (by kernel_rfl) (by kernel_rfl) (by kernel_rfl) (fun _ _ _ h => h) (by kernel_rfl) (by assumption) ?_; (try simp only [Act.put, List.setIfInBounds_toArray, List.set_cons_zero, List.set_cons_succ]))
        (refine rg_s (i := 21) (some 38) rfl rfl (by kernel_rfl) (by kernel_rfl) (by kernel_rfl) (fun _ _ _ h => h) (by kernel_rfl) (by assumption) ?_; (try simp only [Act.put, List.setIfInBounds_toArray, List.set_cons_zero, List.set_cons_succ]))
        (refine rg_s (i := 22) (some 39) rfl rfl (by kernel_rfl) (by kernel_rfl) (by kernel_rfl) (fun _ _ _ h => h) (by kernel_rfl) (by assumption) ?_; (try simp only [Act.put, List.setIfInBounds_toArray, List.set_cons_zero, List.set_cons_succ]))
        (refine rg_s (i := 23) (some 40) rfl rfl (by kernel_rfl) (by kernel_rfl) (by kernel_rfl) (fun _ _ _ h => h) (by kernel_rfl) (by assumption) ?_; (try simp only [Act.put, List.setIfInBounds_toArray, List.set_cons_zero, List.set_cons_succ]))
        (refine rg_n (i := 24) (some 41) rfl rfl (by kernel_rfl) (by kernel_rfl) (by assumption) ?_; (try simp only [Act.put, List.setIfInBounds_toArray, List.set_cons_zero, List.set_cons_succ]))
        (refine rg_s (i := 25) (some 42) rfl rfl (by kernel_rfl) (by kernel_rfl) (by kernel_rfl) (fun _ _ _ h => h) (by kernel_rfl) (by assumption) ?_; (try simp only [Act.put, List.setIfInBounds_toArray, List.set_cons_zero, List.set_cons_succ]))
        (refine rg_y (i := 26) (some 43) (v := ?_) rfl rfl (by kernel_rfl) (by kernel_rfl) (by kernel_rfl) (fun _ _ _ h => h) (by kernel_rfl) ?_ (by assumption) ?_; rotate_left 1; focus (intro w hSw; (try dsimp only at hSw); (first | (go_simp; done) | (go_simp; with_reducible rfl))); (try simp only [Act.put, List.setIfInBounds_toArray, List.set_cons_zero, List.set_cons_succ]))
        (refine rg_y (i := 27) (some 44) (v := ?_) rfl rfl (by kernel_rfl) (by kernel_rfl) (by kernel_rfl) (fun _ _ _ h => h) (by kernel_rfl) ?_ (by assumption) ?_; rotate_left 1; focus (intro w hSw; (try dsimp only at hSw); (first | (go_simp; done) | (go_simp; with_reducible rfl))); (try simp only [Act.put, List.setIfInBounds_toArray, List.set_cons_zero, List.set_cons_succ]))
        refine wpAnyH_done (by kernel_rfl) ?_ _
        go_wp2_with fail
        go_roundw
        case rel => exact ⟨k + 1, k, by omega, by go_num, rfl, BI2.take (by rw [HH.out]; rfl) (by rw [HN.out]; rfl), HBW.out.after hHeld.2.2.2⟩
        case measure => simp [intOf]; omega
      · obtain ⟨b', o', e', -, i1', c1', i2', c2', himid, -⟩ := (HES.out.below HBW.out.2).2 i (by omega)
        cases e'
        have N2 := below_cell ((Below.refl wr.heap.size wr).alloc (Nat.le_refl _) (.cells ((F k).e.vals (.slice a1 (F k).n1 c1) (.slice a2 (F k).n2 c2)) 27)) (cell_mid himid 1 _ (vals_1 _ _ _))
        have ho := fun W B => ds_order (F k).e.name (F i).e.name W hx60 (HF.out i (by omega)).1 (HMR.out.below (HA.out W B))
        have i1 : (0 : Int) ≤ (i : Int) := by omega
        have i2 : (i : Int) < (n : Int) := by omega
        have hah : ahead (F k) (best (Ds.bl name) (lst F k)) = decide (Ds.order (Ds.bl (F k).e.name) (Ds.bl (F i).e.name) < 0) := by rw [hso]; rfl
        have i3 : ¬ ((i : Int) < 0) := by omega
        generalize Ds.order (Ds.bl (F k).e.name) (Ds.bl (F i).e.name) = od at ho hah
        have HV := Lib.hid hv
        have HM := Lib.hid hmt
        have HO := Lib.hid ho
        have HH := Lib.hid hh4
        have HSO := Lib.hid hso
        clear hv hmt ho hh4 hq hmm hso himid
        by_cases hod : od < 0
        · have q5 : decide (od < 0) = true := decide_eq_true hod
          rw [q5] at hah
          have HAH := Lib.hid hah
          clear hah
          go_upto_region 5 with fail
          refine wp_region_held_drew (S := fun w' => row w' wr.heap.size = (F k).e.vals (.slice a1 (F k).n1 c1) (.slice a2 (F k).n2 c2) ∧ w'.cell? ⟨wr.heap.size, 0, none⟩ = some (.int .i64 (F k).e.kind) ∧ w'.cell? ⟨wr.heap.size, 1, none⟩ = some (.string (F k).e.name) ∧ w'.cell? ⟨b, o + i * 33 + 1, none⟩ = some (.string (F i).e.name) ∧ Below (wr.alloc (.cells ((F k).e.vals (.slice a1 (F k).n1 c1) (.slice a2 (F k).n2 c2)) 27)).heap.size (wr.alloc (.cells ((F k).e.vals (.slice a1 (F k).n1 c1) (.slice a2 (F k).n2 c2)) 27)) w') (by kernel_rfl) ?_ (fun hHeld => ?_)
          · exact ⟨R0, N0, N1, N2, Below.drew (Below.refl _ _)⟩
          (refine rg_y (i := 0) (some 17) (v := ?_) rfl rfl (by kernel_rfl) (by kernel_rfl) (by kernel_rfl) (fun _ _ _ h => h) (by kernel_rfl) ?_ (by assumption) ?_; rotate_left 1; focus (intro w hSw; (try dsimp only at hSw); (first | (go_simp; done) | (go_simp; with_reducible rfl))); (try simp only [Act.put, List.setIfInBounds_toArray, List.set_cons_zero, List.set_cons_succ]))
          (refine rg_y (i := 1) (some 18) (v := ?_) rfl rfl (by kernel_rfl) (by kernel_rfl) (by kernel_rfl) (fun _ _ _ h => h) (by kernel_rfl) ?_ (by assumption) ?_; rotate_left 1; focus (intro w hSw; (try dsimp only at hSw); (first | (go_simp; done) | (go_simp; with_reducible rfl))); (try simp only [Act.put, List.setIfInBounds_toArray, List.set_cons_zero, List.set_cons_succ]))
          (refine rg_y (i := 2) (some 19) (v := ?_) rfl rfl (by kernel_rfl) (by kernel_rfl) (by kernel_rfl) (fun _ _ _ h => h) (by kernel_rfl) ?_ (by assumption) ?_; rotate_left 1; focus (intro w hSw; (try dsimp only at hSw); (first | (go_simp; done) | (go_simp; with_reducible rfl))); (try simp only [Act.put, List.setIfInBounds_toArray, List.set_cons_zero, List.set_cons_succ]))
          (refine rg_y (i := 3) (some 20) (v := ?_) rfl rfl (by kernel_rfl) (by kernel_rfl) (by kernel_rfl) (fun _ _ _ h => h) (by kernel_rfl) ?_ (by assumption) ?_; rotate_left 1; focus (intro w hSw; (try dsimp only at hSw); (first | (go_simp; done) | (go_simp; with_reducible rfl))); (try simp only [Act.put, List.setIfInBounds_toArray, List.set_cons_zero, List.set_cons_succ]))
          refine rg_y (i := 4) (some 21) (v := .agg ((F k).e.vals (.slice a1 (F k).n1 c1) (.slice a2 (F k).n2 c2))) rfl rfl (by kernel_rfl) (by kernel_rfl) (by kernel_rfl) (fun _ _ _ h => h) (by kernel_rfl) (fun w hSw => ?_) (by assumption) ?_
          · refine (ldEnt _ w _ _ _ _ _ _ rfl (by show (row w wr.heap.size).size = 33; rw [hSw.1]; exact vals_size _ _ _)).trans ?_
            show Result.ok (Next.value (.agg (row w wr.heap.size))) w = _
            rw [hSw.1]
          (try simp only [Act.put, List.setIfInBounds_toArray, List.set_cons_zero, List.set_cons_succ])
          (refine wpAnyH_ready (rs := [5]) (by kernel_rfl) (by simp) ?_; refine AllReadyH.cons (o := _) rfl (fun K hK => ?_) AllReadyH.nil)
          go_simp
          (go_at_call 17; (with_reducible refine (HV.out _ hHeld.2.2.2.2).mono ?_); rintro _ w2 ⟨rfl, hb⟩)
          go_wp2_with fail
          refine hK.out _ _ (keepB hb hHeld (by simp [vals_size])) (fun hHeld => ?_)
          clear hb
          (clear hK K; (try simp only [Act.put, List.setIfInBounds_toArray, List.set_cons_zero, List.set_cons_succ]))
          (refine rg_y (i := 6) (some 23) (v := ?_) rfl rfl (by kernel_rfl) (by kernel_rfl) (by kernel_rfl) (fun _ _ _ h => h) (by kernel_rfl) ?_ (by assumption) ?_; rotate_left 1; focus (intro w hSw; (try dsimp only at hSw); (first | (go_simp; done) | (go_simp; with_reducible rfl))); (try simp only [Act.put, List.setIfInBounds_toArray, List.set_cons_zero, List.set_cons_succ]))
          (refine rg_y (i := 7) (some 24) (v := ?_) rfl rfl (by kernel_rfl) (by kernel_rfl) (by kernel_rfl) (fun _ _ _ h => h) (by kernel_rfl) ?_ (by assumption) ?_; rotate_left 1; focus (intro w hSw; (try dsimp only at hSw); (first | (go_simp; done) | (go_simp; with_reducible rfl))); (try simp only [Act.put, List.setIfInBounds_toArray, List.set_cons_zero, List.set_cons_succ]))
          (refine rg_y (i := 8) (some 25) (v := ?_) rfl rfl (by kernel_rfl) (by kernel_rfl) (by kernel_rfl) (fun _ _ _ h => h) (by kernel_rfl) ?_ (by assumption) ?_; rotate_left 1; focus (intro w hSw; (try dsimp only at hSw); (first | (go_simp; done) | (go_simp; with_reducible rfl))); (try simp only [Act.put, List.setIfInBounds_toArray, List.set_cons_zero, List.set_cons_succ]))
          (refine rg_y (i := 9) (some 26) (v := ?_) rfl rfl (by kernel_rfl) (by kernel_rfl) (by kernel_rfl) (fun _ _ _ h => h) (by kernel_rfl) ?_ (by assumption) ?_; rotate_left 1; focus (intro w hSw; (try dsimp only at hSw); (first | (go_simp; done) | (go_simp; with_reducible rfl))); (try simp only [Act.put, List.setIfInBounds_toArray, List.set_cons_zero, List.set_cons_succ]))
          (refine rg_y (i := 10) (some 27) (v := ?_) rfl rfl (by kernel_rfl) (by kernel_rfl) (by kernel_rfl) (fun _ _ _ h => h) (by kernel_rfl) ?_ (by assumption) ?_; rotate_left 1; focus (intro w hSw; (try dsimp only at hSw); (first | (go_simp; done) | (go_simp; with_reducible rfl))); (try simp only [Act.put, List.setIfInBounds_toArray, List.set_cons_zero, List.set_cons_succ]))
          (refine wpAnyH_ready (rs := [11]) (by kernel_rfl) (by simp) ?_; refine AllReadyH.cons (o := _) rfl (fun K hK => ?_) AllReadyH.nil)
          go_simp
          (go_at_call 33; (with_reducible refine (HM.out _ hHeld.2.2.2.2).mono ?_); rintro _ w2 ⟨rfl, hb⟩)
          go_wp2_with fail
          refine hK.out _ _ (keepB hb hHeld (by simp [vals_size])) (fun hHeld => ?_)
          clear hb
          (clear hK K; (try simp only [Act.put, List.setIfInBounds_toArray, List.set_cons_zero, List.set_cons_succ]))
          (refine rg_y (i := 12) (some 29) (v := ?_) rfl rfl (by kernel_rfl) (by kernel_rfl) (by kernel_rfl) (fun _ _ _ h => h) (by kernel_rfl) ?_ (by assumption) ?_; rotate_left 1; focus (intro w hSw; (try dsimp only at hSw); (first | (go_simp; done) | (go_simp; with_reducible rfl))); (try simp only [Act.put, List.setIfInBounds_toArray, List.set_cons_zero, List.set_cons_succ]))
          (refine rg_y (i := 13) (some 30) (v := ?_) rfl rfl (by kernel_rfl) (by kernel_rfl) (by kernel_rfl) (fun _ _ _ h => h) (by kernel_rfl) ?_ (by assumption) ?_; rotate_left 1; focus (intro w hSw; (try dsimp only at hSw); (first | (go_simp; done) | (go_simp; with_reducible rfl))); (try simp only [Act.put, List.setIfInBounds_toArray, List.set_cons_zero, List.set_cons_succ]))
          (refine rg_y (i := 14) (some 31) (v := ?_) rfl rfl (by kernel_rfl) (by kernel_rfl) (by kernel_rfl) (fun _ _ _ h => h) (by kernel_rfl) ?_ (by assumption) ?_; rotate_left 1; focus (intro w hSw; (try dsimp only at hSw); (first | (go_simp; done) | (go_simp; with_reducible rfl))); (try simp only [Act.put, List.setIfInBounds_toArray, List.set_cons_zero, List.set_cons_succ]))
          (refine rg_y (i := 15) (some 32) (v := ?_) rfl rfl (by kernel_rfl) (by kernel_rfl) (by kernel_rfl) (fun _ _ _ h => h) (by kernel_rfl) ?_ (by assumption) ?_; rotate_left 1; focus (intro w hSw; (try dsimp only at hSw); (first | (go_simp; done) | (go_simp; with_reducible rfl))); (try simp only [Act.put, List.setIfInBounds_toArray, List.set_cons_zero, List.set_cons_succ]))
          (refine rg_y (i := 16) (some 33) (v := ?_) rfl rfl (by kernel_rfl) (by kernel_rfl) (by kernel_rfl) (fun _ _ _ h => h) (by kernel_rfl) ?_ (by assumption) ?_; rotate_left 1; focus (intro w hSw; (try dsimp only at hSw); (first | (go_simp; done) | (go_simp; with_reducible rfl))); (try simp only [Act.put, List.setIfInBounds_toArray, List.set_cons_zero, List.set_cons_succ]))
          (refine rg_y (i := 17) (some 34) (v := ?_) rfl rfl (by kernel_rfl) (by kernel_rfl) (by kernel_rfl) (fun _ _ _ h => h) (by kernel_rfl) ?_ (by assumption) ?_; rotate_left 1; focus (intro w hSw; (try dsimp only at hSw); (first | (go_simp; done) | (go_simp; with_reducible rfl))); (try simp only [Act.put, List.setIfInBounds_toArray, List.set_cons_zero, List.set_cons_succ]))
          (refine rg_y (i := 18) (some 35) (v := ?_) rfl rfl (by kernel_rfl) (by kernel_rfl) (by kernel_rfl) (fun _ _ _ h => h) (by kernel_rfl) ?_ (by assumption) ?_; rotate_left 1; focus (intro w hSw; (try dsimp only at hSw); (first | (go_simp; done) | (go_simp; with_reducible rfl))); (try simp only [Act.put, List.setIfInBounds_toArray, List.set_cons_zero, List.set_cons_succ]))
          (refine rg_y (i := 19) (some 36) (v := ?_) rfl rfl (by kernel_rfl) (by kernel_rfl) (by kernel_rfl) (fun _ _ _ h => h) (by kernel_rfl) ?_ (by assumption) ?_; rotate_left 1; focus (intro w hSw; (try dsimp only at hSw); (first | (go_simp; done) | (go_simp; with_reducible rfl))); (try simp only [Act.put, List.setIfInBounds_toArray, List.set_cons_zero, List.set_cons_succ]))
          (refine rg_y (i := 20) (some 37) (v := ?_) rfl rfl (by kernel_rfl) (by kernel_rfl) (by kernel_rfl) (fun _ _ _ h => h) (by kernel_rfl) ?_ (by assumption) ?_; rotate_left 1; focus (intro w hSw; (try dsimp only at hSw); (first | (go_simp; done) | (go_simp; with_reducible rfl))); (try simp only [Act.put, List.setIfInBounds_toArray, List.set_cons_zero, List.set_cons_succ]))
          (refine rg_y (i := 21) (some 38) (v := ?_) rfl rfl (by kernel_rfl) (by kernel_rfl) (by kernel_rfl) (fun _ _ _ h => h) (by kernel_rfl) ?_ (by assumption) ?_; rotate_left 1; focus (intro w hSw; (try dsimp only at hSw); (first | (go_simp; done) | (go_simp; with_reducible rfl))); (try simp only [Act.put, List.setIfInBounds_toArray, List.set_cons_zero, List.set_cons_succ]))
          (refine rg_y (i := 22) (some 39) (v := ?_) rfl rfl (by kernel_rfl) (by kernel_rfl) (by kernel_rfl) (fun _ _ _ h => h) (by kernel_rfl) ?_ (by assumption) ?_; rotate_left 1; focus (intro w hSw; (try dsimp only at hSw); (first | (go_simp; done) | (go_simp; with_reducible rfl))); (try simp only [Act.put, List.setIfInBounds_toArray, List.set_cons_zero, List.set_cons_succ]))
          (refine rg_y (i := 23) (some 40) (v := ?_) rfl rfl (by kernel_rfl) (by kernel_rfl) (by kernel_rfl) (fun _ _ _ h => h) (by kernel_rfl) ?_ (by assumption) ?_; rotate_left 1; focus (intro w hSw; (try dsimp only at hSw); (first | (go_simp; done) | (go_simp; with_reducible rfl))); (try simp only [Act.put, List.setIfInBounds_toArray, List.set_cons_zero, List.set_cons_succ]))
          (refine wpAnyH_ready (rs := [24]) (by kernel_rfl) (by simp) ?_; refine AllReadyH.cons (o := _) rfl (fun K hK => ?_) AllReadyH.nil)
          go_simp
          (go_at_call 41; (with_reducible refine (HO.out _ hHeld.2.2.2.2).mono ?_); rintro _ w2 ⟨rfl, hb⟩)
          go_wp2_with fail
          refine hK.out _ _ (keepB hb hHeld (by simp [vals_size])) (fun hHeld => ?_)
          clear hb
          (clear hK K; (try simp only [Act.put, List.setIfInBounds_toArray, List.set_cons_zero, List.set_cons_succ]))
          (refine rg_y (i := 25) (some 42) (v := ?_) rfl rfl (by kernel_rfl) (by kernel_rfl) (by kernel_rfl) (fun _ _ _ h => h) (by kernel_rfl) ?_ (by assumption) ?_; rotate_left 1; focus (intro w hSw; (try dsimp only at hSw); (first | (go_simp; done) | (go_simp; with_reducible rfl))); (try simp only [Act.put, List.setIfInBounds_toArray, List.set_cons_zero, List.set_cons_succ]))
          (refine rg_y (i := 26) (some 43) (v := ?_) rfl rfl (by kernel_rfl) (by kernel_rfl) (by kernel_rfl) (fun _ _ _ h => h) (by kernel_rfl) ?_ (by assumption) ?_; rotate_left 1; focus (intro w hSw; (try dsimp only at hSw); (first | (go_simp; done) | (go_simp; with_reducible rfl))); (try simp only [Act.put, List.setIfInBounds_toArray, List.set_cons_zero, List.set_cons_succ]))
          (refine rg_y (i := 27) (some 44) (v := ?_) rfl rfl (by kernel_rfl) (by kernel_rfl) (by kernel_rfl) (fun _ _ _ h => h) (by kernel_rfl) ?_ (by assumption) ?_; rotate_left 1; focus (intro w hSw; (try dsimp only at hSw); (first | (go_simp; done) | (go_simp; with_reducible rfl))); (try simp only [Act.put, List.setIfInBounds_toArray, List.set_cons_zero, List.set_cons_succ]))
          refine wpAnyH_done (by kernel_rfl) ?_ _
          go_wp2_with fail
          go_roundw
          case rel => exact ⟨k + 1, k, by omega, by go_num, rfl, BI2.take (by rw [HH.out]; rfl) HAH.out, HBW.out.after hHeld.2.2.2.2⟩
          case measure => simp [intOf]; omega
        · have q5 : decide (od < 0) = false := decide_eq_false hod
          rw [q5] at hah
          have HAH := Lib.hid hah
          clear hah
          go_upto_region 5 with fail
          refine wp_region_held_drew (S := fun w' => row w' wr.heap.size = (F k).e.vals (.slice a1 (F k).n1 c1) (.slice a2 (F k).n2 c2) ∧ w'.cell? ⟨wr.heap.size, 0, none⟩ = some (.int .i64 (F k).e.kind) ∧ w'.cell? ⟨wr.heap.size, 1, none⟩ = some (.string (F k).e.name) ∧ w'.cell? ⟨b, o + i * 33 + 1, none⟩ = some (.string (F i).e.name) ∧ Below (wr.alloc (.cells ((F k).e.vals (.slice a1 (F k).n1 c1) (.slice a2 (F k).n2 c2)) 27)).heap.size (wr.alloc (.cells ((F k).e.vals (.slice a1 (F k).n1 c1) (.slice a2 (F k).n2 c2)) 27)) w') (by kernel_rfl) ?_ (fun hHeld => ?_)
          · exact ⟨R0, N0, N1, N2, Below.drew (Below.refl _ _)⟩
          (refine rg_y (i := 0) (some 17) (v := ?_) rfl rfl (by kernel_rfl) (by kernel_rfl) (by kernel_rfl) (fun _ _ _ h => h) (by kernel_rfl) ?_ (by assumption) ?_; rotate_left 1; focus (intro w hSw; (try dsimp only at hSw); (first | (go_simp; done) | (go_simp; with_reducible rfl))); (try simp only [Act.put, List.setIfInBounds_toArray, List.set_cons_zero, List.set_cons_succ]))
          (refine rg_y (i := 1) (some 18) (v := ?_) rfl rfl (by kernel_rfl) (by kernel_rfl) (by kernel_rfl) (fun _ _ _ h => h) (by kernel_rfl) ?_ (by assumption) ?_; rotate_left 1; focus (intro w hSw; (try dsimp only at hSw); (first | (go_simp; done) | (go_simp; with_reducible rfl))); (try simp only [Act.put, List.setIfInBounds_toArray, List.set_cons_zero, List.set_cons_succ]))
          (refine rg_y (i := 2) (some 19) (v := ?_) rfl rfl (by kernel_rfl) (by kernel_rfl) (by kernel_rfl) (fun _ _ _ h => h) (by kernel_rfl) ?_ (by assumption) ?_; rotate_left 1; focus (intro w hSw; (try dsimp only at hSw); (first | (go_simp; done) | (go_simp; with_reducible rfl))); (try simp only [Act.put, List.setIfInBounds_toArray, List.set_cons_zero, List.set_cons_succ]))
          (refine rg_y (i := 3) (some 20) (v := ?_) rfl rfl (by kernel_rfl) (by kernel_rfl) (by kernel_rfl) (fun _ _ _ h => h) (by kernel_rfl) ?_ (by assumption) ?_; rotate_left 1; focus (intro w hSw; (try dsimp only at hSw); (first | (go_simp; done) | (go_simp; with_reducible rfl))); (try simp only [Act.put, List.setIfInBounds_toArray, List.set_cons_zero, List.set_cons_succ]))
          refine rg_y (i := 4) (some 21) (v := .agg ((F k).e.vals (.slice a1 (F k).n1 c1) (.slice a2 (F k).n2 c2))) rfl rfl (by kernel_rfl) (by kernel_rfl) (by kernel_rfl) (fun _ _ _ h => h) (by kernel_rfl) (fun w hSw => ?_) (by assumption) ?_
          · refine (ldEnt _ w _ _ _ _ _ _ rfl (by show (row w wr.heap.size).size = 33; rw [hSw.1]; exact vals_size _ _ _)).trans ?_
            show Result.ok (Next.value (.agg (row w wr.heap.size))) w = _
            rw [hSw.1]
          (try simp only [Act.put, List.setIfInBounds_toArray, List.set_cons_zero, List.set_cons_succ])
          (refine wpAnyH_ready (rs := [5]) (by kernel_rfl) (by simp) ?_; refine AllReadyH.cons (o := _) rfl (fun K hK => ?_) AllReadyH.nil)
          go_simp
          (go_at_call 17; (with_reducible refine (HV.out _ hHeld.2.2.2.2).mono ?_); rintro _ w2 ⟨rfl, hb⟩)
          go_wp2_with fail
          refine hK.out _ _ (keepB hb hHeld (by simp [vals_size])) (fun hHeld => ?_)
          clear hb
          (clear hK K; (try simp only [Act.put, List.setIfInBounds_toArray, List.set_cons_zero, List.set_cons_succ]))
          (refine rg_y (i := 6) (some 23) (v := ?_) rfl rfl (by kernel_rfl) (by kernel_rfl) (by kernel_rfl) (fun _ _ _ h => h) (by kernel_rfl) ?_ (by assumption) ?_; rotate_left 1; focus (intro w hSw; (try dsimp only at hSw); (first | (go_simp; done) | (go_simp; with_reducible rfl))); (try simp only [Act.put, List.setIfInBounds_toArray, List.set_cons_zero, List.set_cons_succ]))
          (refine rg_y (i := 7) (some 24) (v := ?_) rfl rfl (by kernel_rfl) (by kernel_rfl) (by kernel_rfl) (fun _ _ _ h => h) (by kernel_rfl) ?_ (by assumption) ?_; rotate_left 1; focus (intro w hSw; (try dsimp only at hSw); (first | (go_simp; done) | (go_simp; with_reducible rfl))); (try simp only [Act.put, List.setIfInBounds_toArray, List.set_cons_zero, List.set_cons_succ]))
          (refine rg_y (i := 8) (some 25) (v := ?_) rfl rfl (by kernel_rfl) (by kernel_rfl) (by kernel_rfl) (fun _ _ _ h => h) (by kernel_rfl) ?_ (by assumption) ?_; rotate_left 1; focus (intro w hSw; (try dsimp only at hSw); (first | (go_simp; done) | (go_simp; with_reducible rfl))); (try simp only [Act.put, List.setIfInBounds_toArray, List.set_cons_zero, List.set_cons_succ]))
          (refine rg_y (i := 9) (some 26) (v := ?_) rfl rfl (by kernel_rfl) (by kernel_rfl) (by kernel_rfl) (fun _ _ _ h => h) (by kernel_rfl) ?_ (by assumption) ?_; rotate_left 1; focus (intro w hSw; (try dsimp only at hSw); (first | (go_simp; done) | (go_simp; with_reducible rfl))); (try simp only [Act.put, List.setIfInBounds_toArray, List.set_cons_zero, List.set_cons_succ]))
          (refine rg_y (i := 10) (some 27) (v := ?_) rfl rfl (by kernel_rfl) (by kernel_rfl) (by kernel_rfl) (fun _ _ _ h => h) (by kernel_rfl) ?_ (by assumption) ?_; rotate_left 1; focus (intro w hSw; (try dsimp only at hSw); (first | (go_simp; done) | (go_simp; with_reducible rfl))); (try simp only [Act.put, List.setIfInBounds_toArray, List.set_cons_zero, List.set_cons_succ]))
          (refine wpAnyH_ready (rs := [11]) (by kernel_rfl) (by simp) ?_; refine AllReadyH.cons (o := _) rfl (fun K hK => ?_) AllReadyH.nil)
          go_simp
          (go_at_call 33; (with_reducible refine (HM.out _ hHeld.2.2.2.2).mono ?_); rintro _ w2 ⟨rfl, hb⟩)
          go_wp2_with fail
          refine hK.out _ _ (keepB hb hHeld (by simp [vals_size])) (fun hHeld => ?_)
          clear hb
          (clear hK K; (try simp only [Act.put, List.setIfInBounds_toArray, List.set_cons_zero, List.set_cons_succ]))
          (refine rg_y (i := 12) (some 29) (v := ?_) rfl rfl (by kernel_rfl) (by kernel_rfl) (by kernel_rfl) (fun _ _ _ h => h) (by kernel_rfl) ?_ (by assumption) ?_; rotate_left 1; focus (intro w hSw; (try dsimp only at hSw); (first | (go_simp; done) | (go_simp; with_reducible rfl))); (try simp only [Act.put, List.setIfInBounds_toArray, List.set_cons_zero, List.set_cons_succ]))
          (refine rg_y (i := 13) (some 30) (v := ?_) rfl rfl (by kernel_rfl) (by kernel_rfl) (by kernel_rfl) (fun _ _ _ h => h) (by kernel_rfl) ?_ (by assumption) ?_; rotate_left 1; focus (intro w hSw; (try dsimp only at hSw); (first | (go_simp; done) | (go_simp; with_reducible rfl))); (try simp only [Act.put, List.setIfInBounds_toArray, List.set_cons_zero, List.set_cons_succ]))
          (refine rg_y (i := 14) (some 31) (v := ?_) rfl rfl (by kernel_rfl) (by kernel_rfl) (by kernel_rfl) (fun _ _ _ h => h) (by kernel_rfl) ?_ (by assumption) ?_; rotate_left 1; focus (intro w hSw; (try dsimp only at hSw); (first | (go_simp; done) | (go_simp; with_reducible rfl))); (try simp only [Act.put, List.setIfInBounds_toArray, List.set_cons_zero, List.set_cons_succ]))
          (refine rg_y (i := 15) (some 32) (v := ?_) rfl rfl (by kernel_rfl) (by kernel_rfl) (by kernel_rfl) (fun _ _ _ h => h) (by kernel_rfl) ?_ (by assumption) ?_; rotate_left 1; focus (intro w hSw; (try dsimp only at hSw); (first | (go_simp; done) | (go_simp; with_reducible rfl))); (try simp only [Act.put, List.setIfInBounds_toArray, List.set_cons_zero, List.set_cons_succ]))
          (refine rg_y (i := 16) (some 33) (v := ?_) rfl rfl (by kernel_rfl) (by kernel_rfl) (by kernel_rfl) (fun _ _ _ h => h) (by kernel_rfl) ?_ (by assumption) ?_; rotate_left 1; focus (intro w hSw; (try dsimp only at hSw); (first | (go_simp; done) | (go_simp; with_reducible rfl))); (try simp only [Act.put, List.setIfInBounds_toArray, List.set_cons_zero, List.set_cons_succ]))
          (refine rg_y (i := 17) (some 34) (v := ?_) rfl rfl (by kernel_rfl) (by kernel_rfl) (by kernel_rfl) (fun _ _ _ h => h) (by kernel_rfl) ?_ (by assumption) ?_; rotate_left 1; focus (intro w hSw; (try dsimp only at hSw); (first | (go_simp; done) | (go_simp; with_reducible rfl))); (try simp only [Act.put, List.setIfInBounds_toArray, List.set_cons_zero, List.set_cons_succ]))
          (refine rg_y (i := 18) (some 35) (v := ?_) rfl rfl (by kernel_rfl) (by kernel_rfl) (by kernel_rfl) (fun _ _ _ h => h) (by kernel_rfl) ?_ (by assumption) ?_; rotate_left 1; focus (intro w hSw; (try dsimp only at hSw); (first | (go_simp; done) | (go_simp; with_reducible rfl))); (try simp only [Act.put, List.setIfInBounds_toArray, List.set_cons_zero, List.set_cons_succ]))
          (refine rg_y (i := 19) (some 36) (v := ?_) rfl rfl (by kernel_rfl) (by kernel_rfl) (by kernel_rfl) (fun _ _ _ h => h) (by kernel_rfl) ?_ (by assumption) ?_; rotate_left 1; focus (intro w hSw; (try dsimp only at hSw); (first | (go_simp; done) | (go_simp; with_reducible rfl))); (try simp only [Act.put, List.setIfInBounds_toArray, List.set_cons_zero, List.set_cons_succ]))
          (refine rg_y (i := 20) (some 37) (v := ?_) rfl rfl (by kernel_rfl) (by kernel_rfl) (by kernel_rfl) (fun _ _ _ h => h) (by kernel_rfl) ?_ (by assumption) ?_; rotate_left 1; focus (intro w hSw; (try dsimp only at hSw); (first | (go_simp; done) | (go_simp; with_reducible rfl))); (try simp only [Act.put, List.setIfInBounds_toArray, List.set_cons_zero, List.set_cons_succ]))
          (refine rg_y (i := 21) (some 38) (v := ?_) rfl rfl (by kernel_rfl) (by kernel_rfl) (by kernel_rfl) (fun _ _ _ h => h) (by kernel_rfl) ?_ (by assumption) ?_; rotate_left 1; focus (intro w hSw; (try dsimp only at hSw); (first | (go_simp; done) | (go_simp; with_reducible rfl))); (try simp only [Act.put, List.setIfInBounds_toArray, List.set_cons_zero, List.set_cons_succ]))
          (refine rg_y (i := 22) (some 39) (v := ?_) rfl rfl (by kernel_rfl) (by kernel_rfl) (by kernel_rfl) (fun _ _ _ h => h) (by kernel_rfl) ?_ (by assumption) ?_; rotate_left 1; focus (intro w hSw; (try dsimp only at hSw); (first | (go_simp; done) | (go_simp; with_reducible rfl))); (try simp only [Act.put, List.setIfInBounds_toArray, List.set_cons_zero, List.set_cons_succ]))
          (refine rg_y (i := 23) (some 40) (v := ?_) rfl rfl (by kernel_rfl) (by kernel_rfl) (by kernel_rfl) (fun _ _ _ h => h) (by kernel_rfl) ?_ (by assumption) ?_; rotate_left 1; focus (intro w hSw; (try dsimp only at hSw); (first | (go_simp; done) | (go_simp; with_reducible rfl))); (try simp only [Act.put, List.setIfInBounds_toArray, List.set_cons_zero, List.set_cons_succ]))
          (refine wpAnyH_ready (rs := [24]) (by kernel_rfl) (by simp) ?_; refine AllReadyH.cons (o := _) rfl (fun K hK => ?_) AllReadyH.nil)
          go_simp
          (go_at_call 41; (with_reducible refine (HO.out _ hHeld.2.2.2.2).mono ?_); rintro _ w2 ⟨rfl, hb⟩)
          go_wp2_with fail
          refine hK.out _ _ (keepB hb hHeld (by simp [vals_size])) (fun hHeld => ?_)
          clear hb
          (clear hK K; (try simp only [Act.put, List.setIfInBounds_toArray, List.set_cons_zero, List.set_cons_succ]))
          (refine rg_y (i := 25) (some 42) (v := ?_) rfl rfl (by kernel_rfl) (by kernel_rfl) (by kernel_rfl) (fun _ _ _ h => h) (by kernel_rfl) ?_ (by assumption) ?_; rotate_left 1; focus (intro w hSw; (try dsimp only at hSw); (first | (go_simp; done) | (go_simp; with_reducible rfl))); (try simp only [Act.put, List.setIfInBounds_toArray, List.set_cons_zero, List.set_cons_succ]))
          (refine rg_y (i := 26) (some 43) (v := ?_) rfl rfl (by kernel_rfl) (by kernel_rfl) (by kernel_rfl) (fun _ _ _ h => h) (by kernel_rfl) ?_ (by assumption) ?_; rotate_left 1; focus (intro w hSw; (try dsimp only at hSw); (first | (go_simp; done) | (go_simp; with_reducible rfl))); (try simp only [Act.put, List.setIfInBounds_toArray, List.set_cons_zero, List.set_cons_succ]))
          (refine rg_y (i := 27) (some 44) (v := ?_) rfl rfl (by kernel_rfl) (by kernel_rfl) (by kernel_rfl) (fun _ _ _ h => h) (by kernel_rfl) ?_ (by assumption) ?_; rotate_left 1; focus (intro w hSw; (try dsimp only at hSw); (first | (go_simp; done) | (go_simp; with_reducible rfl))); (try simp only [Act.put, List.setIfInBounds_toArray, List.set_cons_zero, List.set_cons_succ]))
          refine wpAnyH_done (by kernel_rfl) ?_ _
          go_wp2_with fail
          go_roundw
          case rel => exact ⟨k + 1, i, by omega, by go_num, rfl, HJ.out.keep (Or.inr HAH.out), HBW.out.after hHeld.2.2.2.2⟩
          case measure => simp [intOf]; omega
    · obtain rfl : k = n := by omega
      rcases HJ.out with ⟨hno, rfl⟩ | ⟨i, rfl, hik, hso⟩
      · have H33 := held_of HBW.out.1 (show zE.size = 33 from rfl) (by decide)
        go_wp2_with fail
        refine bodyPost_ret (res_row_tmp (n := 32) rfl Tryz.underlying27 rfl (by kernel_rfl) _ _ w.heap.size rfl (by rw [row_setRow H33]; rfl)) rfl ?_
        rw [row_setRow H33]
        exact ⟨Or.inl ⟨hno, rfl⟩, below_setRow HBW.out.2 (Nat.le_refl _) _⟩
      · obtain ⟨b, o, rfl, hb, a1, c1, a2, c2, hmid, -, -, hgs⟩ := (HES.out.below HBW.out.2).2 i hik
        obtain ⟨-, hg⟩ := hgs (HF.out i hik).2
        have hz : (mid wr b (o + i * 33)).size = 33 := by rw [hmid]; exact vals_size _ _ _
        have hone := vals_one (F i).e (.slice a1 (F i).n1 c1) (.slice a2 (F i).n2 c2) rfl rfl
        have i1 : (0 : Int) ≤ (i : Int) := by omega
        have i2 : (i : Int) < (k : Int) := by omega
        have i3 : ¬ ((i : Int) < 0) := by omega
        have HG := Lib.hid hg
        have HSO := Lib.hid hso
        clear hg hgs hso
        have hone2 := fun v (h : one v = true) => vals_one (F i).e (.slice a1 (F i).n1 c1) v rfl h
        go_wp2_with (go_at_call 114; (refine (gr_clone _ _ _ (HG.out.below ((Below.refl _ _).alloc (Nat.le_refl _) _))).mono ?_); rintro _ w2 ⟨v', rfl, hgs, hown, hb2⟩; obtain ⟨a', c', rfl, -⟩ := id hgs; obtain ⟨R3, H3, C3, Z3, B3, K3⟩ := best_end (.slice a' (F i).gs.length c') HBW.out hb2; have O3 := hone2 _ (gs_one hgs); have HK3 := Lib.hid K3; have HB3 := Lib.hid B3; have HGS := Lib.hid hgs; have HOW := Lib.hid hown; clear hb2 K3 B3 hgs hown)
        refine bodyPost_ret (res_row_tmp (n := 32) rfl Tryz.underlying27 rfl (by kernel_rfl) _ _ w.heap.size rfl ((congrArg Array.size (row_setRow H3 _)).trans (vals_size (F i).e (.slice a1 (F i).n1 c1) _))) rfl ?_
        rw [row_setRow H3]
        exact ⟨Or.inr ⟨F i, a1, c1, _, HSO.out, rfl, HGS.out.keep _ HOW.out (by simp) (fun q h1 h2 => HK3.out _ q h1 h2)⟩, HB3.out _⟩
end Go.Proofs.YtfmjeppajpiekaaGreatDoor

end
section
/- Contracts of package access: the rules of Level. -/
namespace Go.Proofs.YtfmjeppajpiekaaGreatDoor
open Go.RowKit
set_option maxHeartbeats 4000000
set_option maxRecDepth 8000
attribute [local go_sem ↓] ldEnt
attribute [local go_sem] Held_drew isHead_mk headOf_mk cellsOfV_mk isAggV_mk row_drew row_drewN vals_size vals_0 vals_1 vals_28 vals_31 vals_32
theorem first_eq (l : List UInt8) (u : ByteArray) : (l == u.toList) = decide (l = Ds.bl u) := by
  rw [show u.toList = Ds.bl u from Lib.toList_data u, Bool.eq_iff_iff, beq_iff_eq, decide_eq_true_eq]
theorem emp_of (u : ByteArray) (h : u.size = 0) : u = ⟨#[]⟩ := Ds.bl_inj (List.eq_nil_of_length_eq_zero (by rw [Ds.bl_length]; exact h))
theorem ac_l1 (name u : ByteArray) (pn pu : Nat) (w : World) (hm : MaxL w) (h1 : w.cell? ⟨pn, 0, none⟩ = some (.string name)) (h2 : w.cell? ⟨pu, 0, none⟩ = some (.string u)) :
    Calls Tryz.prog 97 #[.pointer (some ⟨pn, 0, none⟩), .pointer (some ⟨pu, 0, none⟩)] w fun r w' => r = .returned (.tuple #[.int .i64 3, .bool (decide (Ds.first 1 (Ds.bl name) = Ds.bl u))]) ∧ Below w.heap.size w w' := by
  have hf := fun W (b : Below w.heap.size w W) => ds_first 1 name W (hm.below b)
  have D := Lib.hid (first_eq (Ds.first 1 (Ds.bl name)) u)
  have HF := Lib.hid hf
  clear hf
  go_enter Tryz.func97, Tryz.ntmps97
  go_wp2_with fail
  go_region_held3 (fun w' => w'.cell? ⟨pn, 0, none⟩ = some (.string name) ∧ w'.cell? ⟨pu, 0, none⟩ = some (.string u) ∧ Below w.heap.size w w') (first | assumption | exact ⟨h1, h2, Below.drew (Below.refl _ _)⟩ | exact ⟨below_cell hb (by assumption : _ ∧ _ ∧ Below _ _ _).1, below_cell hb (by assumption : _ ∧ _ ∧ Below _ _ _).2.1, bt (by assumption : _ ∧ _ ∧ Below _ _ _).2.2 hb⟩) (first | (go_at_call 43; (with_reducible refine (HF.out _ (by assumption : _ ∧ _ ∧ Below _ _ _).2.2).mono ?_); rintro _ w2 ⟨rfl, hb⟩))
  all_goals
    go_wp2_with fail
    go_ret2
    exact ⟨by rw [D.out]; rfl, (by assumption : _ ∧ _ ∧ Below _ _ _).2.2⟩
theorem ac_l2 (ok : Bool) (po : Nat) (w : World) (h1 : w.cell? ⟨po, 0, none⟩ = some (.bool ok)) :
    Calls Tryz.prog 98 #[.pointer (some ⟨po, 0, none⟩)] w fun r w' => r = .returned (.tuple #[.int .i64 0, .bool (!ok)]) ∧ Below w.heap.size w w' := by
  go_enter Tryz.func98, Tryz.ntmps98
  go_wp2_with fail
  go_quiet (fail)
  go_wp2_with fail
  go_ret2
  exact ⟨rfl, below_drewN (Below.refl _ _) _⟩
theorem ac_l3 (e : En) (al gr : Value) (u : ByteArray) (pp pu : Nat) (w : World) (h1 : w.cell? ⟨pu, 0, none⟩ = some (.string u)) (h2 : row w pp = e.vals al gr) :
    Calls Tryz.prog 99 #[.pointer (some ⟨pu, 0, none⟩), .pointer (some ⟨pp, 0, none⟩)] w fun r w' => r = .returned (.tuple #[.int .i64 3, .bool (decide (u ≠ ⟨#[]⟩) && decide (e.owner = u))]) ∧ Below w.heap.size w w' := by
  have c8 := cell_row h2 28 _ (vals_28 e al gr)
  clear h2
  by_cases h0 : u.size = 0
  · have e0 : u.toList.isEmpty = true := isEmpty_nil _ h0
    have E : Hid (decide (u ≠ ⟨#[]⟩) = false) := Lib.hid (decide_eq_false (fun h => h (emp_of u h0)))
    clear h0
    go_enter Tryz.func99, Tryz.ntmps99
    go_wp2_with fail
    go_quiet (fail)
    go_wp2_with fail
    go_ret2
    exact ⟨by rw [E.out]; rfl, below_drewN (Below.refl _ _) _⟩
  · have e0 : u.toList.isEmpty = false := isEmpty_of _ (by omega)
    have D := Lib.hid (tl_beq e.owner u)
    have E : Hid (decide (u ≠ ⟨#[]⟩) = true) := Lib.hid (decide_eq_true (fun h => h0 (by rw [h]; rfl)))
    clear h0
    go_enter Tryz.func99, Tryz.ntmps99
    go_wp2_with fail
    go_quiet (fail)
    go_wp2_with fail
    go_ret2
    exact ⟨by rw [E.out, Bool.true_and, ← D.out]; rfl, below_drewN (Below.refl _ _) _⟩
theorem ent_l4 : EntF 102 := enters_of Tryz.func102 (by kernel_rfl) rfl
theorem ent_l5 : EntF 104 := enters_of Tryz.func104 (by kernel_rfl) rfl
theorem ac_l4 (e : En) (al gr : Value) (gs : List Gr) (u : ByteArray) (pp pu : Nat) (w : World) (h1 : w.cell? ⟨pu, 0, none⟩ = some (.string u)) (h2 : row w pp = e.vals al gr) (hg : GS w gr gs) :
    Calls Tryz.prog 100 #[.pointer (some ⟨pp, 0, none⟩), .pointer (some ⟨pu, 0, none⟩)] w fun r w' => r = .returned (.tuple #[.int .i64 (gmax (isU u) gs 0), .bool (gs.any (isU u))]) ∧ Below w.heap.size w w' := by
  have hc := ac_granted e al gr gs 102 (.pointer (some ⟨pu, 0, none⟩)) (isU u) w ent_l4 hg (fun g W b => ac_isU g u pu W (below_cell b h1))
  have HC := Lib.hid hc
  have hz : (row w pp).size = 33 := by rw [h2]; exact vals_size _ _ _
  clear hc h1 hg
  go_enter Tryz.func100, Tryz.ntmps100
  go_wp2_with (go_at_call 101; (with_reducible refine (HC.out).mono ?_); rintro _ w2 ⟨rfl, hb⟩)
  go_ret2
  exact ⟨rfl, hb⟩
theorem ac_l5 (e : En) (al gr gv : Value) (gs : List Gr) (l : List ByteArray) (pp pg : Nat) (w : World) (h1 : w.cell? ⟨pg, 0, none⟩ = some gv) (hl : SS w gv l) (h2 : row w pp = e.vals al gr) (hg : GS w gr gs) :
    Calls Tryz.prog 103 #[.pointer (some ⟨pp, 0, none⟩), .pointer (some ⟨pg, 0, none⟩)] w fun r w' => r = .returned (.tuple #[.int .i64 (gmax (isG l) gs 0), .bool (gs.any (isG l))]) ∧ Below w.heap.size w w' := by
  have hc := ac_granted e al gr gs 104 (.pointer (some ⟨pg, 0, none⟩)) (isG l) w ent_l5 hg (fun g W b => ac_isG g gv l pg W (below_cell b h1) (hl.below b))
  have HC := Lib.hid hc
  have hz : (row w pp).size = 33 := by rw [h2]; exact vals_size _ _ _
  clear hc h1 hg hl
  go_enter Tryz.func103, Tryz.ntmps103
  go_wp2_with (go_at_call 101; (with_reducible refine (HC.out).mono ?_); rintro _ w2 ⟨rfl, hb⟩)
  go_ret2
  exact ⟨rfl, hb⟩
end Go.Proofs.YtfmjeppajpiekaaGreatDoor

end
section
/- Contracts of package access: Level. -/
namespace Go.Proofs.YtfmjeppajpiekaaGreatDoor
open Go.RowKit
set_option maxHeartbeats 8000000
set_option maxRecDepth 8000
theorem setRow_new2 (w : World) (zs cs : Array Value) (t : TypeId) (o : Obj) : ((w.alloc (.cells zs t)).alloc o).setRow w.heap.size cs = (w.alloc (.cells cs t)).alloc o := by
  unfold World.setRow World.alloc
  congr 1
  apply Array.ext_getElem?
  intro i
  simp only [Array.getElem?_modify, Array.getElem?_push, Array.size_push]
  by_cases h : w.heap.size = i
  · subst h; simp
  · rw [if_neg h]
    by_cases h2 : i = w.heap.size + 1
    · rw [if_pos h2, if_pos h2]
    · rw [if_neg h2, if_neg h2, if_neg (fun e => h e.symm), if_neg (fun e => h e.symm)]
theorem stEnt2 (ev : Operand → Value) (w : World) (zs : Array Value) (t : TypeId) (o : Obj) (dst x y t' pos af gd) (h0 : zs.size = 33) (h1 : isHead (ev x) = true) (h2 : headOf (ev x) = w.heap.size) (h3 : isAggV (ev y) = true) (h4 : (cellsOfV (ev y)).size = 33) (h5 : allOne (cellsOfV (ev y)).toList = true) :
    (execOp ev ⟨dst, .store 27 x y, t', pos, af, gd⟩).run Tryz.prog ((w.alloc (.cells zs t)).alloc o) = .ok .skip ((w.alloc (.cells (cellsOfV (ev y)) t)).alloc o) := by
  have hH : Held ((w.alloc (.cells zs t)).alloc o) w.heap.size 33 := ⟨by rw [row_new2]; exact h0, by decide, fun q => by simp⟩
  rw [← setRow_new2 w zs (cellsOfV (ev y)) t o, ← h2]
  exact stEntRow ev _ dst x y t' pos af gd h1 (by rw [h2]; exact hH) h3 h4 h5
/-- the rules of Level, as values -/
def fns (a b : Nat) : Array Value := #[.func (.func 97) #[] #[.pointer (some ⟨a + 1 + 1, 0, none⟩), .pointer (some ⟨a, 0, none⟩)], .func (.func 98) #[] #[.pointer (some ⟨b + 1, 0, none⟩)], .func (.func 99) #[] #[.pointer (some ⟨a, 0, none⟩), .pointer (some ⟨b, 0, none⟩)], .func (.func 100) #[] #[.pointer (some ⟨b, 0, none⟩), .pointer (some ⟨a, 0, none⟩)], .func (.func 103) #[] #[.pointer (some ⟨b, 0, none⟩), .pointer (some ⟨a + 1, 0, none⟩)]]
def LV (w W : World) (g : Nat) (u name : ByteArray) (gv : Value) (cs : Array Value) (ok : Bool) : Prop :=
  (W.cell? ⟨w.heap.size, 0, none⟩ = some (.string u) ∧ W.cell? ⟨w.heap.size + 1, 0, none⟩ = some gv ∧ W.cell? ⟨w.heap.size + 1 + 1, 0, none⟩ = some (.string name)) ∧ (row W g = cs ∧ W.cell? ⟨g + 1, 0, none⟩ = some (.bool ok) ∧ row W (g + 1 + 1) = fns w.heap.size g) ∧ 0 < cs.size ∧ Below w.heap.size w W
theorem LV.below {w W W' : World} {g : Nat} {u name : ByteArray} {gv : Value} {cs : Array Value} {ok : Bool} (h : LV w W g u name gv cs ok) (hb : Below W.heap.size W W') : LV w W' g u name gv cs ok := by
  obtain ⟨⟨h1, h2, h3⟩, ⟨h4, h5, h6⟩, h0, h7⟩ := h
  exact ⟨⟨below_cell hb h1, below_cell hb h2, below_cell hb h3⟩, ⟨row_below hb h4 h0, below_cell hb h5, row_below hb h6 (by unfold fns; simp)⟩, h0, bt h7 hb⟩
theorem LV.mk {w w2 : World} {u name : ByteArray} {gv : Value} {cs : Array Value} {ok : Bool} (c1 : w2.cell? ⟨w.heap.size, 0, none⟩ = some (.string u)) (c2 : w2.cell? ⟨w.heap.size + 1, 0, none⟩ = some gv) (c3 : w2.cell? ⟨w.heap.size + 1 + 1, 0, none⟩ = some (.string name)) (h0 : 0 < cs.size) (hb : Below w.heap.size w w2) (t1 t2 t3 : TypeId) :
    LV w (((w2.alloc (.cells cs t1)).alloc (.cells #[.bool ok] t2)).alloc (.cells (fns w.heap.size w2.heap.size) t3)) w2.heap.size u name gv cs ok := by
  have hs := hb.size
  have b1 : Below w2.heap.size w2 (((w2.alloc (.cells cs t1)).alloc (.cells #[.bool ok] t2)).alloc (.cells (fns w.heap.size w2.heap.size) t3)) := by (repeat (first | exact Below.refl _ _ | assumption | (refine Below.drew ?_) | (refine Below.alloc ?_ (by first | (simp; done) | (simp; omega) | omega) _) | (refine Below.setCell ?_ (by first | (simp; done) | (simp; omega) | omega) _)))
  have s1 : (w2.alloc (.cells cs t1)).heap.size = w2.heap.size + 1 := by simp
  have s2 : ((w2.alloc (.cells cs t1)).alloc (.cells #[.bool ok] t2)).heap.size = w2.heap.size + 1 + 1 := by simp
  refine ⟨⟨below_cell b1 c1, below_cell b1 c2, below_cell b1 c3⟩, ⟨?_, ?_, ?_⟩, h0, bt hb b1⟩
  · exact row_of (t := t1) (fr := (0, 0)) ((heap_alloc_old _ _ (by simp; omega)).trans ((heap_alloc_old _ _ (by simp)).trans (heap_alloc_new w2 _)))
  · have h := heap_alloc_new (w2.alloc (.cells cs t1)) (.cells #[.bool ok] t2)
    rw [s1] at h
    have h' := (heap_alloc_old ((w2.alloc (.cells cs t1)).alloc (.cells #[.bool ok] t2)) (.cells (fns w.heap.size w2.heap.size) t3) (by rw [s2]; omega : w2.heap.size + 1 < _)).trans h
    exact (cell_of_row _ _ 0 _ _ _ h').trans rfl
  · have h := row_new ((w2.alloc (.cells cs t1)).alloc (.cells #[.bool ok] t2)) (fns w.heap.size w2.heap.size) t3 (0, 0)
    rw [s2] at h; exact h
attribute [local go_sem ↓] ldEnt stEnt stEnt2
attribute [local go_sem] isHead_mk headOf_mk cellsOfV_mk isAggV_mk row_new row_new2 row_new2' row_drew row_drewN vals_size allOne_nil allOne_cons one_int one_bool one_string one_pointer one_slice one_func
theorem ac_level_no (v gv : Value) (u name : ByteArray) (w : World) (hm : MaxL w) (hn : Ds.name (Ds.bl name) = false) :
    Calls Tryz.prog 32 #[v, .string u, gv, .string name] w fun r w' => r = .returned (.int .i64 0) ∧ Below w.heap.size w w' := by
  have hv := fun W (b : Below w.heap.size w W) => ds_valid name W (hm.below b)
  rw [hn] at hv
  have HV := Lib.hid hv
  clear hv hn
  go_enter Tryz.func32, Tryz.ntmps32
  go_wp2_with (go_at_call 42; (with_reducible refine (HV.out _ (by (repeat (first | exact Below.refl _ _ | assumption | (refine Below.drew ?_) | (refine Below.alloc ?_ (by first | (simp; done) | (simp; omega) | omega) _) | (refine Below.setCell ?_ (by first | (simp; done) | (simp; omega) | omega) _))))).mono ?_); rintro _ w2 ⟨rfl, hb⟩; have B := Below.trans (show Below w.heap.size w _ by (repeat (first | exact Below.refl _ _ | assumption | (refine Below.drew ?_) | (refine Below.alloc ?_ (by first | (simp; done) | (simp; omega) | omega) _) | (refine Below.setCell ?_ (by first | (simp; done) | (simp; omega) | omega) _)))) (hb.mono (by simp; omega)); clear hb)
  go_ret
  exact ⟨rfl, B⟩
theorem LV.facts {w W : World} {g : Nat} {u name : ByteArray} {gv : Value} {cs : Array Value} {ok : Bool} (h : LV w W g u name gv cs ok) :
    W.cell? ⟨g + 1 + 1, 0, none⟩ = some (.func (.func 97) #[] #[.pointer (some ⟨w.heap.size + 1 + 1, 0, none⟩), .pointer (some ⟨w.heap.size, 0, none⟩)]) ∧ W.cell? ⟨g + 1 + 1, 1, none⟩ = some (.func (.func 98) #[] #[.pointer (some ⟨g + 1, 0, none⟩)]) ∧ W.cell? ⟨g + 1 + 1, 2, none⟩ = some (.func (.func 99) #[] #[.pointer (some ⟨w.heap.size, 0, none⟩), .pointer (some ⟨g, 0, none⟩)]) ∧ W.cell? ⟨g + 1 + 1, 3, none⟩ = some (.func (.func 100) #[] #[.pointer (some ⟨g, 0, none⟩), .pointer (some ⟨w.heap.size, 0, none⟩)]) ∧ W.cell? ⟨g + 1 + 1, 4, none⟩ = some (.func (.func 103) #[] #[.pointer (some ⟨g, 0, none⟩), .pointer (some ⟨w.heap.size + 1, 0, none⟩)]) :=
  ⟨cell_row h.2.1.2.2 0 _ rfl, cell_row h.2.1.2.2 1 _ rfl, cell_row h.2.1.2.2 2 _ rfl, cell_row h.2.1.2.2 3 _ rfl, cell_row h.2.1.2.2 4 _ rfl⟩
/-- the level, where the name is one -/
theorem lvl_yes (l : List Ef) (u : ByteArray) (gr : List ByteArray) (name : ByteArray) (hn : Ds.name (Ds.bl name) = true) : lvl l u gr name = if Ds.first 1 (Ds.bl name) = Ds.bl u then 3 else match best (Ds.bl name) l with | none => 0 | some x => plvl x u gr := by
  unfold lvl; rw [hn]; rfl
def own3 (x : Ef) (u : ByteArray) : Bool := decide (u ≠ ⟨#[]⟩) && decide (x.e.owner = u)
theorem pl3 (x : Ef) (u : ByteArray) (gl : List ByteArray) (h : own3 x u = true) : plvl x u gl = 3 := by unfold plvl; rw [if_pos (show (decide (u ≠ ⟨#[]⟩) && decide (x.e.owner = u)) = true from h)]
theorem pl4 (x : Ef) (u : ByteArray) (gl : List ByteArray) (h : own3 x u = false) (h4 : x.gs.any (isU u) = true) : plvl x u gl = gmax (isU u) x.gs 0 := by
  unfold plvl; rw [if_neg (by rw [show (decide (u ≠ ⟨#[]⟩) && decide (x.e.owner = u)) = false from h]; simp), if_pos h4]
theorem pl5 (x : Ef) (u : ByteArray) (gl : List ByteArray) (h : own3 x u = false) (h4 : x.gs.any (isU u) = false) (h5 : x.gs.any (isG gl) = true) : plvl x u gl = gmax (isG gl) x.gs 0 := by
  unfold plvl; rw [if_neg (by rw [show (decide (u ≠ ⟨#[]⟩) && decide (x.e.owner = u)) = false from h]; simp), if_neg (by rw [h4]; simp), if_pos h5]
theorem pl6 (x : Ef) (u : ByteArray) (gl : List ByteArray) (h : own3 x u = false) (h4 : x.gs.any (isU u) = false) (h5 : x.gs.any (isG gl) = false) : plvl x u gl = x.e.lev := by
  unfold plvl; rw [if_neg (by rw [show (decide (u ≠ ⟨#[]⟩) && decide (x.e.owner = u)) = false from h]; simp), if_neg (by rw [h4]; simp), if_neg (by rw [h5]; simp)]
theorem ac_level (a : Option Addr) (n c : Nat) (F : Nat → Ef) (u name : ByteArray) (gv : Value) (gl : List ByteArray) (w : World) (hm : MaxL w) (hES : ES w a n F) (hn : n ≤ 1000) (hF : ∀ k, k < n → (F k).e.name.size ≤ 60 ∧ (F k).n2 ≤ 1000) (hgl : SS w gv gl) :
    Calls Tryz.prog 32 #[.slice a n c, .string u, gv, .string name] w fun r w' => r = .returned (.int .i64 (lvl (lst F n) u gl name)) ∧ Below w.heap.size w w' := by
  cases hnm : Ds.name (Ds.bl name)
  · have e : lvl (lst F n) u gl name = 0 := by unfold lvl; rw [hnm]; rfl
    rw [e]
    exact ac_level_no _ _ _ _ _ hm hnm
  rw [lvl_yes _ _ _ _ hnm]
  generalize hA : (if Ds.first 1 (Ds.bl name) = Ds.bl u then (3 : Int) else match best (Ds.bl name) (lst F n) with | none => 0 | some x => plvl x u gl) = A
  have HA := Lib.hid hA
  clear hA
  obtain ⟨ga, gc, rfl, -⟩ := id hgl
  have hv := fun W (b : Below w.heap.size w W) => ds_valid name W (hm.below b)
  rw [hnm] at hv
  have hbest := fun W (b : Below w.heap.size w W) => ac_best a n c F name W (hm.below b) (hES.below b) hn hF
  have hl1 := fun g W cs ok (V : LV w W g u name (.slice ga gl.length gc) cs ok) => ac_l1 name u (w.heap.size + 1 + 1) w.heap.size W (hm.below V.2.2.2) V.1.2.2 V.1.1
  have hl2 := fun g W cs ok (V : LV w W g u name (.slice ga gl.length gc) cs ok) => ac_l2 ok (g + 1) W V.2.1.2.1
  have HV := Lib.hid hv
  have HB := Lib.hid hbest
  have HGL := Lib.hid hgl
  have HL1 := Lib.hid hl1
  have HL2 := Lib.hid hl2
  have z1 : allOne zE.toList = true := by unfold zE zlit; simp [go_sem, allOne_nil, allOne_cons, one_int, one_bool, one_string, one_slice]
  have z2 : zE.size = 33 := rfl
  clear hv hbest hnm hES hF hgl hl1 hl2
  go_enter Tryz.func32, Tryz.ntmps32
  go_wp2_with (first
    | (go_at_call 42; (with_reducible refine (HV.out _ (by (repeat (first | exact Below.refl _ _ | assumption | (refine Below.drew ?_) | (refine Below.alloc ?_ (by first | (simp; done) | (simp; omega) | omega) _) | (refine Below.setCell ?_ (by first | (simp; done) | (simp; omega) | omega) _))))).mono ?_); rintro _ w1 ⟨rfl, hb⟩; have c1 : w1.cell? ⟨w.heap.size, 0, none⟩ = some (.string u) := (hb.cell (p := ⟨w.heap.size, 0, none⟩) (by simp; omega)).trans (by simp [go_sem]); have c2 : w1.cell? ⟨w.heap.size + 1, 0, none⟩ = some (.slice ga gl.length gc) := (hb.cell (p := ⟨w.heap.size + 1, 0, none⟩) (by simp)).trans (by simp [go_sem]); have c3 : w1.cell? ⟨w.heap.size + 1 + 1, 0, none⟩ = some (.string name) := (hb.cell (p := ⟨w.heap.size + 1 + 1, 0, none⟩) (by simp)).trans (by simp [go_sem]); have B1 := Below.trans (show Below w.heap.size w _ by (repeat (first | exact Below.refl _ _ | assumption | (refine Below.drew ?_) | (refine Below.alloc ?_ (by first | (simp; done) | (simp; omega) | omega) _) | (refine Below.setCell ?_ (by first | (simp; done) | (simp; omega) | omega) _)))) (hb.mono (by simp; omega)); clear hb)
    | (go_at_call 36; (refine (HB.out _ B1).mono ?_); rintro _ w2 ⟨hr, hb⟩; have d1 := below_cell hb c1; have d2 := below_cell hb c2; have d3 := below_cell hb c3; have B2 := bt B1 hb; clear hb; rcases hr with ⟨hso, rfl⟩ | ⟨x, a1, k1, gr, hso, rfl, hgs⟩; rotate_left 1; have HGS := Lib.hid hgs; have hone := vals_one x.e (.slice a1 x.n1 k1) gr rfl (gs_one hgs); clear hgs))
  · go_loopw [33] (fun i wr => (LV w wr w2.heap.size u name (.slice ga gl.length gc) (x.e.vals (.slice a1 x.n1 k1) gr) true ∧ Below w2.heap.size w2 wr) ∧ ((i = .int .i64 0) ∨ (i = .int .i64 1 ∧ decide (Ds.first 1 (Ds.bl name) = Ds.bl u) = false) ∨ (i = .int .i64 2 ∧ decide (Ds.first 1 (Ds.bl name) = Ds.bl u) = false) ∨ (i = .int .i64 3 ∧ decide (Ds.first 1 (Ds.bl name) = Ds.bl u) = false ∧ own3 x u = false) ∨ (i = .int .i64 4 ∧ decide (Ds.first 1 (Ds.bl name) = Ds.bl u) = false ∧ own3 x u = false ∧ x.gs.any (isU u) = false) ∨ (i = .int .i64 5 ∧ decide (Ds.first 1 (Ds.bl name) = Ds.bl u) = false ∧ own3 x u = false ∧ x.gs.any (isU u) = false ∧ x.gs.any (isG gl) = false))) (fun i _ => 5 - (intOf i).toNat)
    case atStart => exact ⟨⟨LV.mk d1 d2 d3 (by rw [vals_size]; decide) B2 _ _ _, by have := B2.size; (repeat (first | exact Below.refl _ _ | assumption | (refine Below.drew ?_) | (refine Below.alloc ?_ (by first | (simp; done) | (simp; omega) | omega) _) | (refine Below.setCell ?_ (by first | (simp; done) | (simp; omega) | omega) _)))⟩, Or.inl rfl⟩
    case round =>
      obtain ⟨⟨V, B⟩, rfl | ⟨rfl, t1⟩ | ⟨rfl, t1⟩ | ⟨rfl, t1, t2⟩ | ⟨rfl, t1, t2, t3⟩ | ⟨rfl, t1, t2, t3, t4⟩⟩ := hrel
      · obtain ⟨f0, f1, f2, f3, f4⟩ := V.facts
        have h := HL1.out _ _ _ _ V
        rcases Bool.eq_false_or_eq_true (decide (Ds.first 1 (Ds.bl name) = Ds.bl u)) with t1 | t1
        · rw [t1] at h
          go_wp2_with (go_at_call 97; (with_reducible refine h.mono ?_); rintro _ w4 ⟨rfl, hb⟩)
          go_ret
          exact ⟨by rw [← HA.out, if_pos (of_decide_eq_true t1)]; rfl, bt V.2.2.2 hb⟩
        · rw [t1] at h
          go_wp2_with (go_at_call 97; (with_reducible refine h.mono ?_); rintro _ w4 ⟨rfl, hb⟩)
          go_roundw
          case rel => exact ⟨⟨V.below hb, bt B hb⟩, Or.inr (Or.inl (⟨rfl, t1⟩))⟩
          case measure => simp [intOf]
      · obtain ⟨f0, f1, f2, f3, f4⟩ := V.facts
        have h := HL2.out _ _ _ _ V
        go_wp2_with (go_at_call 98; (with_reducible refine h.mono ?_); rintro _ w4 ⟨rfl, hb⟩)
        go_roundw
        case rel => exact ⟨⟨V.below hb, bt B hb⟩, Or.inr (Or.inr (Or.inl (⟨rfl, t1⟩)))⟩
        case measure => simp [intOf]
      · obtain ⟨f0, f1, f2, f3, f4⟩ := V.facts
        have h := ac_l3 x.e (.slice a1 x.n1 k1) gr u w2.heap.size w.heap.size wr V.1.1 V.2.1.1
        rw [show (decide (u ≠ ⟨#[]⟩) && decide (x.e.owner = u)) = own3 x u from rfl] at h
        rcases Bool.eq_false_or_eq_true (own3 x u) with t2 | t2
        · rw [t2] at h
          go_wp2_with (go_at_call 99; (with_reducible refine h.mono ?_); rintro _ w4 ⟨rfl, hb⟩)
          go_ret
          refine ⟨?_, bt V.2.2.2 hb⟩
          rw [← HA.out, if_neg (of_decide_eq_false t1), hso]; simp only; rw [pl3 x u gl t2]; rfl
        · rw [t2] at h
          go_wp2_with (go_at_call 99; (with_reducible refine h.mono ?_); rintro _ w4 ⟨rfl, hb⟩)
          go_roundw
          case rel => exact ⟨⟨V.below hb, bt B hb⟩, Or.inr (Or.inr (Or.inr (Or.inl (⟨rfl, t1, t2⟩))))⟩
          case measure => simp [intOf]
      · obtain ⟨f0, f1, f2, f3, f4⟩ := V.facts
        have h := ac_l4 x.e (.slice a1 x.n1 k1) gr x.gs u w2.heap.size w.heap.size wr V.1.1 V.2.1.1 (HGS.out.below B)
        rcases Bool.eq_false_or_eq_true (x.gs.any (isU u)) with t3 | t3
        · rw [t3] at h
          go_wp2_with (go_at_call 100; (with_reducible refine h.mono ?_); rintro _ w4 ⟨rfl, hb⟩)
          go_ret
          refine ⟨?_, bt V.2.2.2 hb⟩
          rw [← HA.out, if_neg (of_decide_eq_false t1), hso]; simp only; rw [pl4 x u gl t2 t3]; rfl
        · rw [t3] at h
          go_wp2_with (go_at_call 100; (with_reducible refine h.mono ?_); rintro _ w4 ⟨rfl, hb⟩)
          go_roundw
          case rel => exact ⟨⟨V.below hb, bt B hb⟩, Or.inr (Or.inr (Or.inr (Or.inr (Or.inl (⟨rfl, t1, t2, t3⟩)))))⟩
          case measure => simp [intOf]
      · obtain ⟨f0, f1, f2, f3, f4⟩ := V.facts
        have h := ac_l5 x.e (.slice a1 x.n1 k1) gr (.slice ga gl.length gc) x.gs gl w2.heap.size (w.heap.size + 1) wr V.1.2.1 (HGL.out.below V.2.2.2) V.2.1.1 (HGS.out.below B)
        rcases Bool.eq_false_or_eq_true (x.gs.any (isG gl)) with t4 | t4
        · rw [t4] at h
          go_wp2_with (go_at_call 103; (with_reducible refine h.mono ?_); rintro _ w4 ⟨rfl, hb⟩)
          go_ret
          refine ⟨?_, bt V.2.2.2 hb⟩
          rw [← HA.out, if_neg (of_decide_eq_false t1), hso]; simp only; rw [pl5 x u gl t2 t3 t4]; rfl
        · rw [t4] at h
          go_wp2_with (go_at_call 103; (with_reducible refine h.mono ?_); rintro _ w4 ⟨rfl, hb⟩)
          go_roundw
          case rel => exact ⟨⟨V.below hb, bt B hb⟩, Or.inr (Or.inr (Or.inr (Or.inr (Or.inr (⟨rfl, t1, t2, t3, t4⟩)))))⟩
          case measure => simp [intOf]
      · obtain ⟨f0, f1, f2, f3, f4⟩ := V.facts
        have c31 := cell_row V.2.1.1 31 _ (vals_31 x.e _ _)
        go_wp2_with fail
        go_ret
        refine ⟨?_, V.2.2.2⟩
        rw [← HA.out, if_neg (of_decide_eq_false t1), hso]; simp only; rw [pl6 x u gl t2 t3 t4]; rfl
  · go_loopw [33] (fun i wr => (LV w wr w2.heap.size u name (.slice ga gl.length gc) zE false ∧ Below w2.heap.size w2 wr) ∧ ((i = .int .i64 0) ∨ (i = .int .i64 1 ∧ decide (Ds.first 1 (Ds.bl name) = Ds.bl u) = false))) (fun i _ => 5 - (intOf i).toNat)
    case atStart => exact ⟨⟨LV.mk d1 d2 d3 (by rw [z2]; decide) B2 _ _ _, by have := B2.size; (repeat (first | exact Below.refl _ _ | assumption | (refine Below.drew ?_) | (refine Below.alloc ?_ (by first | (simp; done) | (simp; omega) | omega) _) | (refine Below.setCell ?_ (by first | (simp; done) | (simp; omega) | omega) _)))⟩, Or.inl rfl⟩
    case round =>
      obtain ⟨⟨V, B⟩, rfl | ⟨rfl, t1⟩⟩ := hrel
      · obtain ⟨f0, f1, f2, f3, f4⟩ := V.facts
        have h := HL1.out _ _ _ _ V
        rcases Bool.eq_false_or_eq_true (decide (Ds.first 1 (Ds.bl name) = Ds.bl u)) with t1 | t1
        · rw [t1] at h
          go_wp2_with (go_at_call 97; (with_reducible refine h.mono ?_); rintro _ w4 ⟨rfl, hb⟩)
          go_ret
          exact ⟨by rw [← HA.out, if_pos (of_decide_eq_true t1)]; rfl, bt V.2.2.2 hb⟩
        · rw [t1] at h
          go_wp2_with (go_at_call 97; (with_reducible refine h.mono ?_); rintro _ w4 ⟨rfl, hb⟩)
          go_roundw
          case rel => exact ⟨⟨V.below hb, bt B hb⟩, Or.inr (⟨rfl, t1⟩)⟩
          case measure => simp [intOf]
      · obtain ⟨f0, f1, f2, f3, f4⟩ := V.facts
        have h := HL2.out _ _ _ _ V
        go_wp2_with (go_at_call 98; (with_reducible refine h.mono ?_); rintro _ w4 ⟨rfl, hb⟩)
        go_ret
        exact ⟨by rw [← HA.out, if_neg (of_decide_eq_false t1), hso]; rfl, bt V.2.2.2 hb⟩
end Go.Proofs.YtfmjeppajpiekaaGreatDoor

end
section
/- TopAccess: the example, and how a level rises. -/
namespace Go.Proofs.YtfmjeppajpiekaaGreatDoor
open Go.RowKit
set_option maxHeartbeats 4000000
set_option maxRecDepth 8000
theorem bw1 : Ds.gnS [80, 65, 89, 46, 68, 65, 89] 3 = [80, 65, 89, 46, 68, 65, 89, 46, 71, 48, 48, 48, 51, 86, 48, 48] ∧ Ds.gnE [80, 65, 89, 46, 68, 65, 89] 3 = 0 := by decide +kernel
theorem bw3 : Ds.match_ [80, 65, 89, 46, 42, 42] [80, 65, 89, 46, 68, 65, 89, 46, 71, 48, 48, 48, 51, 86, 48, 48] = true := by
  rw [Ds.match_parts]
  refine ⟨by decide +kernel, by decide +kernel, (Ds.mt_iff _ _ _ _).2 ?_⟩
  exact .one (by decide) (by rw [Ds.mtQ_eq _ _ (by decide)]; decide) (.eat (by decide) (.eat (by decide) (.skip (by decide) .nil)))
theorem bw4 : Ds.name [112, 97, 121] = false := by decide +kernel
theorem bw_gen (w : World) (hm : MaxL w) (hT : Tab w) : Calls Tryz.prog 96 #[.string ⟨#[80, 65, 89, 46, 68, 65, 89]⟩, .int .i64 3] w fun e w' => e = .returned (.tuple #[.string ⟨#[80, 65, 89, 46, 68, 65, 89, 46, 71, 48, 48, 48, 51, 86, 48, 48]⟩, .int .i64 0]) ∧ Below w.heap.size w w' := by
  have h := ds_gen ⟨#[80, 65, 89, 46, 68, 65, 89]⟩ 3 w hm hT
  rw [show Ds.bl ⟨#[80, 65, 89, 46, 68, 65, 89]⟩ = [80, 65, 89, 46, 68, 65, 89] from rfl, bw1.1, bw1.2] at h
  exact h
theorem bw_m (w : World) (hm : MaxL w) : Calls Tryz.prog 33 #[.string ⟨#[80, 65, 89, 46, 42, 42]⟩, .string ⟨#[80, 65, 89, 46, 68, 65, 89, 46, 71, 48, 48, 48, 51, 86, 48, 48]⟩] w fun e w' => e = .returned (.bool true) ∧ Below w.heap.size w w' := by
  have h := ds_match ⟨#[80, 65, 89, 46, 42, 42]⟩ ⟨#[80, 65, 89, 46, 68, 65, 89, 46, 71, 48, 48, 48, 51, 86, 48, 48]⟩ w hm
  rw [show Ds.bl ⟨#[80, 65, 89, 46, 42, 42]⟩ = [80, 65, 89, 46, 42, 42] from rfl, show Ds.bl ⟨#[80, 65, 89, 46, 68, 65, 89, 46, 71, 48, 48, 48, 51, 86, 48, 48]⟩ = [80, 65, 89, 46, 68, 65, 89, 46, 71, 48, 48, 48, 51, 86, 48, 48] from rfl, bw3] at h
  exact h
theorem bw_v (w : World) (hm : MaxL w) : Calls Tryz.prog 42 #[.string ⟨#[112, 97, 121]⟩] w fun e w' => e = .returned (.bool false) ∧ Below w.heap.size w w' := by
  have h := ds_valid ⟨#[112, 97, 121]⟩ w hm
  rw [show Ds.bl ⟨#[112, 97, 121]⟩ = [112, 97, 121] from rfl, bw4] at h
  exact h
theorem bw_awake (w : World) (hm : MaxL w) (hT : Tab w) :
    Calls Tryz.prog 30 #[] w fun e w' => e = .returned (.bool true) ∧ Below w.heap.size w w' := by
  have B := Below.refl w.heap.size w
  go_enter Tryz.func30, Tryz.ntmps30
  go_wp2_with (first | (go_at_call 96; (with_reducible refine (bw_gen _ hm hT).mono ?_); rintro e w1 ⟨rfl, hb⟩; have B := bt B hb; have hm := hm.below hb; have hT := Tab.below hT hb; clear hb) | (go_at_call 33; (with_reducible refine (bw_m _ hm).mono ?_); rintro e w1 ⟨rfl, hb⟩; have B := bt B hb; have hm := hm.below hb; have hT := Tab.below hT hb; clear hb) | (go_at_call 42; (with_reducible refine (bw_v _ hm).mono ?_); rintro e w1 ⟨rfl, hb⟩; have B := bt B hb; have hm := hm.below hb; have hT := Tab.below hT hb; clear hb))
  go_ret
  exact ⟨rfl, B⟩
/-- bytes that can be read, however many -/
def BS (w : World) (a : Option Addr) (n : Nat) : Prop := n ≤ 9223372036854775807 ∧ ∀ k, k < n → ∃ (b o : Nat) (v : UInt8), a = some ⟨b, o, none⟩ ∧ b < w.heap.size ∧ w.cell? ⟨b, o + k, none⟩ = some (.int .u8 (v.toNat : Nat))
theorem BS.below {w w' : World} {a : Option Addr} {n : Nat} (h : BS w a n) (hb : Below w.heap.size w w') : BS w' a n :=
  ⟨h.1, fun k hk => by
    obtain ⟨b, o, v, h1, h2, h3⟩ := h.2 k hk
    exact ⟨b, o, v, h1, Nat.lt_of_lt_of_le h2 hb.size, below_cell hb h3⟩⟩
/-- a level rises -/
theorem ta_up (lv : Int) (m : Nat) (a : Option Addr) (n c pr : Nat) (w : World) (hm : m ≤ 1000000) (hB : BS w a n) (hc : w.cell? ⟨pr, 0, none⟩ = some (.slice a n c)) :
    Calls Tryz.prog 31 #[.int .i64 lv, .int .i64 m, .pointer (some ⟨pr, 0, none⟩)] w fun r w' => (∃ L, r = .returned (.int .i64 L) ∧ Up lv L) ∧ Below w.heap.size w w' := by
  by_cases h0 : n = 0
  · subst h0
    go_enter Tryz.func31, Tryz.ntmps31
    go_wp2_with fail
    go_ret
    exact ⟨⟨lv, rfl, Up.refl lv⟩, Below.refl _ _⟩
  have e0 : ((n : Int) == 0) = false := by rw [beq_eq_false_iff_ne]; omega
  by_cases h1 : lv < 0
  · have e1 : decide (lv < 0) = true := decide_eq_true h1
    go_enter Tryz.func31, Tryz.ntmps31
    go_wp2_with fail
    go_ret
    exact ⟨⟨lv, rfl, Up.refl lv⟩, Below.refl _ _⟩
  have e1 : decide (lv < 0) = false := decide_eq_false h1
  by_cases h3 : 3 < lv
  · have e2 : decide (3 < lv) = true := decide_eq_true h3
    go_enter Tryz.func31, Tryz.ntmps31
    go_wp2_with fail
    go_ret
    exact ⟨⟨lv, rfl, Up.refl lv⟩, Below.refl _ _⟩
  have e2 : decide (3 < lv) = false := decide_eq_false h3
  have hk : m % n < n := Nat.mod_lt _ (by omega)
  obtain ⟨b, o, v, rfl, hb, hv⟩ := hB.2 (m % n) hk
  have hn := hB.1
  have hv8 := v.toNat_lt
  have m1 : (m : Int).tmod (n : Int) = ((m % n : Nat) : Int) := by rw [Int.tmod_eq_emod_of_nonneg (by omega)]; rfl
  have m2 : ((v.toNat : Nat) : Int).tmod 4 = ((v.toNat % 4 : Nat) : Int) := by rw [Int.tmod_eq_emod_of_nonneg (by omega)]; rfl
  have n0 : ¬ ((n : Int) = 0) := by omega
  have i1 : (0 : Int) ≤ ((m % n : Nat) : Int) := by omega
  have i2 : ((m % n : Nat) : Int) < (n : Int) := by omega
  have h4 : v.toNat % 4 < 4 := Nat.mod_lt _ (by decide)
  have w1 : IntKind.i64.wrap (lv + ((v.toNat % 4 : Nat) : Int)) = lv + ((v.toNat % 4 : Nat) : Int) := IntWalk.i64_in _ ⟨by omega, by omega⟩
  go_enter Tryz.func31, Tryz.ntmps31
  go_wp2_with fail
  go_region
  all_goals
    go_wp2_with fail
    go_ret
    refine ⟨⟨min 3 (lv + ((v.toNat % 4 : Nat) : Int)), rfl, ⟨fun _ => ⟨by omega, by omega⟩, fun h => absurd (by omega) h⟩⟩, by (repeat (first | exact Below.refl _ _ | assumption | (refine Below.drew ?_) | (refine Below.alloc ?_ (by first | (simp; done) | (simp; omega) | omega) _) | (refine Below.setCell ?_ (by first | (simp; done) | (simp; omega) | omega) _)))⟩
theorem ta_upI (lv x : Int) (a : Option Addr) (n c pr : Nat) (w : World) (h0 : 0 ≤ x) (h1 : x ≤ 1000000) (hB : BS w a n) (hc : w.cell? ⟨pr, 0, none⟩ = some (.slice a n c)) :
    Calls Tryz.prog 31 #[.int .i64 lv, .int .i64 x, .pointer (some ⟨pr, 0, none⟩)] w fun r w' => (∃ L, r = .returned (.int .i64 L) ∧ Up lv L) ∧ Below w.heap.size w w' := by
  obtain ⟨m, rfl⟩ := Int.eq_ofNat_of_zero_le h0
  exact ta_up lv m a n c pr w (by omega) hB hc
theorem gr_news (w : World) (gw : ByteArray) (gg : Bool) (L : Int) : ∀ j u, (gv [(gw, gg, L)])[j]? = some u → (w.alloc (.cells #[.string gw, .bool gg, .int .i64 L] 46)).cell? ((⟨w.heap.size, 0, none⟩ : Addr).add j) = some u := by
  intro j u hu
  rw [Addr.add_lit, Nat.zero_add, cell_of_row _ w.heap.size j _ 46 (0, 0) (heap_alloc_new w _)]
  have : gv [(gw, gg, L)] = (#[Value.string gw, Value.bool gg, Value.int .i64 L] : Array Value).toList := rfl
  rw [this] at hu
  simpa using hu
end Go.Proofs.YtfmjeppajpiekaaGreatDoor

end
section
/- TopAccess: what its loop keeps. -/
namespace Go.Proofs.YtfmjeppajpiekaaGreatDoor
open Go.RowKit
set_option maxHeartbeats 4000000
set_option maxRecDepth 8000
/-- an entry of the list that is being made: its cells, its grants -/
def GE (wr : World) (ob : Option Nat) (r : Array Value) (x : Ef) : Prop :=
  ∃ (a1 : Option Addr) (c1 : Nat) (a2 : Option Addr) (c2 : Nat), r = x.e.vals (.slice a1 x.n1 c1) (.slice a2 x.n2 c2) ∧ x.n1 ≤ 9223372036854775807 ∧ x.n2 ≤ 12 ∧ x.gs.length = x.n2 ∧ GS wr (.slice a2 x.n2 c2) x.gs ∧ (0 < x.n2 → ∀ b, (Value.slice a2 x.n2 c2).ownBlock = some b → ob ≠ some b ∧ b < wr.heap.size)
theorem GE.keep {w w' : World} {ob : Option Nat} {r : Array Value} {x : Ef} (h : GE w ob r x) (hs : w.heap.size ≤ w'.heap.size) (hk : ∀ k, k < w.heap.size → some k ≠ ob → w'.heap[k]? = w.heap[k]?) (ob' : Option Nat) (ho : ob' = ob ∨ ob' = some w.heap.size) : GE w' ob' r x := by
  obtain ⟨a1, c1, a2, c2, h1, h2, h3, h4, h5, h6⟩ := h
  refine ⟨a1, c1, a2, c2, h1, h2, h3, h4, ?_, fun hp b hb => ?_⟩
  · obtain ⟨a, c, e, hz, hc⟩ := h5
    refine ⟨a, c, e, hz, fun h0 => ?_⟩
    obtain ⟨b, o, ha, hlt, hcs⟩ := hc h0
    subst ha
    have hb := h6 (by omega) b (by rw [e]; rfl)
    have q := fun i => World.cell?_of_block (w := w) (w' := w') (a := ⟨b, i, none⟩) (hk b hlt (fun e => hb.1 e.symm))
    exact ⟨b, o, rfl, Nat.lt_of_lt_of_le hlt hs, fun k hk' => ⟨(q _).trans (hcs k hk').1, (q _).trans (hcs k hk').2.1, (q _).trans (hcs k hk').2.2⟩⟩
  · have := h6 hp b hb
    refine ⟨?_, by omega⟩
    rcases ho with rfl | rfl
    · exact this.1
    · intro e; cases e; omega
/-- what the loop keeps -/
structure HI (W0 wr : World) (F : Nat → Ef) (k : Nat) (hv : Value) (H : List Ef) (rows : List (Array Value)) : Prop where
  own : wr.ownsRow W0.heap.size 27 33 hv k (ec rows)
  len : rows.length = k
  sz : ∀ r ∈ rows, r.size = 33
  one : ∀ r ∈ rows, allOne r.toList = true
  up : All2 Rise (lst F k) H
  el : ∀ (j : Nat) (r : Array Value) (x : Ef), rows[j]? = some r → H[j]? = some x → GE wr hv.ownBlock r x
  bel : Below W0.heap.size W0 wr
theorem HI.start (W0 : World) (F : Nat → Ef) : HI W0 W0 F 0 (.slice none 0 0) [] [] :=
  ⟨World.ownsRow_nil W0 _ _ 33, rfl, (fun _ h => by cases h), (fun _ h => by cases h), All2.nil, (fun _ _ _ h => by simp at h), Below.refl _ _⟩
theorem HI.below {W0 wr w' : World} {F : Nat → Ef} {k : Nat} {hv : Value} {H : List Ef} {rows : List (Array Value)} (h : HI W0 wr F k hv H rows) (hb : Below wr.heap.size wr w') : HI W0 w' F k hv H rows := by
  refine ⟨own_keep h.own (fun x hx => hb.block x (own_base h.own x hx).2), h.len, h.sz, h.one, h.up, fun j r x h1 h2 => (h.el j r x h1 h2).keep hb.size (fun k hk _ => hb.block k hk) _ (.inl rfl), h.bel.trans (hb.mono h.bel.size)⟩
/-- one entry more -/
theorem HI.snoc {W0 wr w' : World} {F : Nat → Ef} {k : Nat} {hv hv' : Value} {H : List Ef} {rows : List (Array Value)} {x : Ef} {r : Array Value} (h : HI W0 wr F k hv H rows) (hown : w'.ownsRow W0.heap.size 27 33 hv' (k + 1) (ec rows ++ r.toList)) (hg : wr.grownBy w' hv.ownBlock) (hat : hv'.ownBlock = hv.ownBlock ∨ hv'.ownBlock = some wr.heap.size)
    (hr : Rise (F k) x) (hz : r.size = 33) (h1 : allOne r.toList = true) (hge : GE wr hv.ownBlock r x) : HI W0 w' F (k + 1) hv' (H ++ [x]) (rows ++ [r]) := by
  refine ⟨?_, by simp [h.len], fun q hq => ?_, fun q hq => ?_, ?_, fun j q y hj hy => ?_, ?_⟩
  · rw [ec_app, show ec [r] = r.toList from List.append_nil _]; exact hown
  · rcases List.mem_append.1 hq with hq | hq
    · exact h.sz q hq
    · rw [List.mem_singleton] at hq; subst hq; exact hz
  · rcases List.mem_append.1 hq with hq | hq
    · exact h.one q hq
    · rw [List.mem_singleton] at hq; subst hq; exact h1
  · rw [lst_succ]; exact h.up.snoc hr
  · have hl := h.up.length
    rw [lst_len] at hl
    have hrl := h.len
    by_cases hjk : j < k
    · rw [List.getElem?_append_left (by omega)] at hj hy
      exact (h.el j q y hj hy).keep hg.size (fun i hi hne => hg.block i hi hne) _ hat
    · have hj2 := (List.getElem?_eq_some_iff.1 hj).1
      simp at hj2
      obtain rfl : j = k := by omega
      rw [List.getElem?_append_right (by omega), hrl, Nat.sub_self] at hj
      rw [List.getElem?_append_right (by omega), ← hl, Nat.sub_self] at hy
      simp at hj hy
      subst hj hy
      exact hge.keep hg.size (fun i hi hne => hg.block i hi hne) _ hat
  · exact h.bel.grown hg h.bel.size (fun q hq => (own_base h.own q hq).1)
/-- the list that was made -/
theorem HI.es {W0 wr : World} {F : Nat → Ef} {k : Nat} {hv : Value} {H : List Ef} {rows : List (Array Value)} (h : HI W0 wr F k hv H rows) (hk : k ≤ 1000) :
    ∃ (a : Option Addr) (c : Nat) (G : Nat → Ef), hv = .slice a k c ∧ ES wr a k G ∧ lst G k = H ∧ (∀ j, j < k → (G j).n2 ≤ 12) := by
  have hl := h.up.length
  rw [lst_len] at hl
  obtain ⟨a, c, rfl⟩ := owns_sl h.own
  have at_ : ∀ j (hj : j < k), ∃ r, rows[j]? = some r ∧ GE wr (Value.slice a k c).ownBlock r (H.getD j ⟨En.zero, 0, 0, []⟩) := fun j hj => by
    have h1 : rows[j]? = some (rows[j]'(by have := h.len; omega)) := List.getElem?_eq_getElem _
    have h2 : H[j]? = some (H[j]'(by omega)) := List.getElem?_eq_getElem _
    refine ⟨_, h1, ?_⟩
    rw [List.getD_eq_getElem?_getD, h2]
    exact h.el j _ _ h1 h2
  refine ⟨a, c, fun j => H.getD j ⟨En.zero, 0, 0, []⟩, rfl, ⟨by omega, fun j hj => ?_⟩, ?_, fun j hj => ?_⟩
  · obtain ⟨r, h1, a1, c1, a2, c2, h2, h3, h4, h5, h6, -⟩ := at_ j hj
    obtain ⟨g, cc, e, -, hlt, hm⟩ := own_mid h.sz h.own j r h1
    injection e with e1
    refine ⟨g, 0, e1, hlt, a1, c1, a2, c2, ?_, h3, Nat.le_trans h4 (by decide), fun _ => ⟨h5, h6⟩⟩
    rw [Nat.zero_add, hm, h2]
  · apply List.ext_getElem?
    intro j
    unfold lst
    rw [List.getElem?_map]
    by_cases hj : j < k
    · rw [List.getElem?_range hj, Option.map_some, List.getD_eq_getElem?_getD, List.getElem?_eq_getElem (by omega)]; rfl
    · rw [List.getElem?_eq_none (by simp; omega), List.getElem?_eq_none (by omega)]; rfl
  · obtain ⟨r, h1, a1, c1, a2, c2, h2, h3, h4, h5, h6, -⟩ := at_ j hj
    exact h4
/-- an entry of the caller's -/
theorem ge_old {w wr : World} {b o : Nat} {x : Ef} {ob : Option Nat} (h : EF w b o x) (h12 : x.n2 ≤ 12) (hob : ∀ q, ob = some q → w.heap.size ≤ q) (hb : Below w.heap.size w wr) :
    ∃ (a1 : Option Addr) (c1 : Nat) (a2 : Option Addr) (c2 : Nat), mid wr b o = x.e.vals (.slice a1 x.n1 c1) (.slice a2 x.n2 c2) ∧ GS wr (.slice a2 x.n2 c2) x.gs ∧ x.gs.length = x.n2 ∧ x.n1 ≤ 9223372036854775807 ∧ (0 < x.n2 → ∀ b, (Value.slice a2 x.n2 c2).ownBlock = some b → b < w.heap.size) ∧ GE wr ob (x.e.vals (.slice a1 x.n1 c1) (.slice a2 x.n2 c2)) x := by
  obtain ⟨a1, c1, a2, c2, h1, h2, h3, h4⟩ := h
  obtain ⟨h5, h6⟩ := h4 (by omega)
  have hlt : 0 < x.n2 → ∀ b, (Value.slice a2 x.n2 c2).ownBlock = some b → b < w.heap.size := fun h0 b hb => by
    obtain ⟨a, c, e, hz, hc⟩ := h6
    injection e with e1 e2 e3
    obtain ⟨b', o', ha, hl, -⟩ := hc (by omega)
    rw [e1, ha] at hb
    cases hb; exact hl
  refine ⟨a1, c1, a2, c2, mid_below hb h1 (by rw [vals_size]; decide), h6.below hb, h5, h2, hlt, a1, c1, a2, c2, rfl, h2, h12, h5, h6.below hb, fun h0 b hb' => ⟨?_, Nat.lt_of_lt_of_le (hlt h0 b hb') hb.size⟩⟩
  intro e
  have := hob b e
  have := hlt h0 b hb'
  omega
theorem cs_one {X : World} {cs : Array Value} {t : TypeId} {q : Nat} (hq : X.heap.size = q) (hz : cs.size = 33) : CS (X.alloc (.cells cs t)) 33 (.slice (some ⟨q, 0, none⟩) 1 1) 1 cs.toList := by
  subst hq
  refine ⟨_, _, rfl, by simp [hz], fun _ => ⟨_, rfl, fun j u hu => ?_⟩⟩
  rw [Addr.add_lit, Nat.zero_add, cell_of_row _ X.heap.size j cs t (0, 0) (heap_alloc_new X _)]
  simpa using hu
theorem vals_set31 (e : En) (al gr : Value) (L : Int) : (e.vals al gr).setIfInBounds 31 (.int .i64 L) = ({ e with lev := L } : En).vals al gr := by unfold En.vals; rfl
theorem all1 {cs : Array Value} (h : allOne cs.toList = true) : ∀ u ∈ cs.toList, u.oneCell' = true := fun u hu => List.all_eq_true.1 (allOne_all _ h) u hu
theorem ta_box {w w1 : World} {v : Value} {cs : Array Value} {t1 t2 : TypeId} (h0 : 0 < cs.size) (hb : Below ((w.alloc (.cells #[v] t1)).alloc (.cells cs t2)).heap.size ((w.alloc (.cells #[v] t1)).alloc (.cells cs t2)) w1) :
    w1.cell? ⟨w.heap.size, 0, none⟩ = some v ∧ row w1 (w.heap.size + 1) = cs ∧ Below w.heap.size w w1 ∧ w.heap.size + 2 ≤ w1.heap.size := by
  refine ⟨cell_row (row_below hb (row_new2 w #[v] t1 (0, 0) _) (by simp)) 0 _ rfl, row_below hb (row_new2' w cs t2 (0, 0) _) h0, below2 hb, ?_⟩
  have := hb.size
  simp at this
  omega
theorem foldl_over : ∀ (l : List Value) (i : Nat) (zs : Array Value), (l.zipIdx i).foldl (fun (cs : Array Value) (x : Value × Nat) => cs.setIfInBounds x.2 x.1) zs = over zs i l
  | [], _, _ => rfl
  | v :: l, i, zs => by rw [List.zipIdx_cons, List.foldl_cons, foldl_over l (i + 1)]; rfl
theorem bldEnt (ev : Operand → Value) (w : World) (dst x t pos af gd) (h3 : isAggV (ev x) = true) (h4 : (cellsOfV (ev x)).size = 33) :
    (execOp ev ⟨dst, .buildSlice 42 1 #[(0, x)], t, pos, af, gd⟩).run Tryz.prog w = .ok (.value (.slice (some ⟨w.heap.size, 0, none⟩) 1 1)) (w.alloc (.cells (cellsOfV (ev x)) 27)) := by
  obtain ⟨cs, hc⟩ : ∃ cs, ev x = .agg cs := by
    unfold isAggV at h3
    split at h3
    · rename_i g h; exact ⟨g, h⟩
    · cases h3
  rw [hc, cellsOfV_mk] at h4 ⊢
  go_simp
  have hsz : cs.zipIdx.size = 33 := by simp [h4]
  rw [← hsz, ← Array.foldl_toList, Array.toList_zipIdx, foldl_over, over_all _ cs (by rw [h4]; rfl)]
theorem bld_guard {P : Program} {ops : Array Oper} {rest : List Oper} {a : Act} {w : World} {Q : Exit → Act → World → Prop} {d t pos af g n xs} (ty : TypeId)
    (h : wpList P ops Q (⟨d, .buildSlice ty n xs, t, pos, af, g⟩ :: rest) a w) : wpList P ops Q (⟨d, .buildSlice ty n xs, t, pos, af, g⟩ :: rest) a w := h
theorem wpList_bldEnt {ops : Array Oper} {rest : List Oper} {o : Oper} {a : Act} {Q : Exit → Act → World → Prop} (w : World) {x : Operand} {cs : Array Value} (hw : Region.wanted o (yielded ops a.tmps) = true) (ho : o.op = .buildSlice 42 1 #[(0, x)])
    (hx : a.eval x = .agg cs) (hz : cs.size = 33) (h : wpList Tryz.prog ops Q rest (a.put o.dst (.slice (some ⟨w.heap.size, 0, none⟩) 1 1)) (w.alloc (.cells cs 27))) : wpList Tryz.prog ops Q (o :: rest) a w := by
  obtain ⟨dst, op, ty, pos, af, gd⟩ := o
  simp only at ho
  subst ho
  refine wpList_step fun K hK => ?_
  rw [if_pos hw]
  have hr := bldEnt a.eval w dst x ty pos af gd (by rw [hx]; rfl) (by rw [hx]; exact hz)
  rw [hx, cellsOfV_mk] at hr
  unfold Oper.wp
  simp only [hr]
  exact hK _ _ h
theorem ok_next {P : Nat → Prop} {k : Nat} (h : ∀ j, j < k → P j) (hk : P k) : ∀ j, j < k + 1 → P j := fun j hj => by
  rcases Nat.lt_or_ge j k with h' | h'
  · exact h j h'
  · obtain rfl : j = k := by omega
    exact hk
/-- behind the new level -/
theorem ta_st1 (L : Int) {wr w3 : World} {e : En} {al gr : Value} {t1 t2 : TypeId} (hb : Below ((wr.alloc (.cells (e.vals al gr) t1)).alloc (.cells (e.vals al gr) t2)).heap.size ((wr.alloc (.cells (e.vals al gr) t1)).alloc (.cells (e.vals al gr) t2)) w3) :
    w3.cell? ⟨wr.heap.size + 1, 31, none⟩ = some (.int .i64 e.lev) ∧ w3.frozen? ⟨wr.heap.size + 1, 31, none⟩ = false ∧ Held (w3.setCell ⟨wr.heap.size + 1, 31, none⟩ (.int .i64 L)) wr.heap.size 33 ∧ Held (w3.setCell ⟨wr.heap.size + 1, 31, none⟩ (.int .i64 L)) (wr.heap.size + 1) 33 ∧
    row (w3.setCell ⟨wr.heap.size + 1, 31, none⟩ (.int .i64 L)) (wr.heap.size + 1) = ({ e with lev := L } : En).vals al gr ∧ row (w3.setCell ⟨wr.heap.size + 1, 31, none⟩ (.int .i64 L)) wr.heap.size = e.vals al gr ∧ Below wr.heap.size wr (w3.setCell ⟨wr.heap.size + 1, 31, none⟩ (.int .i64 L)) ∧ (w3.setCell ⟨wr.heap.size + 1, 31, none⟩ (.int .i64 L)).heap.size = w3.heap.size ∧ wr.heap.size + 2 ≤ w3.heap.size := by
  have s1 : (wr.alloc (.cells (e.vals al gr) t1)).heap.size = wr.heap.size + 1 := by simp
  have s2 : ((wr.alloc (.cells (e.vals al gr) t1)).alloc (.cells (e.vals al gr) t2)).heap.size = wr.heap.size + 2 := by simp
  have hs := hb.size
  rw [s2] at hs
  have e1 := EB.new (wr.alloc (.cells (e.vals al gr) t1)) (e.vals al gr) t2
  rw [s1] at e1
  have e1 := e1.of_block (hb.block (wr.heap.size + 1) (by rw [s2]; omega)) hb.size
  have e0 := (EB.new wr (e.vals al gr) t1).of_block ((hb.block wr.heap.size (by rw [s2]; omega)).trans (heap_alloc_old _ _ (by simp))) (by omega)
  have h1 := held_of e1 (vals_size e al gr) (by decide)
  have h0 := held_of e0 (vals_size e al gr) (by decide)
  have hset := set_held h1 31 (.int .i64 L)
  rw [e1.1, vals_set31] at hset
  have hB : Below wr.heap.size wr w3 := below2 hb
  rw [hset]
  have g1 : Held (w3.setRow (wr.heap.size + 1) (({ e with lev := L } : En).vals al gr)) (wr.heap.size + 1) 33 := by
    refine ⟨by rw [row_setRow h1]; exact vals_size _ _ _, by decide, fun o => ?_⟩
    have := h1.2.2 o
    rw [← hset]
    simpa using this
  exact ⟨cell_row e1.1 31 _ (vals_31 e al gr), e1.2.1 31, held_other h0 (by omega), g1, row_setRow h1 _, ((by unfold row; rw [setRow_block _ _ _ _ (by omega : wr.heap.size ≠ wr.heap.size + 1)]) : row (w3.setRow (wr.heap.size + 1) _) wr.heap.size = row w3 wr.heap.size).trans e0.1, below_setRow hB (by omega) _, by simp, hs⟩
/-- behind the new grants -/
theorem ta_st2 (v : Value) {wr W wi : World} {f : En} {al gr : Value} (hH0 : Held W wr.heap.size 33) (hH1 : Held W (wr.heap.size + 1) 33) (hr1 : row W (wr.heap.size + 1) = f.vals al gr) (hB : Below wr.heap.size wr W) (hz : wr.heap.size + 2 ≤ W.heap.size) (hb : Below W.heap.size W wi) :
    wi.cell? ⟨wr.heap.size + 1, 32, none⟩ = some gr ∧ wi.frozen? ⟨wr.heap.size + 1, 32, none⟩ = false ∧ Held (wi.setCell ⟨wr.heap.size + 1, 32, none⟩ v) wr.heap.size 33 ∧ row (wi.setCell ⟨wr.heap.size + 1, 32, none⟩ v) (wr.heap.size + 1) = f.vals al v ∧
    (∀ c, Below wr.heap.size wr ((wi.setCell ⟨wr.heap.size + 1, 32, none⟩ v).setRow wr.heap.size c)) ∧ (∀ c k, wr.heap.size + 2 ≤ k → k < wi.heap.size → ((wi.setCell ⟨wr.heap.size + 1, 32, none⟩ v).setRow wr.heap.size c).heap[k]? = wi.heap[k]?) ∧ (∀ c, row ((wi.setCell ⟨wr.heap.size + 1, 32, none⟩ v).setRow wr.heap.size c) wr.heap.size = c) := by
  have h0 : Held wi wr.heap.size 33 := hH0.of_block (hb.block _ (by omega))
  have h1 : Held wi (wr.heap.size + 1) 33 := hH1.of_block (hb.block _ (by omega))
  have r1 : row wi (wr.heap.size + 1) = f.vals al gr := row_below hb hr1 (by rw [vals_size]; decide)
  have hset := set_held h1 32 v
  rw [r1, vals_set32] at hset
  have hW : Below wr.heap.size wr wi := hB.trans (hb.mono (by omega))
  have g0 : Held (wi.setRow (wr.heap.size + 1) (f.vals al v)) wr.heap.size 33 := held_other h0 (by omega)
  rw [hset]
  refine ⟨cell_row r1 32 _ (vals_32 f al gr), h1.2.2 32, g0, row_setRow h1 _, fun c => below_setRow (below_setRow hW (by omega) _) (Nat.le_refl _) _, fun c k hk1 hk2 => ?_, fun c => row_setRow g0 c⟩
  rw [setRow_block _ _ _ _ (by omega), setRow_block _ _ _ _ (by omega)]
/-- the cells of a list, nil or not -/
theorem ES.all {w : World} {a : Option Addr} {n c : Nat} {F : Nat → Ef} (h : ES w a n F) :
    ∃ rows : List (Array Value), CS w 33 (.slice a n c) n (ec rows) ∧ rows.length = n ∧ (∀ r ∈ rows, r.size = 33) ∧ (∀ r ∈ rows, allOne r.toList = true) ∧ ∀ (k : Nat) (r : Array Value), rows[k]? = some r → ∃ b o, a = some ⟨b, o, none⟩ ∧ mid w b (o + k * 33) = r ∧ k < n := by
  rcases Nat.eq_zero_or_pos n with h0 | h0
  · subst h0
    exact ⟨[], ⟨a, c, rfl, rfl, fun h => absurd h (by decide)⟩, rfl, (fun _ h => by cases h), (fun _ h => by cases h), fun k r h => by simp at h⟩
  · obtain ⟨b, o, rfl, -⟩ := h.2 0 h0
    refine ⟨rowsOf w b o n, h.cells, by unfold rowsOf; simp, h.size b o rfl, h.ones b o rfl, fun k r hr => ?_⟩
    have hk := (List.getElem?_eq_some_iff.1 hr).1
    unfold rowsOf at hk hr
    simp at hk
    refine ⟨b, o, rfl, ?_, hk⟩
    rw [List.getElem?_map, List.getElem?_range hk, Option.map_some] at hr
    exact Option.some.inj hr
/-- one entry ahead of a list, in a row of the call's own -/
theorem es_cons {w w8 : World} {base n c' : Nat} {a' a : Option Addr} {F : Nat → Ef} {x : Ef} {b1 b2 : Option Addr} {c1 c2 : Nat} {rows : List (Array Value)} (h : w8.ownsRow base 27 33 (.slice a' (1 + n) c') (1 + n) ((x.e.vals (.slice b1 x.n1 c1) (.slice b2 x.n2 c2)).toList ++ ec rows))
    (hl : rows.length = n) (hz : ∀ r ∈ rows, r.size = 33) (hx1 : x.n1 ≤ 9223372036854775807) (hx2 : x.n2 ≤ 9223372036854775807) (hx : x.gs.length = x.n2 ∧ GS w8 (.slice b2 x.n2 c2) x.gs) (hn : n ≤ 1000) (hES : ES w a n F) (hB : Below w.heap.size w w8)
    (hr : ∀ (k : Nat) (r : Array Value), rows[k]? = some r → ∃ b o, a = some ⟨b, o, none⟩ ∧ mid w b (o + k * 33) = r ∧ k < n) : ES w8 a' (1 + n) (fun j => match j with | 0 => x | j + 1 => F j) := by
  have hz' : ∀ r ∈ (x.e.vals (.slice b1 x.n1 c1) (.slice b2 x.n2 c2)) :: rows, r.size = 33 := fun r hr => by
    rcases List.mem_cons.1 hr with rfl | hr
    · exact vals_size _ _ _
    · exact hz r hr
  have h' : w8.ownsRow base 27 33 (.slice a' (1 + n) c') (1 + n) (ec ((x.e.vals (.slice b1 x.n1 c1) (.slice b2 x.n2 c2)) :: rows)) := h
  refine ⟨by omega, fun k hk => ?_⟩
  cases k with
  | zero =>
    obtain ⟨g, cc, e, -, hlt, hm⟩ := own_mid hz' h' 0 _ rfl
    injection e with e1
    exact ⟨g, 0, e1, hlt, b1, c1, b2, c2, by rw [Nat.zero_add]; exact hm, hx1, hx2, fun _ => hx⟩
  | succ j =>
    have hj : rows[j]? = some (rows[j]'(by omega)) := List.getElem?_eq_getElem _
    obtain ⟨g, cc, e, -, hlt, hm⟩ := own_mid hz' h' (j + 1) (rows[j]'(by omega)) (by rw [List.getElem?_cons_succ]; exact hj)
    injection e with e1
    obtain ⟨b, o, ha, hmw, hjn⟩ := hr j _ hj
    obtain ⟨b', o', ha', hlt', d1, e1', d2, e2', h1, h2, h3, h4⟩ := hES.2 j hjn
    rw [ha] at ha'
    cases ha'
    refine ⟨g, 0, e1, hlt, d1, e1', d2, e2', ?_, h2, h3, fun h => ⟨(h4 h).1, (h4 h).2.below hB⟩⟩
    rw [Nat.zero_add, hm, ← hmw, h1]
theorem lst_cons (F : Nat → Ef) (x : Ef) (n : Nat) : lst (fun j => match j with | 0 => x | j + 1 => F j) (1 + n) = x :: lst F n := by
  unfold lst
  rw [Nat.add_comm, List.range_succ_eq_map, List.map_cons, List.map_map]
  rfl
theorem own_one {w : World} {cs : Array Value} {q : Nat} (hq : w.heap.size = q) (hz : cs.size = 33) : (w.alloc (.cells cs 27)).ownsRow q 27 33 (.slice (some ⟨q, 0, none⟩) 1 1) 1 cs.toList := by
  subst hq
  exact ⟨by simp [hz], .inr ⟨w.heap.size, 1, cs, rfl, Nat.le_refl _, heap_alloc_new w _, Nat.le_refl _, by unfold maxLen; omega, by simp [hz], by rw [List.take_of_length_le (by simp [hz])]⟩⟩
theorem guard_off2 {P : Program} {ops : Array Oper} {rest : List Oper} {o : Oper} {a : Act} {w : World} {Q : Exit → Act → World → Prop} (hw : Region.wanted o (yielded ops a.tmps) = true) (h : wpList P ops Q ({ o with guard := none } :: rest) a w) : wpList P ops Q (o :: rest) a w := by
  unfold wpList at h ⊢
  rw [if_pos hw]
  rw [if_pos (by simp [Region.wanted])] at h
  exact h
end Go.Proofs.YtfmjeppajpiekaaGreatDoor

end
section
/- The walk of TopAccess. Printed by wip/mktc.py. -/
namespace Go.Proofs.YtfmjeppajpiekaaGreatDoor
open Go.RowKit
set_option maxHeartbeats 40000000
set_option maxRecDepth 8000
attribute [local go_sem ↓] ldEnt stEnt stEnt2 stEntRow ldEntM bldEnt
attribute [local go_sem] Held_drew isHead_mk headOf_mk offOf_mk isPtr_mk cellsOfV_mk isAggV_mk row_new row_new2 row_new2' row_drew row_drewN vals_size allOne_nil allOne_cons one_int one_bool one_string one_pointer one_slice one_func vals_0 vals_1 vals_31 vals_32
theorem ta_few (a : Option Addr) (n c : Nat) (ar : Option Addr) (nr cr : Nat) (u : ByteArray) (ga : Option Addr) (gn gc : Nat) (name : ByteArray) (e : En) (a1 : Option Addr) (n1 c1 : Nat) (a2 : Option Addr) (n2 c2 : Nat) (w : World) (hm : MaxL w) (hT : Tab w) (hall : ¬ (n ≤ 10 ∧ gn ≤ 6 ∧ name.size ≤ 60 ∧ u.size ≤ 60 ∧ e.name.size ≤ 60 ∧ n2 ≤ 12)) :
    Calls Tryz.prog 6 #[.slice a n c, .slice ar nr cr, .string u, .slice ga gn gc, .string name, .agg (e.vals (.slice a1 n1 c1) (.slice a2 n2 c2))] w fun r w' => r = .returned (.bool true) ∧ Below w.heap.size w w' := by
  have HAW := Lib.hid (fun W (b : Below w.heap.size w W) => bw_awake W (hm.below b) (hT.below b))
  by_cases q0 : n ≤ 10
  rotate_left
  · have f0 : decide (10 < (n : Int)) = true := by rw [decide_eq_true_eq]; omega
    clear hall
    go_enter Tryz.func6, Tryz.ntmps6
    go_wp2_with (go_at_call 30; (with_reducible refine (HAW.out _ (by (repeat (first | exact Below.refl _ _ | assumption | (refine Below.drew ?_) | (refine Below.alloc ?_ (by first | (simp; done) | (simp; omega) | omega) _) | (refine Below.setCell ?_ (by first | (simp; done) | (simp; omega) | omega) _))))).mono ?_); rintro _ w1 ⟨rfl, hb⟩; obtain ⟨cR, R1, B1, z1⟩ := ta_box (by simp [vals_size]) hb; have m1 := cell_row R1 1 _ (vals_1 e _ _); have m32 := cell_row R1 32 _ (vals_32 e _ _); clear hb)
    go_ret
    exact ⟨rfl, B1⟩
  have f0 : decide (10 < (n : Int)) = false := by rw [decide_eq_false_iff_not]; omega
  by_cases q1 : gn ≤ 6
  rotate_left
  · have f1 : decide (6 < (gn : Int)) = true := by rw [decide_eq_true_eq]; omega
    clear hall
    go_enter Tryz.func6, Tryz.ntmps6
    go_wp2_with (go_at_call 30; (with_reducible refine (HAW.out _ (by (repeat (first | exact Below.refl _ _ | assumption | (refine Below.drew ?_) | (refine Below.alloc ?_ (by first | (simp; done) | (simp; omega) | omega) _) | (refine Below.setCell ?_ (by first | (simp; done) | (simp; omega) | omega) _))))).mono ?_); rintro _ w1 ⟨rfl, hb⟩; obtain ⟨cR, R1, B1, z1⟩ := ta_box (by simp [vals_size]) hb; have m1 := cell_row R1 1 _ (vals_1 e _ _); have m32 := cell_row R1 32 _ (vals_32 e _ _); clear hb)
    go_ret
    exact ⟨rfl, B1⟩
  have f1 : decide (6 < (gn : Int)) = false := by rw [decide_eq_false_iff_not]; omega
  by_cases q2 : name.size ≤ 60
  rotate_left
  · have f2 : decide (60 < (name.size : Int)) = true := by rw [decide_eq_true_eq]; omega
    clear hall
    go_enter Tryz.func6, Tryz.ntmps6
    go_wp2_with (go_at_call 30; (with_reducible refine (HAW.out _ (by (repeat (first | exact Below.refl _ _ | assumption | (refine Below.drew ?_) | (refine Below.alloc ?_ (by first | (simp; done) | (simp; omega) | omega) _) | (refine Below.setCell ?_ (by first | (simp; done) | (simp; omega) | omega) _))))).mono ?_); rintro _ w1 ⟨rfl, hb⟩; obtain ⟨cR, R1, B1, z1⟩ := ta_box (by simp [vals_size]) hb; have m1 := cell_row R1 1 _ (vals_1 e _ _); have m32 := cell_row R1 32 _ (vals_32 e _ _); clear hb)
    go_ret
    exact ⟨rfl, B1⟩
  have f2 : decide (60 < (name.size : Int)) = false := by rw [decide_eq_false_iff_not]; omega
  by_cases q3 : u.size ≤ 60
  rotate_left
  · have f3 : decide (60 < (u.size : Int)) = true := by rw [decide_eq_true_eq]; omega
    clear hall
    go_enter Tryz.func6, Tryz.ntmps6
    go_wp2_with (go_at_call 30; (with_reducible refine (HAW.out _ (by (repeat (first | exact Below.refl _ _ | assumption | (refine Below.drew ?_) | (refine Below.alloc ?_ (by first | (simp; done) | (simp; omega) | omega) _) | (refine Below.setCell ?_ (by first | (simp; done) | (simp; omega) | omega) _))))).mono ?_); rintro _ w1 ⟨rfl, hb⟩; obtain ⟨cR, R1, B1, z1⟩ := ta_box (by simp [vals_size]) hb; have m1 := cell_row R1 1 _ (vals_1 e _ _); have m32 := cell_row R1 32 _ (vals_32 e _ _); clear hb)
    go_ret
    exact ⟨rfl, B1⟩
  have f3 : decide (60 < (u.size : Int)) = false := by rw [decide_eq_false_iff_not]; omega
  by_cases q4 : e.name.size ≤ 60
  rotate_left
  · have f4 : decide (60 < (e.name.size : Int)) = true := by rw [decide_eq_true_eq]; omega
    clear hall
    go_enter Tryz.func6, Tryz.ntmps6
    go_wp2_with (go_at_call 30; (with_reducible refine (HAW.out _ (by (repeat (first | exact Below.refl _ _ | assumption | (refine Below.drew ?_) | (refine Below.alloc ?_ (by first | (simp; done) | (simp; omega) | omega) _) | (refine Below.setCell ?_ (by first | (simp; done) | (simp; omega) | omega) _))))).mono ?_); rintro _ w1 ⟨rfl, hb⟩; obtain ⟨cR, R1, B1, z1⟩ := ta_box (by simp [vals_size]) hb; have m1 := cell_row R1 1 _ (vals_1 e _ _); have m32 := cell_row R1 32 _ (vals_32 e _ _); clear hb)
    go_ret
    exact ⟨rfl, B1⟩
  have f4 : decide (60 < (e.name.size : Int)) = false := by rw [decide_eq_false_iff_not]; omega
  by_cases q5 : n2 ≤ 12
  rotate_left
  · have f5 : decide (12 < (n2 : Int)) = true := by rw [decide_eq_true_eq]; omega
    clear hall
    go_enter Tryz.func6, Tryz.ntmps6
    go_wp2_with (go_at_call 30; (with_reducible refine (HAW.out _ (by (repeat (first | exact Below.refl _ _ | assumption | (refine Below.drew ?_) | (refine Below.alloc ?_ (by first | (simp; done) | (simp; omega) | omega) _) | (refine Below.setCell ?_ (by first | (simp; done) | (simp; omega) | omega) _))))).mono ?_); rintro _ w1 ⟨rfl, hb⟩; obtain ⟨cR, R1, B1, z1⟩ := ta_box (by simp [vals_size]) hb; have m1 := cell_row R1 1 _ (vals_1 e _ _); have m32 := cell_row R1 32 _ (vals_32 e _ _); clear hb)
    go_ret
    exact ⟨rfl, B1⟩
  have f5 : decide (12 < (n2 : Int)) = false := by rw [decide_eq_false_iff_not]; omega
  exact absurd ⟨q0, q1, q2, q3, q4, q5⟩ hall
theorem law_access (F : Nat → Ef) (a : Option Addr) (n c : Nat) (ar : Option Addr) (nr cr : Nat) (u : ByteArray) (ga : Option Addr) (gc : Nat) (gl : List ByteArray) (name : ByteArray) (e : En) (a1 : Option Addr) (n1 c1 : Nat) (a2 : Option Addr) (c2 : Nat) (gs : List Gr) (w : World) (hm : MaxL w) (hT : Tab w) (hES : ES w a n F) (hBS : BS w ar nr) (hgl : SS w (.slice ga gl.length gc) gl) (hn1 : n1 ≤ 9223372036854775807) (hgs : GS w (.slice a2 gs.length c2) gs) (q0 : n ≤ 10) (q1 : gl.length ≤ 6) (q2 : name.size ≤ 60) (q3 : u.size ≤ 60) (q4 : e.name.size ≤ 60) (q5 : gs.length ≤ 12) :
    Calls Tryz.prog 6 #[.slice a n c, .slice ar nr cr, .string u, .slice ga gl.length gc, .string name, .agg (e.vals (.slice a1 n1 c1) (.slice a2 gs.length c2))] w fun r w' => r = .returned (.bool true) ∧ Below w.heap.size w w' := by
  have HAW := Lib.hid (fun W (b : Below w.heap.size w W) => bw_awake W (hm.below b) (hT.below b))
  have f0 : decide (10 < (n : Int)) = false := by rw [decide_eq_false_iff_not]; omega
  have f1 : decide (6 < (gl.length : Int)) = false := by rw [decide_eq_false_iff_not]; omega
  have f2 : decide (60 < (name.size : Int)) = false := by rw [decide_eq_false_iff_not]; omega
  have f3 : decide (60 < (u.size : Int)) = false := by rw [decide_eq_false_iff_not]; omega
  have f4 : decide (60 < (e.name.size : Int)) = false := by rw [decide_eq_false_iff_not]; omega
  have f5 : decide (12 < (gs.length : Int)) = false := by rw [decide_eq_false_iff_not]; omega
  have HES := Lib.hid hES
  have HBS := Lib.hid hBS
  have HGL := Lib.hid hgl
  have HGS := Lib.hid hgs
  clear hES hBS hgl hgs
  go_enter Tryz.func6, Tryz.ntmps6
  go_wp2_with (first | (go_at_call 30; (with_reducible refine (HAW.out _ (by (repeat (first | exact Below.refl _ _ | assumption | (refine Below.drew ?_) | (refine Below.alloc ?_ (by first | (simp; done) | (simp; omega) | omega) _) | (refine Below.setCell ?_ (by first | (simp; done) | (simp; omega) | omega) _))))).mono ?_); rintro _ w1 ⟨rfl, hb⟩; obtain ⟨cR, R1, B1, z1⟩ := ta_box (by simp [vals_size]) hb; have m1 := cell_row R1 1 _ (vals_1 e _ _); have m32 := cell_row R1 32 _ (vals_32 e _ _); clear hb))
  go_loopw [14, 15, 58] (fun hv cnt i wr => ∃ (k m : Nat) (H : List Ef) (rows : List (Array Value)), k ≤ n ∧ i = .int .i64 k ∧ cnt = .int .i64 m ∧ m ≤ 13 * k ∧ (∀ j, j < k → (F j).e.name.size ≤ 60 ∧ (F j).n2 ≤ 12) ∧ HI w1 wr F k hv H rows) (fun _ _ i _ => n - (intOf i).toNat)
  case atStart => exact ⟨0, 0, [], [], Nat.zero_le _, rfl, rfl, Nat.le_refl _, fun j hj => absurd hj (by omega), HI.start w1 F⟩
  case round =>
    obtain ⟨k, m, H, rows, hk, rfl, rfl, hmk, hok, hI⟩ := hrel
    obtain ⟨hva, hvc, rfl⟩ := owns_sl hI.own
    have HI1 := Lib.hid hI
    have HOK := Lib.hid hok
    have Bw := bt B1 hI.bel
    have zr := hI.bel.size
    clear hI hok
    by_cases hlt : k < n
    · obtain ⟨b, o, rfl, hb, hef⟩ := HES.out.2 k hlt
      by_cases s0 : (F k).e.name.size ≤ 60
      rotate_left
      · have f6 : decide (60 < ((F k).e.name.size : Int)) = true := by rw [decide_eq_true_eq]; omega
        obtain ⟨b1, d1, b2, d2, hmid, -⟩ := hef.below Bw
        have hz : (mid wr b (o + k * 33)).size = 33 := by rw [hmid]; exact vals_size _ _ _
        have hone := vals_one (F k).e (.slice b1 (F k).n1 d1) (.slice b2 (F k).n2 d2) rfl rfl
        clear hef
        go_wp2_with fail
        go_ret
        exact ⟨rfl, by (repeat (first | exact Below.refl _ _ | assumption | (refine Below.drew ?_) | (refine Below.alloc ?_ (by first | (simp; done) | (simp; omega) | omega) _) | (refine Below.setCell ?_ (by first | (simp; done) | (simp; omega) | omega) _)))⟩
      have f6 : decide (60 < ((F k).e.name.size : Int)) = false := by rw [decide_eq_false_iff_not]; omega
      by_cases s1 : (F k).n2 ≤ 12
      rotate_left
      · have f7 : decide (12 < ((F k).n2 : Int)) = true := by rw [decide_eq_true_eq]; omega
        obtain ⟨b1, d1, b2, d2, hmid, -⟩ := hef.below Bw
        have hz : (mid wr b (o + k * 33)).size = 33 := by rw [hmid]; exact vals_size _ _ _
        have hone := vals_one (F k).e (.slice b1 (F k).n1 d1) (.slice b2 (F k).n2 d2) rfl rfl
        clear hef
        go_wp2_with fail
        go_ret
        exact ⟨rfl, by (repeat (first | exact Below.refl _ _ | assumption | (refine Below.drew ?_) | (refine Below.alloc ?_ (by first | (simp; done) | (simp; omega) | omega) _) | (refine Below.setCell ?_ (by first | (simp; done) | (simp; omega) | omega) _)))⟩
      have f7 : decide (12 < ((F k).n2 : Int)) = false := by rw [decide_eq_false_iff_not]; omega
      obtain ⟨b1, d1, b2, d2, hmid, hgk, hgl, hn1k, hlow, hge⟩ := ge_old hef s1 (fun q hq => Nat.le_trans (by have := B1.size; omega : w.heap.size ≤ w1.heap.size) (own_base HI1.out.own q hq).1) Bw
      have hz : (mid wr b (o + k * 33)).size = 33 := by rw [hmid]; exact vals_size _ _ _
      have hone := vals_one (F k).e (.slice b1 (F k).n1 d1) (.slice b2 (F k).n2 d2) rfl rfl
      have HGE := Lib.hid hge
      have HGK := Lib.hid hgk
      clear hef hge hgk
      by_cases hk4 : (F k).e.kind = 4
      · have f8 : ((F k).e.kind == 4) = true := by rw [hk4]; rfl
        have BA : Below w1.heap.size w1 ((wr.alloc (.cells ((F k).e.vals (.slice b1 (F k).n1 d1) (.slice b2 (F k).n2 d2)) 27)).alloc (.cells ((F k).e.vals (.slice b1 (F k).n1 d1) (.slice b2 (F k).n2 d2)) 27)) := by
          have := HI1.out.bel
          (repeat (first | exact Below.refl _ _ | assumption | (refine Below.drew ?_) | (refine Below.alloc ?_ (by first | (simp; done) | (simp; omega) | omega) _) | (refine Below.setCell ?_ (by first | (simp; done) | (simp; omega) | omega) _)))
        have HU := Lib.hid (fun W lv (x : Int) (h0 : 0 ≤ x) (h1 : x ≤ 1000000) (b : Below w1.heap.size w1 W) => ta_upI lv x ar nr cr w.heap.size W h0 h1 (HBS.out.below (bt B1 b)) ((b.cell (p := ⟨w.heap.size, 0, none⟩) (show w.heap.size < w1.heap.size by omega)).trans cR))
        have hm1 : m ≤ 1000000 := by omega
        go_wp2_with (go_at_call 31; (refine (HU.out _ _ (m : Int) (by omega) (by omega) BA).mono ?_); rintro _ w3 ⟨⟨L, rfl, hL⟩, hb3⟩; obtain ⟨g1, g2, H0, H1, R1', R0', BW, zW, z3⟩ := ta_st1 L hb3; have G32 := cell_row R0' 32 _ (vals_32 _ _ _); have HL := Lib.hid hL; clear hb3 hL)
        generalize w3.setCell ⟨wr.heap.size + 1, 31, none⟩ (.int .i64 L) = WW at H0 H1 R1' R0' BW zW G32 ⊢
        have zWW : wr.heap.size + 2 ≤ WW.heap.size := by omega
        have HGW := Lib.hid (HGK.out.below BW)
        have B1W : Below w1.heap.size w1 WW := HI1.out.bel.trans (BW.mono zr)
        obtain ⟨wo, hwo⟩ : ∃ wo, wo = wr := ⟨_, rfl⟩
        subst hwo
        go_loopw [15, 18, 85] (fun cnt gvv i wr => ∃ (j : Nat) (G : List Gr), j ≤ (F k).n2 ∧ i = .int .i64 j ∧ cnt = .int .i64 ((m : Int) + (j : Int)) ∧ wr.ownsRow WW.heap.size 46 3 gvv j (gv G) ∧ All2 UpG ((F k).gs.take j) G ∧ Below WW.heap.size WW wr) (fun _ _ i _ => (F k).n2 - (intOf i).toNat)
        case atStart => exact ⟨0, [], Nat.zero_le _, rfl, rfl, World.ownsRow_nil WW _ _ 3, All2.nil, Below.refl _ _⟩
        case round =>
          obtain ⟨j, G, hj, rfl, rfl, hown, hup, hbi⟩ := hrel
          obtain ⟨gva, gvc, rfl⟩ := owns_sl hown
          by_cases hjn : j < (F k).n2
          · skip
            have hlen : j < (F k).gs.length := by omega
            obtain ⟨b3, o3, rfl, pg⟩ := GS.at (HGW.out.below hbi) (by omega)
            obtain ⟨p0, p1, p2⟩ := pg j hlen
            have HT := Lib.hid (show (F k).gs.take (j + 1) = (F k).gs.take j ++ [(F k).gs[j]] from List.take_succ_eq_append_getElem hlen)
            clear pg
            generalize (F k).gs[j] = g at p0 p1 p2 HT
            obtain ⟨gw, gg, glv⟩ := g
            simp only at p0 p1 p2
            have zi := hbi.size
            have C0 : (wr.alloc (.cells #[.string gw, .bool gg, .int .i64 glv] 46)).cell? ⟨wr.heap.size, 0, none⟩ = some (.string gw) := by simp [go_sem]
            have C1 : (wr.alloc (.cells #[.string gw, .bool gg, .int .i64 glv] 46)).cell? ⟨wr.heap.size, 1, none⟩ = some (.bool gg) := by simp [go_sem]
            have C2 : (wr.alloc (.cells #[.string gw, .bool gg, .int .i64 glv] 46)).cell? ⟨wr.heap.size, 2, none⟩ = some (.int .i64 glv) := by simp [go_sem]
            have HUP := Lib.hid hup
            have hob := own_base hown
            have zWi : w1.heap.size ≤ WW.heap.size := B1W.size
            clear hup
            go_upto_region 21 with fail
            refine wp_region_held_drew (S := fun w' => w'.cell? ⟨wr.heap.size, 0, none⟩ = some (.string gw) ∧ w'.cell? ⟨wr.heap.size, 1, none⟩ = some (.bool gg) ∧ w'.cell? ⟨wr.heap.size, 2, none⟩ = some (.int .i64 glv) ∧ Below WW.heap.size WW w') (by kernel_rfl) ?_ (fun hHeld => ?_)
            · exact ⟨C0, C1, C2, Below.drew (hbi.alloc zi _)⟩
            (refine rg_y (i := 0) (some 91) (v := ?_) rfl rfl (by kernel_rfl) (by kernel_rfl) (by kernel_rfl) (fun _ _ _ h => h) (by kernel_rfl) ?_ (by assumption) ?_; rotate_left 1; focus (intro w hSw; (try dsimp only at hSw); (first | (go_simp; done) | (go_simp; with_reducible rfl))); (try simp only [Act.put, List.setIfInBounds_toArray, List.set_cons_zero, List.set_cons_succ]))
            (refine rg_y (i := 1) (some 92) (v := ?_) rfl rfl (by kernel_rfl) (by kernel_rfl) (by kernel_rfl) (fun _ _ _ h => h) (by kernel_rfl) ?_ (by assumption) ?_; rotate_left 1; focus (intro w hSw; (try dsimp only at hSw); (first | (go_simp; done) | (go_simp; with_reducible rfl))); (try simp only [Act.put, List.setIfInBounds_toArray, List.set_cons_zero, List.set_cons_succ]))
            (refine rg_y (i := 2) (some 93) (v := ?_) rfl rfl (by kernel_rfl) (by kernel_rfl) (by kernel_rfl) (fun _ _ _ h => h) (by kernel_rfl) ?_ (by assumption) ?_; rotate_left 1; focus (intro w hSw; (try dsimp only at hSw); (first | (go_simp; done) | (go_simp; with_reducible rfl))); (try simp only [Act.put, List.setIfInBounds_toArray, List.set_cons_zero, List.set_cons_succ]))
            (refine rg_y (i := 3) (some 94) (v := ?_) rfl rfl (by kernel_rfl) (by kernel_rfl) (by kernel_rfl) (fun _ _ _ h => h) (by kernel_rfl) ?_ (by assumption) ?_; rotate_left 1; focus (intro w hSw; (try dsimp only at hSw); (first | (go_simp; done) | (go_simp; with_reducible rfl))); (try simp only [Act.put, List.setIfInBounds_toArray, List.set_cons_zero, List.set_cons_succ]))
            (refine rg_y (i := 4) (some 95) (v := ?_) rfl rfl (by kernel_rfl) (by kernel_rfl) (by kernel_rfl) (fun _ _ _ h => h) (by kernel_rfl) ?_ (by assumption) ?_; rotate_left 1; focus (intro w hSw; (try dsimp only at hSw); (first | (go_simp; done) | (go_simp; with_reducible rfl))); (try simp only [Act.put, List.setIfInBounds_toArray, List.set_cons_zero, List.set_cons_succ]))
            (refine rg_y (i := 5) (some 96) (v := ?_) rfl rfl (by kernel_rfl) (by kernel_rfl) (by kernel_rfl) (fun _ _ _ h => h) (by kernel_rfl) ?_ (by assumption) ?_; rotate_left 1; focus (intro w hSw; (try dsimp only at hSw); (first | (go_simp; done) | (go_simp; with_reducible rfl))); (try simp only [Act.put, List.setIfInBounds_toArray, List.set_cons_zero, List.set_cons_succ]))
            (refine rg_y (i := 6) (some 97) (v := ?_) rfl rfl (by kernel_rfl) (by kernel_rfl) (by kernel_rfl) (fun _ _ _ h => h) (by kernel_rfl) ?_ (by assumption) ?_; rotate_left 1; focus (intro w hSw; (try dsimp only at hSw); (first | (go_simp; done) | (go_simp; with_reducible rfl))); (try simp only [Act.put, List.setIfInBounds_toArray, List.set_cons_zero, List.set_cons_succ]))
            (refine rg_y (i := 7) (some 98) (v := ?_) rfl rfl (by kernel_rfl) (by kernel_rfl) (by kernel_rfl) (fun _ _ _ h => h) (by kernel_rfl) ?_ (by assumption) ?_; rotate_left 1; focus (intro w hSw; (try dsimp only at hSw); (first | (go_simp; done) | (go_simp; with_reducible rfl))); (try simp only [Act.put, List.setIfInBounds_toArray, List.set_cons_zero, List.set_cons_succ]))
            (refine rg_y (i := 8) (some 99) (v := ?_) rfl rfl (by kernel_rfl) (by kernel_rfl) (by kernel_rfl) (fun _ _ _ h => h) (by kernel_rfl) ?_ (by assumption) ?_; rotate_left 1; focus (intro w hSw; (try dsimp only at hSw); (first | (go_simp; done) | (go_simp; with_reducible rfl))); (try simp only [Act.put, List.setIfInBounds_toArray, List.set_cons_zero, List.set_cons_succ]))
            (refine wpAnyH_ready (rs := [9]) (by kernel_rfl) (by simp) ?_; refine AllReadyH.cons (o := _) rfl (fun K hK => ?_) AllReadyH.nil)
            go_simp
            (go_at_call 31; (refine (HU.out _ _ _ (by omega) (by omega) (B1W.trans (hHeld.2.2.2.mono zWi))).mono ?_); rintro _ w4 ⟨⟨L2, rfl, hL2⟩, hb4⟩)
            go_wp2_with fail
            refine hK.out _ _ ⟨below_cell hb4 hHeld.1, below_cell hb4 hHeld.2.1, below_cell hb4 hHeld.2.2.1, hHeld.2.2.2.trans (hb4.mono hHeld.2.2.2.size)⟩ (fun hHeld => ?_)
            have hbW : Below wr.heap.size wr w4 := (((Below.refl wr.heap.size wr).alloc (Nat.le_refl _) (.cells #[.string gw, .bool gg, .int .i64 glv] 46)).drew).trans (hb4.mono (by simp))
            have own4 := own_keep hown (fun x hx => hbW.block x (hob x hx).2)
            have z4 := hbW.size
            (clear hK K; (try simp only [Act.put, List.setIfInBounds_toArray, List.set_cons_zero, List.set_cons_succ]))
            (refine rg_y (i := 10) (some 101) (v := ?_) rfl rfl (by kernel_rfl) (by kernel_rfl) (by kernel_rfl) (fun _ _ _ h => h) (by kernel_rfl) ?_ (by assumption) ?_; rotate_left 1; focus (intro w hSw; (try dsimp only at hSw); (first | (go_simp; done) | (go_simp; with_reducible rfl))); (try simp only [Act.put, List.setIfInBounds_toArray, List.set_cons_zero, List.set_cons_succ]))
            (refine wpAnyH_ready (rs := [11]) (by kernel_rfl) (by simp) ?_; refine AllReadyH.cons (o := _) rfl (fun K hK => ?_) AllReadyH.nil)
            go_simp
            have hb5 : Below w4.heap.size w4 (w4.alloc (.cells #[.string gw, .bool gg, .int .i64 L2] 46)) := (Below.refl _ _).alloc (Nat.le_refl _) _
            have own5 := own_keep own4 (fun x hx => hb5.block x (by have := (hob x hx).2; omega))
            refine hK.out _ _ ⟨below_cell hb5 hHeld.1, below_cell hb5 hHeld.2.1, below_cell hb5 hHeld.2.2.1, hHeld.2.2.2.trans (hb5.mono hHeld.2.2.2.size)⟩ (fun hHeld => ?_)
            (clear hK K; (try simp only [Act.put, List.setIfInBounds_toArray, List.set_cons_zero, List.set_cons_succ]))
            (refine wpAnyH_ready (rs := [12]) (by kernel_rfl) (by simp) ?_; refine AllReadyH.cons (o := _) rfl (fun K hK => ?_) AllReadyH.nil)
            refine step_append_lies _ rfl (.tmp 91) (.tmp 102) 25 (by rfl) WW.heap.size 46 _ _ 3 32 Tryz.underlying25 gr_i gr_i0 gr_i1 gr_i2 rfl (by decide) (.slice gva j gvc) j (gv G) (by simp [Act.eval]) own5 ⟨w4.heap.size, 0, none⟩ 1 1 (gv [(gw, gg, L2)]) (by simp [Act.eval]) rfl (gr_news w4 gw gg L2) (gv_one _) (by decide) (by unfold maxLen; omega) (by omega) (by simp; omega) _ rfl ?_
            intro gq gcap w6 hown6 hgrow hat hlt6
            have hne : some wr.heap.size ≠ (Value.slice gva j gvc).ownBlock := fun h => by
              have := (hob _ h.symm).2
              omega
            have hkeep := fun i => World.cell?_of_block (w := w4.alloc (.cells #[.string gw, .bool gg, .int .i64 L2] 46)) (w' := w6) (a := ⟨wr.heap.size, i, none⟩) (hgrow.block wr.heap.size (by have := block_lt_of_cell hHeld.1; simpa using this) hne)
            refine hK.out _ _ ⟨(hkeep 0).trans hHeld.1, (hkeep 1).trans hHeld.2.1, (hkeep 2).trans hHeld.2.2.1, hHeld.2.2.2.grown hgrow hHeld.2.2.2.size (fun q hq => (hob q hq).1)⟩ (fun hHeld => ?_)
            (clear hK K; (try simp only [Act.put, List.setIfInBounds_toArray]))
            (refine rg_y (i := 13) (some 18) (v := ?_) rfl rfl (by kernel_rfl) (by kernel_rfl) (by kernel_rfl) (fun _ _ _ h => h) (by kernel_rfl) ?_ (by assumption) ?_; rotate_left 1; focus (intro w hSw; (try dsimp only at hSw); (first | (go_simp; done) | (go_simp; with_reducible rfl))); (try simp only [Act.put, List.setIfInBounds_toArray, List.set_cons_zero, List.set_cons_succ]))
            refine wpAnyH_done (by kernel_rfl) ?_ _
            go_wp2_with fail
            go_roundw
            case rel => exact ⟨j + 1, G ++ [(gw, gg, L2)], by omega, by go_num, by go_num, by rw [gv_app]; exact hown6, by rw [HT.out]; exact HUP.out.snoc ⟨rfl, rfl, hL2⟩, hHeld.2.2.2⟩
            case measure => simp [intOf]; omega
          · skip
            obtain rfl : j = (F k).n2 := by omega
            have hup' : All2 UpG (F k).gs G := by rw [List.take_of_length_le (by omega)] at hup; exact hup
            obtain ⟨C3, Z3, H3, R3, B3, K3, R4⟩ := ta_st2 (.slice gva (F k).n2 gvc) H0 H1 R1' BW zWW hbi
            have hone2 := vals_one ({ (F k).e with lev := L } : En) (.slice b1 (F k).n1 d1) (.slice gva (F k).n2 gvc) rfl rfl
            have hG : G.length = (F k).n2 := by rw [← hup'.length]; exact hgl
            have hgs0 : GS wr (.slice gva (F k).n2 gvc) G := gs_of_cells (by omega) (by rw [hG]; exact own_cells hown)
            have zi := hbi.size
            have hob := own_base hown
            have hoh := own_base HI1.out.own
            generalize hvv : ({ (F k).e with lev := L } : En).vals (.slice b1 (F k).n1 d1) (.slice gva (F k).n2 gvc) = c33 at hone2 R3
            have hvz : c33.size = 33 := by rw [← hvv]; exact vals_size _ _ _
            have HQ33 := Lib.hid hvv
            clear hvv
            have B4 := B3 c33
            have R5 := R4 c33
            have zW6 : ((wr.setCell ⟨wo.heap.size + 1, 32, none⟩ (.slice gva (F k).n2 gvc)).setRow wo.heap.size c33).heap.size = wr.heap.size := by simp
            have hgs6 : GS ((wr.setCell ⟨wo.heap.size + 1, 32, none⟩ (.slice gva (F k).n2 gvc)).setRow wo.heap.size c33) (.slice gva (F k).n2 gvc) G := hgs0.keep (wo.heap.size + 2) (fun q hq => by have := (hob q hq).1; omega) (by rw [zW6]; exact Nat.le_refl _) (fun q h1 h2 => K3 c33 q h1 h2)
            have HI6 := Lib.hid (HI1.out.below (B4.alloc B4.size (.cells c33 27)))
            have HCS6 := Lib.hid (cs_one (X := (wr.setCell ⟨wo.heap.size + 1, 32, none⟩ (.slice gva (F k).n2 gvc)).setRow wo.heap.size c33) (cs := c33) (t := 27) (q := wr.heap.size) zW6 hvz)
            have HGE6 : Hid (GE (((wr.setCell ⟨wo.heap.size + 1, 32, none⟩ (.slice gva (F k).n2 gvc)).setRow wo.heap.size c33).alloc (.cells c33 27)) (Value.slice hva k hvc).ownBlock c33 ⟨{ (F k).e with lev := L }, (F k).n1, (F k).n2, G⟩) := Lib.hid ⟨b1, d1, gva, gvc, HQ33.out.symm, hn1k, s1, hG, hgs6.below ((Below.refl _ _).alloc (Nat.le_refl _) _), fun _ q hq => ⟨fun e => by have := (hoh q e).2; have := (hob q hq).1; omega, by have := (hob q hq).2; simp; omega⟩⟩
            have HRI : Hid (Rise (F k) ⟨{ (F k).e with lev := L }, (F k).n1, (F k).n2, G⟩) := Lib.hid ⟨rfl, rfl, fun _ => ⟨rfl, ⟨L, HL.out, rfl⟩, hup'⟩⟩
            clear hgs0 hgs6 B3 K3 R4 hup hup' hown hob hoh
            have z6 : w1.heap.size ≤ wr.heap.size := by omega
            go_wp2_with (first | (with_reducible refine bld_guard 42 ?_; refine wpList_bldEnt _ (by rfl) rfl rfl hvz ?_) | (at_builtin; refine wp_appX _ rfl (.tmp 110) (.tmp 112) 42 27 _ _ 33 336 rfl Tryz.underlying42 en_i en_i0 en_i1 en_i2 (vals_size _ _ _) (by decide) w1.heap.size (.slice hva k hvc) (.slice (some ⟨wr.heap.size, 0, none⟩) 1 1) k 1 (ec rows) c33.toList rfl HI6.out.own rfl HCS6.out (all1 hone2) (by unfold maxLen; omega) (by omega) (by simp; omega) ?_; intro ha hc w5 hown5 hg5 hat5; have HI7 := Lib.hid (HI6.out.snoc hown5 hg5 hat5 HRI.out hvz hone2 HGE6.out); clear hown5 hg5 hat5))
            go_roundw
            case rel => exact ⟨k + 1, m + (F k).n2 + 1, _, _, by omega, by go_num, by go_num, by omega, ok_next HOK.out ⟨s0, s1⟩, HI7.out⟩
            case measure => simp [intOf]; omega
      · have f8 : ((F k).e.kind == 4) = false := by rw [beq_eq_false_iff_ne]; exact hk4
        have bA : Below wr.heap.size wr ((wr.alloc (.cells ((F k).e.vals (.slice b1 (F k).n1 d1) (.slice b2 (F k).n2 d2)) 27)).alloc (.cells ((F k).e.vals (.slice b1 (F k).n1 d1) (.slice b2 (F k).n2 d2)) 27)) := by (repeat (first | exact Below.refl _ _ | assumption | (refine Below.drew ?_) | (refine Below.alloc ?_ (by first | (simp; done) | (simp; omega) | omega) _) | (refine Below.setCell ?_ (by first | (simp; done) | (simp; omega) | omega) _)))
        have HI5 := HI1.out.below bA
        have hcs := cs_one (X := wr.alloc (.cells ((F k).e.vals (.slice b1 (F k).n1 d1) (.slice b2 (F k).n2 d2)) 27)) (cs := ((F k).e.vals (.slice b1 (F k).n1 d1) (.slice b2 (F k).n2 d2))) (t := 27) (q := wr.heap.size + 1) (by simp) (vals_size _ _ _)
        have HI5' := Lib.hid HI5
        have HCS := Lib.hid hcs
        clear HI5 hcs bA
        go_wp2_with (first | (with_reducible refine bld_guard 42 ?_; refine wpList_bldEnt _ (by rfl) rfl rfl (vals_size _ _ _) ?_) | (at_builtin; refine wp_appX _ rfl (.tmp 110) (.tmp 112) 42 27 _ _ 33 336 rfl Tryz.underlying42 en_i en_i0 en_i1 en_i2 (vals_size _ _ _) (by decide) w1.heap.size (.slice hva k hvc) (.slice (some ⟨wr.heap.size + 1, 0, none⟩) 1 1) k 1 (ec rows) ((F k).e.vals (.slice b1 (F k).n1 d1) (.slice b2 (F k).n2 d2)).toList rfl HI5'.out.own rfl HCS.out (all1 hone) (by unfold maxLen; omega) (by omega) (by simp; omega) ?_; intro ha hc w5 hown hg hat; have HI6 := Lib.hid (HI5'.out.snoc (x := F k) hown hg hat ⟨rfl, rfl, fun h => absurd h hk4⟩ (vals_size _ _ _) hone (HGE.out.keep (by simp; omega) (fun q hq _ => (by (repeat (first | exact Below.refl _ _ | assumption | (refine Below.drew ?_) | (refine Below.alloc ?_ (by first | (simp; done) | (simp; omega) | omega) _) | (refine Below.setCell ?_ (by first | (simp; done) | (simp; omega) | omega) _))) : Below wr.heap.size wr ((wr.alloc (.cells ((F k).e.vals (.slice b1 (F k).n1 d1) (.slice b2 (F k).n2 d2)) 27)).alloc (.cells ((F k).e.vals (.slice b1 (F k).n1 d1) (.slice b2 (F k).n2 d2)) 27))).block q hq) _ (.inl rfl))); clear hown hg hat))
        go_roundw
        case rel => exact ⟨k + 1, m + 1, H ++ [F k], rows ++ [((F k).e.vals (.slice b1 (F k).n1 d1) (.slice b2 (F k).n2 d2))], by omega, by go_num, by go_num, by omega, ok_next HOK.out ⟨s0, s1⟩, HI6.out⟩
        case measure => simp [intOf]; omega
    · obtain rfl : k = n := by omega
      obtain ⟨ha, hc, Gf, hhe, hES2, hlst, hG12⟩ := HI1.out.es (by omega)
      cases hhe
      have hle := rise_lvl HI1.out.up u gl name
      rw [← hlst] at hle
      have hF60 : ∀ j, j < k → (F j).e.name.size ≤ 60 ∧ (F j).n2 ≤ 1000 := fun j hj => ⟨(HOK.out j hj).1, by have := (HOK.out j hj).2; omega⟩
      have hG60 : ∀ j, j < k → (Gf j).e.name.size ≤ 60 ∧ (Gf j).n2 ≤ 1000 := fun j hj => by
        have hr := HI1.out.up.at j (F j) (Gf j) (by unfold lst; rw [List.getElem?_map, List.getElem?_range hj]; rfl) (by rw [← hlst]; unfold lst; rw [List.getElem?_map, List.getElem?_range hj]; rfl)
        refine ⟨by rw [hr.2.1]; exact (HOK.out j hj).1, ?_⟩
        have := hG12 j hj
        omega
      have hL1 := fun W (b : Below w.heap.size w W) => ac_level a k c F u name (.slice ga gl.length gc) gl W (hm.below b) (HES.out.below b) (by omega) hF60 (HGL.out.below b)
      have hL2 := fun W (b : Below wr.heap.size wr W) => ac_level hva k hvc Gf u name (.slice ga gl.length gc) gl W (hm.below (bt Bw b)) (hES2.below b) (by omega) hG60 (HGL.out.below (bt Bw b))
      have hMt := fun W (b : Below w.heap.size w W) => ds_match e.name name W (hm.below b)
      have hL3 := fun (hM : Ds.match_ (Ds.bl e.name) (Ds.bl name) = false) W a' c' (hE : ES W a' (1 + k) (fun j => match j with | 0 => (⟨e, n1, gs.length, gs⟩ : Ef) | j + 1 => F j)) (b : Below w.heap.size w W) => (lvl_more ⟨e, n1, gs.length, gs⟩ (lst F k) u gl name hM) ▸ (lst_cons F ⟨e, n1, gs.length, gs⟩ k) ▸ ac_level a' (1 + k) c' (fun j => match j with | 0 => (⟨e, n1, gs.length, gs⟩ : Ef) | j + 1 => F j) u name (.slice ga gl.length gc) gl W (hm.below b) hE (by omega) (fun j hj => by cases j with | zero => exact ⟨q4, by show gs.length ≤ 1000; omega⟩ | succ j => exact hF60 j (by omega)) (HGL.out.below b)
      generalize lvl (lst F k) u gl name = A at hle hL1 hL3
      generalize lvl (lst Gf k) u gl name = A2 at hle hL2
      have f9 : decide (A2 < A) = false := by rw [decide_eq_false_iff_not]; omega
      obtain ⟨rows0, hcs0, hl0, hz0, ho0, hr0⟩ := HES.out.all (c := c)
      have HCS0 := Lib.hid hcs0
      have HR0 := Lib.hid hr0
      have HZ0 := Lib.hid hz0
      have HO0 := Lib.hid ho0
      have HL1 := Lib.hid hL1
      have HL2 := Lib.hid hL2
      have HL3 := Lib.hid hL3
      have hone := vals_one e (.slice a1 n1 c1) (.slice a2 gs.length c2) rfl rfl
      have R4 := row_below (HI1.out.bel) R1 (by simp [vals_size])
      have m4 := cell_row R4 1 _ (vals_1 e _ _)
      clear hL1 hL2 hL3 hcs0 hr0 hz0 ho0 hle hES2 hlst hG12 hF60 hG60
      cases hM : Ds.match_ (Ds.bl e.name) (Ds.bl name)
      · rw [hM] at hMt
        have HMt := Lib.hid hMt
        have HL4 := Lib.hid (HL3.out hM)
        clear hMt hM HL3
        go_wp2_with (first
          | (go_at_call 32; have z8 := B8; clear z8; (refine (HL4.out _ _ _ HE8.out B8).mono ?_); rintro _ w9 ⟨rfl, hb⟩; have B9 := bt B8 hb; clear hb)
          | (go_at_call 32; have z5 := B5; clear z5; (refine (HL2.out _ B5).mono ?_); rintro _ w6 ⟨rfl, hb⟩; have B6 := bt B5 hb; have R6 := row_below hb R5 (by simp [vals_size]); have m6 := cell_row R6 1 _ (vals_1 e _ _); clear hb)
          | (go_at_call 32; (refine (HL1.out _ Bw).mono ?_); rintro _ w5 ⟨rfl, hb⟩; have B5 := hb; have R5 := row_below hb R4 (by simp [vals_size]); have m5 := cell_row R5 1 _ (vals_1 e _ _); clear hb)
          | (go_at_call 33; (refine (HMt.out _ (bt Bw B6)).mono ?_); rintro _ w7 ⟨rfl, hb⟩; have B7 := bt B6 hb; have R7 := row_below hb R6 (by simp [vals_size]); clear hb)
          | (with_reducible refine bld_guard 42 ?_; refine wpList_bldEnt _ (by rfl) rfl rfl (vals_size _ _ _) ?_)
          | (at_builtin; refine guard_off2 (by rfl) ?_; refine wp_appX _ rfl (.tmp 133) (.tmp 134) 42 27 _ _ 33 336 rfl Tryz.underlying42 en_i en_i0 en_i1 en_i2 (vals_size _ _ _) (by decide) w7.heap.size (.slice (some ⟨w7.heap.size, 0, none⟩) 1 1) (.slice a k c) 1 k (e.vals (.slice a1 n1 c1) (.slice a2 gs.length c2)).toList (ec rows0) rfl (own_one rfl (vals_size _ _ _)) rfl (HCS0.out.below ((bt Bw B7).alloc (bt Bw B7).size _)) (ec_one rows0 HZ0.out HO0.out) (by unfold maxLen; omega) (by omega) (by simp) ?_; intro ha8 hc8 w8 hown8 hg8 _; have B8 : Below w.heap.size w w8 := (((bt Bw B7).alloc (bt Bw B7).size _).grown hg8 (by have := (bt Bw B7).size; simp; omega) (fun q hq => by cases hq; exact (bt Bw B7).size)); have HE8 := Lib.hid (es_cons (x := ⟨e, n1, gs.length, gs⟩) hown8 hl0 HZ0.out hn1 (by show gs.length ≤ _; omega) ⟨rfl, HGS.out.below B8⟩ (by omega) HES.out B8 HR0.out); clear hown8 hg8))
        go_ret
        exact ⟨rfl, B9⟩
      · rw [hM] at hMt
        have HMt := Lib.hid hMt
        clear hMt hM HL3
        go_wp2_with (first
          | (go_at_call 32; have z5 := B5; clear z5; (refine (HL2.out _ B5).mono ?_); rintro _ w6 ⟨rfl, hb⟩; have B6 := bt B5 hb; have R6 := row_below hb R5 (by simp [vals_size]); have m6 := cell_row R6 1 _ (vals_1 e _ _); clear hb)
          | (go_at_call 32; (refine (HL1.out _ Bw).mono ?_); rintro _ w5 ⟨rfl, hb⟩; have B5 := hb; have R5 := row_below hb R4 (by simp [vals_size]); have m5 := cell_row R5 1 _ (vals_1 e _ _); clear hb)
          | (go_at_call 33; (refine (HMt.out _ (bt Bw B6)).mono ?_); rintro _ w7 ⟨rfl, hb⟩; have B7 := bt B6 hb; clear hb))
        go_ret
        exact ⟨rfl, bt Bw B7⟩
theorem law_access_any (a : Option Addr) (n c : Nat) (F : Nat → Ef) (ar : Option Addr) (nr cr : Nat) (u : ByteArray) (ga : Option Addr) (gn gc : Nat) (name : ByteArray) (e : En) (a1 : Option Addr) (n1 c1 : Nat) (a2 : Option Addr) (n2 c2 : Nat) (w : World) (hm : MaxL w) (hT : Tab w) (hES : ES w a n F) (hBS : BS w ar nr) (hgn : gn ≤ 1000 → ∃ l : List ByteArray, l.length = gn ∧ SS w (.slice ga gn gc) l) (hn1 : n1 ≤ 9223372036854775807) (hgs : n2 ≤ 1000 → ∃ l : List Gr, l.length = n2 ∧ GS w (.slice a2 n2 c2) l) :
    Calls Tryz.prog 6 #[.slice a n c, .slice ar nr cr, .string u, .slice ga gn gc, .string name, .agg (e.vals (.slice a1 n1 c1) (.slice a2 n2 c2))] w fun r w' => r = .returned (.bool true) ∧ Below w.heap.size w w' := by
  by_cases hall : n ≤ 10 ∧ gn ≤ 6 ∧ name.size ≤ 60 ∧ u.size ≤ 60 ∧ e.name.size ≤ 60 ∧ n2 ≤ 12
  · obtain ⟨gl, rfl, hgl⟩ := hgn (by omega)
    obtain ⟨gs, rfl, hg⟩ := hgs (by omega)
    exact law_access F a n c ar nr cr u ga gc gl name e a1 n1 c1 a2 c2 gs w hm hT hES hBS hgl hn1 hg hall.1 hall.2.1 hall.2.2.1 hall.2.2.2.1 hall.2.2.2.2.1 hall.2.2.2.2.2
  · exact ta_few a n c ar nr cr u ga gn gc name e a1 n1 c1 a2 n2 c2 w hm hT hall
end Go.Proofs.YtfmjeppajpiekaaGreatDoor

end
