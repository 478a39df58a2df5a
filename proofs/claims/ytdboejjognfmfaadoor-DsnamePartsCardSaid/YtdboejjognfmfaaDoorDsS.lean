/- Contracts of the reference: Parts. -/
import Derived.Test.YtdboejjognfmfaaDoorDsR
import Derived.Test.YtdboejjognfmfaaDoorKit4
import Derived.RegionTactic
import Derived.Laws.OwnMore
import Derived.OwnWalk
namespace Go.Proofs.YtdboejjognfmfaaDoor
open Go.RowKit
set_option maxHeartbeats 400000
namespace Ds
theorem pieces_le (l : List UInt8) : (pieces l).length ≤ l.length + 1 ∧ ∀ q ∈ pieces l, q.length ≤ l.length := by
  induction l with
  | nil => simp [pieces]
  | cons c r ih =>
    simp only [pieces]
    split
    · refine ⟨by simp; omega, fun q hq => ?_⟩
      rcases List.mem_cons.1 hq with rfl | h
      · simp
      · have := ih.2 q h; simp; omega
    · cases e : pieces r with
      | nil => exact absurd e (pieces_ne r)
      | cons p ps =>
        rw [e] at ih
        refine ⟨by have := ih.1; simp at this ⊢; omega, fun q hq => ?_⟩
        rcases List.mem_cons.1 hq with rfl | h
        · have := ih.2 p (by simp); simp; omega
        · have := ih.2 q (by simp [h]); simp; omega
theorem bl_append (a b : ByteArray) : bl (a ++ b) = bl a ++ bl b := by simp [bl]
theorem bl_one (s : ByteArray) (k : Nat) (h : k < s.size) : bl (s.extract k (k + 1)) = [s[k]] := by
  unfold bl
  rw [Lib.extract_data, show k + 1 - k = 1 from by omega]
  rw [show s.data.toList = bl s from rfl]
  rw [List.drop_eq_getElem_cons (by rw [bl_length]; exact h), List.take_succ_cons, List.take_zero, bl_get s k h]
theorem take_next (s : ByteArray) (k : Nat) (h : k < s.size) : (bl s).take (k + 1) = (bl s).take k ++ [s[k]] := by
  rw [List.take_succ_eq_append_getElem (by rw [bl_length]; exact h), bl_get s k h]
/-- what Parts has gathered: all but the last, and the last -/
def Got (s : ByteArray) (k : Nat) (qs : List ByteArray) (q : ByteArray) : Prop := qs.map bl ++ [bl q] = pieces ((bl s).take k)
theorem Got.start (s : ByteArray) : Got s 0 [] ⟨#[]⟩ := by unfold Got; rfl
theorem Got.dot {s : ByteArray} {k : Nat} {qs : List ByteArray} {q : ByteArray} (h : Got s k qs q) (hk : k < s.size) (hc : s[k] = 46) : Got s (k + 1) (qs ++ [q]) ⟨#[]⟩ := by
  unfold Got at *
  rw [take_next s k hk, pieces_snoc, if_pos hc, ← h]; simp [bl]
theorem Got.more {s : ByteArray} {k : Nat} {qs : List ByteArray} {q : ByteArray} (h : Got s k qs q) (hk : k < s.size) (hc : s[k] ≠ 46) : Got s (k + 1) qs (q ++ s.extract k (k + 1)) := by
  unfold Got at *
  rw [take_next s k hk, pieces_snoc, if_neg hc, ← h, bl_append, bl_one s k hk]; simp
theorem Got.le {s : ByteArray} {k : Nat} {qs : List ByteArray} {q : ByteArray} (h : Got s k qs q) (hk : k ≤ s.size) : qs.length ≤ k ∧ q.size ≤ k := by
  unfold Got at h
  have h1 := pieces_le ((bl s).take k)
  have hl : ((bl s).take k).length = k := by rw [List.length_take, bl_length]; omega
  rw [← h, hl] at h1
  refine ⟨by have := h1.1; simp at this; omega, ?_⟩
  have := h1.2 (bl q) (by simp)
  rwa [bl_length] at this
theorem Got.all {s : ByteArray} {qs : List ByteArray} {q : ByteArray} (h : Got s s.size qs q) : (qs ++ [q]).map bl = pieces (bl s) := by
  unfold Got at h
  rw [List.take_of_length_le (by rw [bl_length]; exact Nat.le_refl _)] at h
  simpa using h
end Ds
theorem strInfo : (Tryd.prog.info? 9).map (fun i => (i.zero, i.size, i.bytes)) = some (some (.string ⟨#[]⟩), 1, 16) := by kernel_rfl
theorem owns_last {w : World} {B g cap : Nat} {qs : List ByteArray} {q : ByteArray} (h : w.ownsRow B 9 1 (.slice (some ⟨g, 0, none⟩) (qs.length + 1) cap) (qs.length + 1) ((qs ++ [q]).map Value.string)) : w.cell? ⟨g, qs.length, none⟩ = some (.string q) := by
  rw [h.cellAt _ (by omega)]; simp
theorem owns_more {w : World} {B g cap : Nat} {qs : List ByteArray} {q r : ByteArray} (h : w.ownsRow B 9 1 (.slice (some ⟨g, 0, none⟩) (qs.length + 1) cap) (qs.length + 1) ((qs ++ [q]).map Value.string)) :
    (w.setCell ⟨g, qs.length, none⟩ (.string r)).ownsRow B 9 1 (.slice (some ⟨g, 0, none⟩) (qs.length + 1) cap) (qs.length + 1) ((qs ++ [r]).map Value.string) := by
  have := (h.stored qs.length (.string r)).1
  simpa [List.set_append] using this
theorem owns_shape {w : World} {B e n : Nat} {v : Value} {xs : List Value} (h : w.ownsRow B e 1 v (n + 1) xs) : ∃ g cap, v = .slice (some ⟨g, 0, none⟩) (n + 1) cap ∧ B ≤ g ∧ g < w.heap.size ∧ n + 1 ≤ cap := by
  rcases h.2 with ⟨_, h'⟩ | ⟨g, cap, cur, rfl, hb, hg, hc, _⟩
  · omega
  · exact ⟨g, cap, rfl, hb, (Array.getElem?_eq_some_iff.1 hg).1, hc⟩
theorem owns_strs {w : World} {B g cap : Nat} {ps : List ByteArray} (h : w.ownsRow B 9 1 (.slice (some ⟨g, 0, none⟩) ps.length cap) ps.length (ps.map Value.string)) : Strs w g ps := fun k hk => by
  rw [h.cellAt k (by omega)]; simp [hk]
theorem rds_parts (s : ByteArray) (w : World) (hs : s.size ≤ 1000) :
    Calls Tryd.prog 38 #[.string s] w fun e w' => ∃ (qs : List ByteArray) (q : ByteArray) (g cap : Nat), (qs ++ [q]).map Ds.bl = Ds.pieces (Ds.bl s) ∧ qs.length ≤ s.size ∧ w.heap.size ≤ g ∧ g < w'.heap.size ∧ e = .returned (.slice (some ⟨g, 0, none⟩) (qs.length + 1) cap) ∧ Strs w' g (qs ++ [q]) ∧ (∀ o, w'.frozen? ⟨g, o, none⟩ = false) ∧ qs.length + 1 ≤ cap ∧ Below w.heap.size w w' := by
  obtain ⟨i0, hi, hz0, hz1, hz2⟩ := info_parts strInfo
  have HI := Lib.hid hi
  have HZ0 := Lib.hid hz0
  have HZ1 := Lib.hid hz1
  have HZ2 := Lib.hid hz2
  clear hi hz0 hz1 hz2
  go_enter Tryd.func38, Tryd.ntmps38
  go_wp2_with fail
  go_loopw [3, 4] (fun v i wr => ∃ (k : Nat) (qs : List ByteArray) (q : ByteArray) (g cap : Nat), k ≤ s.size ∧ i = .int .i64 k ∧ Ds.Got s k qs q ∧ v = .slice (some ⟨g, 0, none⟩) (qs.length + 1) cap ∧ wr.ownsRow w.heap.size 9 1 (.slice (some ⟨g, 0, none⟩) (qs.length + 1) cap) (qs.length + 1) ((qs ++ [q]).map Value.string) ∧ Below w.heap.size w wr) (fun _ i _ => s.size - (intOf i).toNat)
  case atStart => exact ⟨0, [], ⟨#[]⟩, w.heap.size, 1, by omega, rfl, Ds.Got.start s, rfl, World.ownsRow_lit w #[.string ⟨#[]⟩] 1 (Nat.le_refl _) (by unfold maxLen; omega) rfl, by (repeat (first | exact Below.refl _ _ | assumption | (refine Below.drew ?_) | (refine Below.alloc ?_ (by simp) _) | (refine Below.setCell ?_ (by simp) _)))⟩
  case round =>
    obtain ⟨k, qs, q, g, cap, hk, rfl, hG, rfl, hown, B⟩ := hrel
    obtain ⟨hq1, hq2⟩ := hG.le hk
    have HG := Lib.hid hG
    clear hG
    by_cases hlt : k < s.size
    · by_cases hc : s[k] = 46
      · have ec : ((s[k].toNat : Int) == 46) = true := by simp [hc]
        have HC := Lib.hid hc
        clear hc
        go_wp2_with (at_builtin; refine wpList_append_own _ rfl _ _ 27 rfl w.heap.size 9 i0 (.string ⟨#[]⟩) 1 16 Tryd.underlying27 HI.out HZ0.out HZ1.out HZ2.out rfl (by decide) _ _ _ rfl (hown.alloc _) ⟨wr.heap.size, 0, none⟩ 1 1 [.string ⟨#[]⟩] rfl rfl ?c1 ?c2 ?c3 ?c4 ?c5 ?_)
        case c1 =>
          intro j u hj
          match j, hj with
          | 0, hj => simp at hj; subst hj; simp [Addr.add]
        case c2 => intro u hu; simp at hu; subst hu; rfl
        case c3 => unfold maxLen; omega
        case c4 => omega
        case c5 => have := B.size; simp; omega
        intro v' w1 hown' hgrow _
        have hown2 : w1.ownsRow w.heap.size 9 1 v' ((qs ++ [q]).length + 1) (((qs ++ [q]) ++ [(⟨#[]⟩ : ByteArray)]).map Value.string) := by simpa using hown'
        obtain ⟨g', cap', rfl, hg1, hg2, hg3⟩ := owns_shape hown2
        have B2 := (B.alloc B.size (Obj.cells #[Value.string ⟨#[]⟩] 9 (0, 0))).grown hgrow (by have := B.size; simp; omega) (by intro j hj; simp [Value.ownBlock] at hj; subst hj; exact (hown.lt g rfl).1)
        have HO := Lib.hid hown2
        have HB := Lib.hid B2
        have hlen : (qs ++ [q]).length = qs.length + 1 := by simp
        have HL := Lib.hid hlen
        clear hown hown' hown2 hgrow B B2 hlen
        go_wp2_with fail
        go_roundw
        case rel => exact ⟨k + 1, qs ++ [q], ⟨#[]⟩, g', cap', by omega, by go_num, HG.out.dot hlt HC.out, rfl, HO.out, HB.out⟩
        case measure => simp [intOf]; omega
      · have ec : ((s[k].toNat : Int) == 46) = false := by simp; intro h; exact hc (UInt8.toNat_inj.1 (by rw [show (46 : UInt8).toNat = 46 from rfl]; omega))
        have HC := Lib.hid hc
        clear hc
        have c1 := owns_last hown
        have f1 := fun o => hown.frozenAt o
        go_wp2_with fail
        go_region
        have hg := (hown.lt g rfl).1
        have HO := Lib.hid (owns_more (r := q ++ s.extract k (k + 1)) hown).drew
        have HB := Lib.hid (B.setCell (p := ⟨g, qs.length, none⟩) hg (.string (q ++ s.extract k (k + 1)))).drew
        clear hown B c1 f1
        go_wp2_with fail
        go_roundw
        case rel => exact ⟨k + 1, qs, q ++ s.extract k (k + 1), g, cap, by omega, by go_num, HG.out.more hlt HC.out, rfl, HO.out, HB.out⟩
        case measure => simp [intOf]; omega
    · obtain rfl : k = s.size := by omega
      go_wp2_with fail
      go_ret
      obtain ⟨g', cap', e, _, _, hc⟩ := owns_shape hown
      simp only [Value.slice.injEq, true_and] at e
      exact ⟨qs, q, g, cap, HG.out.all, hq1, (hown.lt g rfl).1, (hown.lt g rfl).2, rfl, owns_strs (by simpa using hown), fun o => hown.frozenAt o, by omega, B⟩
end Go.Proofs.YtdboejjognfmfaaDoor
