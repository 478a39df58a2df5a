/- Reading what was written, for a data set and for a profile, in plain words. -/
import Derived.Test.YtfmjeppajpiekaaGreatDoorVaH
import Derived.Test.YtfmjeppajpiekaaGreatDoorFoE
import Derived.Test.YtfmjeppajpiekaaGreatDoorEk
namespace Go.Proofs.YtfmjeppajpiekaaGreatDoor
set_option maxHeartbeats 1600000
set_option maxRecDepth 8000
theorem sq_enc (ns : List Nat) (r : List UInt8) (h : ∀ n ∈ ns, n < 2 ^ 64) : ∀ k, k ≤ ns.length → sq (encs ns ++ r, 0) k = (encs (ns.drop k) ++ r, 0)
  | 0, _ => rfl
  | k + 1, hk => by
    rw [sq, sq_enc ns r h k (by omega), List.drop_eq_getElem_cons (by omega : k < ns.length), encs, List.append_assoc, Rd.num_enc _ _ (h _ (List.getElem_mem _))]
theorem nq_enc (ns : List Nat) (r : List UInt8) (h : ∀ n ∈ ns, n ≤ 1099511627776) (k : Nat) (hk : k < ns.length) : nq (encs ns ++ r, 0) k = (ns[k] : Nat) := by
  have hb : ∀ n ∈ ns, n < 2 ^ 64 := fun n hn => Nat.lt_of_le_of_lt (h n hn) (by decide)
  unfold nq
  rw [sq_enc ns r hb k (by omega), List.drop_eq_getElem_cons hk, encs, List.append_assoc, Rd.num_enc _ _ (hb _ (List.getElem_mem _))]
  simp only
  rw [clip_id _ (h _ (List.getElem_mem _))]
theorem rdN_enc (ns : List Nat) (r : List UInt8) (h : ∀ n ∈ ns, n ≤ 1099511627776) (m : Nat) (hm : m = ns.length) : rdN (encs ns ++ r, 0) m = (ns.map (fun n : Nat => (n : Int)), (r, 0)) := by
  subst hm
  have hb : ∀ n ∈ ns, n < 2 ^ 64 := fun n hn => Nat.lt_of_le_of_lt (h n hn) (by decide)
  refine Prod.ext (List.ext_getElem? fun j => ?_) ?_
  · by_cases hj : j < ns.length
    · rw [rdN_get _ _ j hj, nq_enc ns r h j hj, List.getElem?_map, List.getElem?_eq_getElem hj]; rfl
    · rw [List.getElem?_eq_none (by rw [rdN_len]; omega), List.getElem?_eq_none (by rw [List.length_map]; omega)]
  · show (rdN _ _).2 = _
    rw [rdN_sq, sq_enc ns r hb _ (Nat.le_refl _), List.drop_length]; rfl
/-- numbers that may be stored -/
def numsOk (ns : List Int) : Prop := ∀ n ∈ ns, 0 ≤ n ∧ n ≤ 1099511627776
theorem nums_nat (ns : List Int) (h : numsOk ns) : ∀ n ∈ ns.map Int.toNat, n ≤ 1099511627776 := fun n hn => by
  obtain ⟨x, hx, rfl⟩ := List.mem_map.1 hn
  have := h x hx; omega
theorem nums_back (ns : List Int) (h : numsOk ns) : (ns.map Int.toNat).map (fun n : Nat => (n : Int)) = ns := by
  rw [List.map_map]
  refine (List.map_congr_left fun x hx => ?_).trans (List.map_id _)
  have := h x hx
  show ((x.toNat : Nat) : Int) = id x
  rw [Int.toNat_of_nonneg this.1]; rfl
theorem setD_eq (e f : En) (F : Nat → Int) (h : ∀ k, k < 14 → F k = (numD f).getD k 0) : setD e F = { e with d0 := f.d0, d1 := f.d1, d2 := f.d2, d3 := f.d3, d4 := f.d4, d5 := f.d5, d6 := f.d6, d7 := f.d7, d8 := f.d8, d9 := f.d9, d10 := f.d10, d11 := f.d11, d12 := f.d12, d13 := f.d13 } := by
  unfold setD
  rw [h 0 (by decide), h 1 (by decide), h 2 (by decide), h 3 (by decide), h 4 (by decide), h 5 (by decide), h 6 (by decide), h 7 (by decide), h 8 (by decide), h 9 (by decide), h 10 (by decide), h 11 (by decide), h 12 (by decide), h 13 (by decide)]
  rfl
/-- what is asked of a data set so that it is read as it was written -/
structure DatOk (e : En) (l : List Int) : Prop where
  n : numsOk (numD e)
  c : 0 ≤ e.cls ∧ e.cls ≤ 1099511627776
  v : e.vol.size ≤ 200
  o : e.own.size ≤ 200
  cr : 0 ≤ e.cr ∧ e.cr ≤ 1099511627776
  ex : 0 ≤ e.ex ∧ e.ex ≤ 1099511627776
  nl : numsOk l
  nl4 : l.length ≤ 4
  u : 0 ≤ e.used ∧ e.used ≤ 1099511627776
def bodyDx (e : En) (l : List Int) : List UInt8 := bodyD e l e.cls.toNat e.cr.toNat e.ex.toNat e.used.toNat
theorem cntv_id (m x : Nat) (h : x ≤ m) : cntv m x = x := by unfold cntv; rw [if_neg (by omega)]
theorem rd_bodyD (e : En) (l : List Int) (r : List UInt8) (h : DatOk e l) : rdData ({ En.zero with kind := e.kind, name := e.name } : En) (bodyDx e l ++ r, 0) = (onlyD e, l, (r, 0)) := by
  obtain ⟨hn, hc, hv, ho, hcr, hex, hl, hl4, hu⟩ := h
  have hb := nums_nat _ hn
  have hbl := nums_nat _ hl
  have hz : (numD e).length = 14 := rfl
  obtain ⟨R0, e0⟩ : ∃ R, R = tb e.uq :: (Wi.enc e.cls.toNat ++ (Wi.enc (Ds.bl e.vol).length ++ (Ds.bl e.vol ++ (Wi.enc (Ds.bl e.own).length ++ (Ds.bl e.own ++ (encs [e.cr.toNat, e.ex.toNat] ++ (tb e.ar :: (Wi.enc l.length ++ (encs (l.map Int.toNat) ++ (Wi.enc e.used.toNat ++ r)))))))))) := ⟨_, rfl⟩
  have e1 : bodyDx e l ++ r = encs ((numD e).map Int.toNat) ++ R0 := by
    rw [e0]; unfold bodyDx bodyD; rw [Ds.bl_length, Ds.bl_length]; simp only [List.append_assoc, List.cons_append, List.nil_append]
  have s0 : sq (encs ((numD e).map Int.toNat) ++ R0, 0) 14 = (R0, 0) := by
    rw [sq_enc _ _ (fun n hn => Nat.lt_of_le_of_lt (hb n hn) (by decide)) 14 (by rw [List.length_map, hz]; exact Nat.le_refl _)]
    rfl
  have q0 : setD ({ En.zero with kind := e.kind, name := e.name } : En) (nq (encs ((numD e).map Int.toNat) ++ R0, 0)) = { ({ En.zero with kind := e.kind, name := e.name } : En) with d0 := e.d0, d1 := e.d1, d2 := e.d2, d3 := e.d3, d4 := e.d4, d5 := e.d5, d6 := e.d6, d7 := e.d7, d8 := e.d8, d9 := e.d9, d10 := e.d10, d11 := e.d11, d12 := e.d12, d13 := e.d13 } := by
    refine setD_eq _ e _ fun k hk => ?_
    rw [nq_enc _ R0 hb k (by rw [List.length_map, hz]; exact hk), List.getElem_map, List.getD_eq_getElem?_getD, List.getElem?_eq_getElem (by rw [hz]; exact hk), Option.getD_some, Int.toNat_of_nonneg (hn _ (List.getElem_mem _)).1]
  have m1 : ∀ n ∈ [e.cr.toNat, e.ex.toNat], n ≤ 1099511627776 := fun n hn => by
    rcases (by simpa using hn : n = e.cr.toNat ∨ n = e.ex.toNat) with rfl | rfl <;> omega
  unfold rdData
  rw [e1, s0, q0, e0]
  simp only
  rw [show tb e.uq = (if e.uq then 1 else 0) from rfl, Rd.boo_tb]
  simp only
  rw [Rd.num_enc _ _ (by omega)]
  simp only
  rw [Rd.txt_enc 200 _ _ (by rw [Ds.bl_length]; omega) (by rw [Ds.bl_length]; omega)]
  simp only
  rw [Rd.txt_enc 200 _ _ (by rw [Ds.bl_length]; omega) (by rw [Ds.bl_length]; omega)]
  simp only
  rw [nq_enc _ _ m1 0 (by simp), nq_enc _ _ m1 1 (by simp), sq_enc _ _ (fun n hn => Nat.lt_of_le_of_lt (m1 n hn) (by decide)) 2 (by simp)]
  simp only [List.drop_succ_cons, List.drop_zero, encs, List.nil_append]
  rw [show tb e.ar = (if e.ar then 1 else 0) from rfl, Rd.boo_tb]
  simp only
  rw [Rd.num_enc _ _ (by omega)]
  simp only
  rw [clip_id l.length (by omega), cntv_id 4 _ hl4, rdN_enc _ _ hbl l.length (by rw [List.length_map]), nums_back l hl]
  simp only
  rw [Rd.num_enc _ _ (by omega)]
  simp only
  rw [clip_id _ (by omega), clip_id _ (by omega), Ds.mk_bl, Ds.mk_bl]
  simp only [En.sUq, En.sCls, En.sVol, En.sOwn, En.sCE, En.sAr, En.sUsed, onlyD, En.zero, List.getElem_cons_zero, List.getElem_cons_succ]
  rw [Int.toNat_of_nonneg hc.1, Int.toNat_of_nonneg hcr.1, Int.toNat_of_nonneg hex.1, Int.toNat_of_nonneg hu.1]
/-- the grants of a profile, written -/
def grs : List Gr → List UInt8
  | [] => []
  | x :: r => (Wi.enc x.1.size ++ Ds.bl x.1) ++ ([tb x.2.1] ++ (Wi.enc x.2.2.toNat ++ grs r))
theorem grs_append : ∀ (a b : List Gr), grs (a ++ b) = grs a ++ grs b
  | [], b => rfl
  | n :: a, b => by simp only [List.cons_append, grs, grs_append a b, List.append_assoc, List.nil_append]
def bodyP (e : En) (g : List Gr) : List UInt8 := Wi.enc e.lev.toNat ++ ((Wi.enc e.owner.size ++ Ds.bl e.owner) ++ (Wi.enc g.length ++ grs g))
/-- a grant as it is read, and grants -/
def rdG (s : List UInt8 × Nat) : Gr × (List UInt8 × Nat) :=
  let t := Rd.txt 200 s
  let b := Rd.boo t.2
  let n := Rd.num b.2
  ((⟨t.1.toArray⟩, b.1, ((clip n.1 : Nat) : Int)), n.2)
def rdGs (s : List UInt8 × Nat) : Nat → List Gr × (List UInt8 × Nat)
  | 0 => ([], s)
  | k + 1 => ((rdGs s k).1 ++ [(rdG (rdGs s k).2).1], (rdG (rdGs s k).2).2)
theorem rdGs_len (s : List UInt8 × Nat) : ∀ k, (rdGs s k).1.length = k
  | 0 => rfl
  | k + 1 => by rw [rdGs, List.length_append, rdGs_len s k]; rfl
theorem rdG_len (s : List UInt8 × Nat) : (rdG s).2.1.length ≤ s.1.length :=
  Nat.le_trans (Rd.num_len _) (Nat.le_trans (Rd.boo_len _) (Rd.txt_len 200 s).1)
theorem rdGs_rest (s : List UInt8 × Nat) : ∀ k, (rdGs s k).2.1.length ≤ s.1.length
  | 0 => Nat.le_refl _
  | k + 1 => Nat.le_trans (rdG_len _) (rdGs_rest s k)
def En.sLev (e : En) (x : Int) : En := { e with lev := x }
def En.sOwner (e : En) (x : ByteArray) : En := { e with owner := x }
/-- a profile as it is read -/
def rdProf (e : En) (s : List UInt8 × Nat) : En × List Gr × (List UInt8 × Nat) :=
  let a := Rd.num s
  let t := Rd.txt 200 a.2
  let n := Rd.num t.2
  let l := rdGs n.2 (cntv 8 (clip n.1))
  ((e.sLev (clip a.1)).sOwner ⟨t.1.toArray⟩, l.1, l.2)
structure GrOk (g : Gr) : Prop where
  w : g.1.size ≤ 200
  l : 0 ≤ g.2.2 ∧ g.2.2 ≤ 1099511627776
theorem rdG_enc (g : Gr) (r : List UInt8) (h : GrOk g) : rdG (grs [g] ++ r, 0) = (g, (r, 0)) := by
  have hw := h.w
  have hl := h.l
  obtain ⟨a, b, c⟩ := g
  simp only at hw hl
  have e1 : grs [(a, b, c)] ++ r = Wi.enc (Ds.bl a).length ++ (Ds.bl a ++ (tb b :: (Wi.enc c.toNat ++ r))) := by
    rw [Ds.bl_length]; simp only [grs, List.append_assoc, List.cons_append, List.nil_append]
  unfold rdG
  rw [e1, Rd.txt_enc 200 _ _ (by rw [Ds.bl_length]; omega) (by rw [Ds.bl_length]; omega)]
  simp only
  rw [show tb b = (if b then 1 else 0) from rfl, Rd.boo_tb]
  simp only
  rw [Rd.num_enc _ _ (by omega)]
  simp only
  rw [clip_id _ (by omega), Ds.mk_bl, Int.toNat_of_nonneg hl.1]
theorem rdGs_enc (g : List Gr) (r : List UInt8) (h : ∀ x ∈ g, GrOk x) : ∀ k, k ≤ g.length → rdGs (grs g ++ r, 0) k = (g.take k, (grs (g.drop k) ++ r, 0))
  | 0, _ => rfl
  | k + 1, hk => by
    have hlt : k < g.length := by omega
    have e1 : grs (g.drop k) ++ r = grs [g[k]] ++ (grs (g.drop (k + 1)) ++ r) := by
      rw [List.drop_eq_getElem_cons hlt, show g[k] :: g.drop (k + 1) = [g[k]] ++ g.drop (k + 1) from rfl, grs_append, List.append_assoc]
    rw [rdGs, rdGs_enc g r h k (by omega)]
    simp only
    rw [e1, rdG_enc _ _ (h _ (List.getElem_mem _))]
    simp only
    rw [List.take_succ_eq_append_getElem hlt]
structure ProfOk (e : En) (g : List Gr) : Prop where
  l : 0 ≤ e.lev ∧ e.lev ≤ 1099511627776
  o : e.owner.size ≤ 200
  ng : ∀ x ∈ g, GrOk x
  g8 : g.length ≤ 8
theorem rd_bodyP (e : En) (g : List Gr) (r : List UInt8) (h : ProfOk e g) : rdProf ({ En.zero with kind := e.kind, name := e.name } : En) (bodyP e g ++ r, 0) = (onlyP e, g, (r, 0)) := by
  obtain ⟨hl, ho, hg, h8⟩ := h
  have e1 : bodyP e g ++ r = Wi.enc e.lev.toNat ++ (Wi.enc (Ds.bl e.owner).length ++ (Ds.bl e.owner ++ (Wi.enc g.length ++ (grs g ++ r)))) := by
    unfold bodyP; rw [Ds.bl_length]; simp only [List.append_assoc]
  unfold rdProf
  rw [e1, Rd.num_enc _ _ (by omega)]
  simp only
  rw [Rd.txt_enc 200 _ _ (by rw [Ds.bl_length]; omega) (by rw [Ds.bl_length]; omega)]
  simp only
  rw [Rd.num_enc _ _ (by omega)]
  simp only
  rw [clip_id g.length (by omega), cntv_id 8 _ h8, rdGs_enc g r hg _ (Nat.le_refl _), List.take_length, List.drop_length, clip_id _ (by omega), Ds.mk_bl]
  simp only [En.sLev, En.sOwner, onlyP, grs, List.nil_append]
  rw [Int.toNat_of_nonneg hl.1]
end Go.Proofs.YtfmjeppajpiekaaGreatDoor
