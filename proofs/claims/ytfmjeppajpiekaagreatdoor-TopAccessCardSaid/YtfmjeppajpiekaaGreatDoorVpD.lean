/- What is valid in a data set and in a profile, in plain words. No program in sight. -/
import Derived.Test.YtfmjeppajpiekaaGreatDoorVp
import Derived.Test.YtfmjeppajpiekaaGreatDoorCal
import Derived.Test.YtfmjeppajpiekaaGreatDoorEc
namespace Go.Proofs.YtfmjeppajpiekaaGreatDoor
namespace Vp
/-- the i-th alternate is a number, greater than the one ahead of it -/
def altAt (l : List Int) (i : Nat) : Bool := decide (1 ≤ l.getD i 0) && decide (l.getD i 0 ≤ 1099511627776) && (decide (i = 0) || decide (l.getD (i - 1) 0 < l.getD i 0))
def alts (l : List Int) : Bool := Ds.rest (altAt l) (List.range l.length) 0
def days (l : List Int) : Bool := l.all Cal.isDay
def dat (e : En) (l : List Int) : Bool := alts l && (rng 0 1099511627776 [e.d3, e.d4, e.d5, e.d6, e.d7, e.d8, e.d9, e.d10, e.d11, e.d12, e.d13] && (rng 1 1099511627776 [e.d0] && (rng 0 3 [e.d1] && (rng 0 2 [e.d2] && (rng 0 3 [e.cls] && (own (Ds.bl e.vol) && (own (Ds.bl e.own) && (days [e.cr, e.ex, e.used] && decide (l.length ≤ 4)))))))))
def gk (g : Gr) : ByteArray × Bool := (g.1, g.2.1)
/-- is it among them? -/
def among (k : ByteArray × Bool) (ks : List (ByteArray × Bool)) : Bool := ks.any fun a => decide (k = a)
/-- the i-th grant: for one qualifier, of a level, and for nobody ahead of it -/
def grAt (l : List Gr) (i : Nat) : Bool := match l[i]? with
  | some g => word (Ds.bl g.1) && (rng 0 3 [g.2.2] && !among (gk g) ((l.take i).map gk))
  | none => false
def grs (l : List Gr) : Bool := Ds.rest (grAt l) (List.range l.length) 0
def prof (e : En) (g : List Gr) : Bool := grs g && (rng 0 3 [e.lev] && (own (Ds.bl e.owner) && decide (g.length ≤ 8)))
end Vp
theorem among_iff (k : ByteArray × Bool) (ks : List (ByteArray × Bool)) : Vp.among k ks = true ↔ k ∈ ks := by
  unfold Vp.among
  rw [List.any_eq_true]
  constructor
  · rintro ⟨a, ha, he⟩
    rw [of_decide_eq_true he]; exact ha
  · intro h; exact ⟨k, h, decide_eq_true rfl⟩
theorem among_no (k : ByteArray × Bool) (ks : List (ByteArray × Bool)) (h : Vp.among k ks = false) : k ∉ ks := fun hk => by rw [(among_iff k ks).2 hk] at h; cases h
theorem rest_all {G : Nat → Bool} {n : Nat} (h : Ds.rest G (List.range n) 0 = true) : ∀ i, i < n → G i = true := by
  unfold Ds.rest at h
  simpa using h
theorem rng_mem (lo hi : Int) (l : List Int) (h : Vp.rng lo hi l = true) : ∀ n ∈ l, lo ≤ n ∧ n ≤ hi := by
  unfold Vp.rng at h
  simpa using h
theorem word8 (s : List UInt8) (h : Vp.word s = true) : s.length ≤ 8 := by
  unfold Vp.word at h
  rw [Bool.and_eq_true, decide_eq_true_eq] at h
  obtain ⟨h1, h2⟩ := h
  have hj := Ds.join_pieces s
  obtain ⟨q, hq⟩ := List.length_eq_one_iff.1 h2
  rw [hq] at hj
  have hqs : q = s := by simpa [Lib.join] using hj
  have := ((Ds.name_parts s).1 h1).2 q (by rw [hq]; simp)
  rw [← hqs]
  exact Ds.qual_le _ _ _ this
theorem own8 (s : List UInt8) (h : Vp.own s = true) : s.length ≤ 8 := by
  unfold Vp.own at h
  rw [Bool.or_eq_true] at h
  rcases h with h | h
  · rw [List.isEmpty_iff] at h; subst h; simp
  · exact word8 s h
theorem day_bd (n : Int) (h : Cal.isDay n = true) : 0 ≤ n ∧ n ≤ 65536 := (Cal.isDay_iff n).1 h
theorem dat_ok (e : En) (l : List Int) (h : Vp.dat e l = true) : DatOk e l ∧ (e.vol.size ≤ 8 ∧ e.own.size ≤ 8) ∧ e.cls ≤ 3 ∧ e.cr ≤ 65536 ∧ e.ex ≤ 65536 ∧ e.used ≤ 65536 ∧ e.d1 ≤ 3 ∧ e.d2 ≤ 2 := by
  unfold Vp.dat at h
  simp only [Bool.and_eq_true] at h
  obtain ⟨ha, h3, h0, h1, h2, hc, hv, ho, hd, hl⟩ := h
  have a3 := rng_mem _ _ _ h3
  have a0 := rng1 _ _ _ h0
  have a1 := rng1 _ _ _ h1
  have a2 := rng1 _ _ _ h2
  have ac := rng1 _ _ _ hc
  have av := own8 _ hv
  have ao := own8 _ ho
  rw [Ds.bl_length] at av ao
  unfold Vp.days at hd
  rw [List.all_eq_true] at hd
  have d1 := day_bd _ (hd e.cr (by simp))
  have d2 := day_bd _ (hd e.ex (by simp))
  have d3 := day_bd _ (hd e.used (by simp))
  have al : numsOk l := fun n hn => by
    obtain ⟨i, hi, rfl⟩ := List.getElem_of_mem hn
    have := rest_all ha i hi
    unfold Vp.altAt at this
    rw [List.getD_eq_getElem?_getD, List.getElem?_eq_getElem hi, Option.getD_some] at this
    simp only [Bool.and_eq_true, decide_eq_true_eq] at this
    omega
  refine ⟨⟨?_, by omega, by omega, by omega, by omega, by omega, al, of_decide_eq_true hl, by omega⟩, ⟨av, ao⟩, ac.2, d1.2, d2.2, d3.2, a1.2, a2.2⟩
  intro n hn
  simp only [List.mem_cons, List.not_mem_nil, or_false] at a3
  unfold numD at hn
  simp only [List.mem_cons, List.not_mem_nil, or_false] at hn
  rcases hn with hn | hn | hn | hn | hn | hn | hn | hn | hn | hn | hn | hn | hn | hn
  · omega
  · omega
  · omega
  all_goals exact a3 n (by simp [hn])
theorem prof_ok (e : En) (g : List Gr) (h : Vp.prof e g = true) : ProfOk e g ∧ e.lev ≤ 3 ∧ e.owner.size ≤ 8 ∧ ∀ x ∈ g, x.1.size ≤ 8 ∧ x.2.2 ≤ 3 ∧ 0 ≤ x.2.2 := by
  unfold Vp.prof at h
  simp only [Bool.and_eq_true, decide_eq_true_eq] at h
  obtain ⟨hg, hl, ho, h8⟩ := h
  have a1 := rng1 _ _ _ hl
  have ao := own8 _ ho
  rw [Ds.bl_length] at ao
  have q : ∀ x ∈ g, x.1.size ≤ 8 ∧ x.2.2 ≤ 3 ∧ 0 ≤ x.2.2 := fun x hx => by
    obtain ⟨i, hi, rfl⟩ := List.getElem_of_mem hx
    have := rest_all hg i hi
    unfold Vp.grAt at this
    rw [List.getElem?_eq_getElem hi] at this
    simp only [Bool.and_eq_true] at this
    have w := word8 _ this.1
    rw [Ds.bl_length] at w
    have r := rng1 _ _ _ this.2.1
    omega
  exact ⟨⟨by omega, by omega, fun x hx => ⟨by have := q x hx; omega, by have := q x hx; omega⟩, h8⟩, a1.2, ao, q⟩
end Go.Proofs.YtfmjeppajpiekaaGreatDoor
