/- What is valid in an entry, in plain words. No program in sight. -/
import Derived.Test.YtfmjeppajpiekaaGreatDoorDs
import Derived.Lib.Slices
namespace Go.Proofs.YtfmjeppajpiekaaGreatDoor.Vp
def word (s : List UInt8) : Bool := Ds.name s && decide ((Ds.pieces s).length = 1)
def own (s : List UInt8) : Bool := s.isEmpty || word s
def rng (lo hi : Int) (ns : List Int) : Bool := ns.all fun n => decide (lo ≤ n) && decide (n ≤ hi)
theorem foldl_min_le (ns : List Int) (z lo : Int) : lo ≤ ns.foldl min z ↔ lo ≤ z ∧ ∀ n ∈ ns, lo ≤ n := by
  induction ns generalizing z with
  | nil => simp
  | cons a r ih =>
    rw [List.foldl_cons, ih]
    constructor
    · rintro ⟨h1, h2⟩
      refine ⟨by omega, fun n hn => ?_⟩
      rcases List.mem_cons.1 hn with rfl | hn
      · omega
      · exact h2 n hn
    · rintro ⟨h1, h2⟩
      have := h2 a (by simp)
      exact ⟨by omega, fun n hn => h2 n (by simp [hn])⟩
theorem foldl_max_le (ns : List Int) (z hi : Int) : ns.foldl max z ≤ hi ↔ z ≤ hi ∧ ∀ n ∈ ns, n ≤ hi := by
  induction ns generalizing z with
  | nil => simp
  | cons a r ih =>
    rw [List.foldl_cons, ih]
    constructor
    · rintro ⟨h1, h2⟩
      refine ⟨by omega, fun n hn => ?_⟩
      rcases List.mem_cons.1 hn with rfl | hn
      · omega
      · exact h2 n hn
    · rintro ⟨h1, h2⟩
      have := h2 a (by simp)
      exact ⟨by omega, fun n hn => h2 n (by simp [hn])⟩
theorem rng_iff (lo hi : Int) (ns : List Int) (h : ns ≠ []) : rng lo hi ns = (decide (lo ≤ Lib.minOf ns) && decide (Lib.maxOf ns ≤ hi)) := by
  unfold Lib.minOf Lib.maxOf rng
  rcases ns with _ | ⟨a, r⟩
  · exact absurd rfl h
  · rw [Bool.eq_iff_iff, Bool.and_eq_true, decide_eq_true_eq, decide_eq_true_eq, foldl_min_le, foldl_max_le, List.all_eq_true]
    simp only [List.headD_cons, Bool.and_eq_true, decide_eq_true_eq]
    constructor
    · intro h1
      exact ⟨⟨(h1 a (by simp)).1, fun n hn => (h1 n hn).1⟩, ⟨(h1 a (by simp)).2, fun n hn => (h1 n hn).2⟩⟩
    · rintro ⟨⟨_, h1⟩, ⟨_, h2⟩⟩ n hn
      exact ⟨h1 n hn, h2 n hn⟩
end Go.Proofs.YtfmjeppajpiekaaGreatDoor.Vp
