/- Rolling keeps a group valid; the reference's Roll, in plain words. -/
import Derived.Test.YtbkbgkicpfbjfaaGreatDoorRsE
namespace Go.Proofs.YtbkbgkicpfbjfaaGreatDoor
namespace Ge
theorem inc_mono : ∀ (l : List Int) (b b' m : Int), b ≤ b' → inc b' l m = true → inc b l m = true
  | [], _, _, _, _, _ => rfl
  | n :: r, b, b', m, hb, h => by
    simp only [inc, Bool.and_eq_true, decide_eq_true_eq] at h ⊢
    exact ⟨⟨by omega, h.1.2⟩, h.2⟩
theorem inc_app : ∀ (l : List Int) (b m n : Int), inc b l m = true → m < n → b ≤ m → inc b (l ++ [n]) n = true
  | [], b, m, n, _, h1, h2 => by
    simp only [List.nil_append, inc, Bool.and_eq_true, decide_eq_true_eq]
    exact ⟨⟨by omega, by omega⟩, trivial⟩
  | x :: r, b, m, n, h, h1, h2 => by
    simp only [inc, Bool.and_eq_true, decide_eq_true_eq] at h
    simp only [List.cons_append, inc, Bool.and_eq_true, decide_eq_true_eq]
    exact ⟨⟨h.1.1, by omega⟩, inc_app r x m n h.2 h1 h.1.2⟩
theorem inc_drop : ∀ (c : Nat) (l : List Int) (b m : Int), inc b l m = true → inc b (l.drop c) m = true
  | 0, l, b, m, h => by simpa using h
  | c + 1, [], b, m, h => by simpa using h
  | c + 1, x :: r, b, m, h => by
    simp only [inc, Bool.and_eq_true, decide_eq_true_eq] at h
    rw [List.drop_succ_cons]
    exact inc_drop c r b m (inc_mono r b x m (by omega) h.2)
theorem inc_stays (lim : Int) (em : Bool) (now : List Int) (m n : Int) (h : inc 0 now m = true) (h0 : 0 ≤ m) (h1 : m < n) : inc 0 (stays lim em now n) n = true := by
  unfold stays
  exact inc_drop _ _ _ _ (inc_app now 0 m n h h1 h0)
end Ge
theorem ok_step (e : En) (l2 : List Int) (g2 : List Gr) (now : List Int) (m n : Int) (h : okE ({ e with last := m } : En) l2 g2 now = true) (h1 : m < n) (h2 : n ≤ 9999) : okE ({ e with last := n } : En) l2 g2 (Ge.stays e.lim e.em now n) = true := by
  have h0 := (ok_bounds _ _ _ _ h).2.2.2.1
  simp only at h0
  rw [ok_ref] at h ⊢
  simp only [Bool.and_eq_true, decide_eq_true_eq] at h ⊢
  refine ⟨⟨h.1.1, ?_⟩, Ge.inc_stays _ _ _ _ _ h.2 h0 h1⟩
  have hg := h.1.2
  rw [okG_ref] at hg ⊢
  unfold grpR at hg ⊢
  simp only [Bool.and_eq_true, decide_eq_true_eq] at hg ⊢
  obtain ⟨hs, ⟨⟨⟨⟨⟨a1, a2⟩, a3⟩, a4⟩, a5⟩, a6⟩⟩ := hg
  refine ⟨?_, ⟨⟨⟨⟨⟨a1, a2⟩, a3⟩, by omega⟩, by omega⟩, a6⟩⟩
  unfold sameE onlyG at hs ⊢
  simp only [Bool.and_eq_true, beq_self_eq_true, and_true, true_and] at hs ⊢
  unfold datEq En.zero at hs ⊢
  exact hs
end Go.Proofs.YtbkbgkicpfbjfaaGreatDoor
