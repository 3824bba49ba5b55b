/- The events of a possible order, one by one. No condition. -/
import Derived.Test.YtkflmichekpfbaaOrdP
namespace Go.Proofs.Ytkflmichekpfbaa
set_option linter.unusedVariables false
set_option linter.unusedSimpArgs false

theorem ord_len {p : Pat} : ∀ n, nextQ p (ordSt p n).2 ≠ none → (ordSt p n).1.length = n
  | 0, _ => rfl
  | n + 1, h => by
    cases hn : nextQ p (ordSt p n).2 with
    | none => rw [ordSt_none hn 1] at h; exact absurd hn h
    | some q =>
      have ih := ord_len n (by rw [hn]; simp)
      rw [ordSt_some hn]
      simp [ih]
theorem ord_mono {p : Pat} (n : Nat) : ∀ m, (ordSt p n).1.length ≤ (ordSt p (n + m)).1.length
  | 0 => Nat.le_refl _
  | m + 1 => by
    have ih := ord_mono (p := p) n m
    cases hn : nextQ p (ordSt p (n + m)).2 with
    | none => rw [← Nat.add_assoc, ordSt_none hn 1]; exact ih
    | some q => rw [← Nat.add_assoc, ordSt_some hn]; simp; omega
theorem ord_at {p : Pat} : ∀ (n i : Nat), i < (ordSt p n).1.length → ∃ q, nextQ p (ordSt p i).2 = some q ∧ (ordSt p n).1[i]? = some (q, nth (ordSt p i).2 q + 1)
  | 0, i, h => by simp [ordSt] at h
  | n + 1, i, h => by
    cases hn : nextQ p (ordSt p n).2 with
    | none => rw [ordSt_none hn 1] at h ⊢; exact ord_at n i h
    | some q =>
      have hl := ord_len n (by rw [hn]; simp)
      rw [ordSt_some hn] at h ⊢
      simp only [List.length_append, List.length_singleton, hl] at h
      by_cases hi : i < n
      · obtain ⟨r, h1, h2⟩ := ord_at (p := p) n i (by omega)
        exact ⟨r, h1, by rw [List.getElem?_append_left (by omega)]; exact h2⟩
      · have : i = n := by omega
        subst this
        exact ⟨q, hn, by rw [List.getElem?_append_right (by omega), hl]; simp⟩
theorem ord_end {p : Pat} {n : Nat} {l : List (Nat × Int)} {z : List Int} (h : ordSt p n = (l, z)) (hn : nextQ p z = none) : ordSt p l.length = (l, z) := by
  have h1 : nextQ p (ordSt p n).2 = none := by rw [h]; exact hn
  have h2 : nextQ p (ordSt p l.length).2 = none := by
    cases hs : nextQ p (ordSt p l.length).2 with
    | none => rfl
    | some q =>
      exfalso
      have hl := ord_len l.length (by rw [hs]; simp)
      by_cases hle : n ≤ l.length
      · have := ordSt_none h1 (l.length - n)
        rw [show n + (l.length - n) = l.length by omega] at this
        rw [this, h1] at hs
        cases hs
      · have hm := ord_mono (p := p) (l.length + 1) (n - (l.length + 1))
        rw [show l.length + 1 + (n - (l.length + 1)) = n by omega, ordSt_some hs, h] at hm
        simp [hl] at hm
        omega
  rw [← ordSt_end h1 h2, h]
end Go.Proofs.Ytkflmichekpfbaa
