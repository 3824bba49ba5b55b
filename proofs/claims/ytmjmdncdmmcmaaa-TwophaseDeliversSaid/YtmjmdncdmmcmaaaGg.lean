/- Patterns of two processes with one message. No condition. -/
import Derived.Test.YtmjmdncdmmcmaaaGf
namespace Go.Proofs.Ytmjmdncdmmcmaaa
open Go.RowKit
set_option linter.unusedVariables false
set_option linter.unusedSimpArgs false

/-- two processes, one message from the first to the second -/
def onePat (a b : Int) (r0 r1 : List Int) (ix at_ : Int) : Pat := ⟨[a, b], [r0, r1], [⟨0, ix, 1, at_⟩]⟩
theorem two_cases {q : Nat} (h : q < 2) : q = 0 ∨ q = 1 := by omega
theorem onePat_good {a b : Int} {r0 r1 : List Int} {ix at_ : Int} (ha : 0 ≤ a) (ha' : a ≤ 64) (hb : 0 ≤ b) (hb' : b ≤ 64) (h0 : RowOk r0 a) (h1 : RowOk r1 b) (hi : 0 ≤ ix) (hi' : ix ≤ a) (ht : 1 ≤ at_) (ht' : at_ ≤ b) : Good (onePat a b r0 r1 ix at_) := by
  have n0 : nth (onePat a b r0 r1 ix at_).len 0 = a := rfl
  have n1 : nth (onePat a b r0 r1 ix at_).len 1 = b := rfl
  refine ⟨by simp [onePat], by simp [onePat], by simp [onePat], ?_, ?_, ?_, ?_, ?_, by simp [onePat], ⟨fun q k => 100 * q + k.toNat, 1000, ⟨?_, ?_⟩, ?_⟩⟩
  · intro q hq
    rcases two_cases hq with rfl | rfl
    · rw [n0]; exact ha
    · rw [n1]; exact hb
  · intro q hq
    rcases two_cases hq with rfl | rfl
    · rw [n0]; exact ha'
    · rw [n1]; exact hb'
  · intro q hq
    rcases two_cases hq with rfl | rfl
    · exact h0
    · exact h1
  · intro x hx
    simp only [onePat, List.mem_singleton] at hx
    subst hx
    exact ⟨by simp [onePat], by simp [onePat], by simp, hi, hi', by simp only; omega, ht'⟩
  · intro i j hi' hj hlt
    simp [onePat] at hi' hj
    omega
  · intro q hq k hk hk'
    simp only
    omega
  · intro x hx h
    simp only [onePat, List.mem_singleton] at hx
    subst hx
    simp only
    omega
  · intro q hq k hk hk'
    have : q = 0 ∨ q = 1 := two_cases hq
    simp only
    rcases this with rfl | rfl
    · rw [n0] at hk'; omega
    · rw [n1] at hk'; omega
end Go.Proofs.Ytmjmdncdmmcmaaa

