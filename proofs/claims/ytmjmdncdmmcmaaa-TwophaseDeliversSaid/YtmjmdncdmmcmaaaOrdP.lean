/- A possible order of all events, plain: the first process whose next event can come. No condition. -/
import Derived.Test.YtmjmdncdmmcmaaaHbPure
namespace Go.Proofs.Ytmjmdncdmmcmaaa
set_option linter.unusedVariables false
set_option linter.unusedSimpArgs false
set_option linter.unusedSectionVars false

/-- what an event received, if anything, was sent within the cut -/
def srcIn (p : Pat) (x : List Int) (a : Nat × Int) : Bool := match srcF p.arcs (key a) with | none => true | some s => decide (s.2 ≤ nth x s.1)
/-- the next event of process q can come behind the cut x -/
def canB (p : Pat) (x : List Int) (q : Nat) : Bool := decide (nth x q < nth p.len q) && srcIn p x (q, nth x q + 1)
/-- the first process that can go on -/
def nextQ (p : Pat) (x : List Int) : Option Nat := (List.range p.len.length).find? (canB p x)
def goOn (x : List Int) (q : Nat) : List Int := x.set q (nth x q + 1)
section
variable {p : Pat}
theorem nextQ_none {x : List Int} : nextQ p x = none ↔ ∀ q, q < p.len.length → canB p x q = false := by
  unfold nextQ
  rw [List.find?_eq_none]
  constructor
  · intro h q hq; simpa using h q (List.mem_range.2 hq)
  · intro h q hq; simpa using h q (List.mem_range.1 hq)
theorem goOn_length (x : List Int) (q : Nat) : (goOn x q).length = x.length := by simp [goOn]
theorem goOn_nth {x : List Int} {q : Nat} (hq : q < x.length) (r : Nat) : nth (goOn x q) r = if q = r then nth x q + 1 else nth x r := nth_set hq _
theorem canB_lt {x : List Int} {q : Nat} (h : canB p x q = true) : nth x q < nth p.len q := by
  simp only [canB, Bool.and_eq_true, decide_eq_true_eq] at h
  exact h.1
/-- where no event can come, all have come -/
theorem all_come (hg : Good p) {x : List Int} (hv : validB p.len x = true) (h : nextQ p x = none) : x = p.len := by
  obtain ⟨rk, N, hr, hN⟩ := hg.rank
  obtain ⟨hl, hb⟩ := valid_iff.1 hv
  have hnone := nextQ_none.1 h
  have key1 : ∀ (f : Nat) (q : Nat), q < p.len.length → nth x q < nth p.len q → rk q (nth x q + 1) < f → False := by
    intro f
    induction f with
    | zero => intro q _ _ h; omega
    | succ f ih =>
      intro q hq hlt hf
      have hc := hnone q hq
      rw [canB, decide_eq_true hlt, Bool.true_and] at hc
      unfold srcIn at hc
      cases hs : srcF p.arcs (key (q, nth x q + 1)) with
      | none => rw [hs] at hc; simp at hc
      | some s =>
        rw [hs] at hc
        simp only [decide_eq_false_iff_not] at hc
        obtain ⟨a, ha, hto, hat, h0, rfl⟩ := src_arc hs
        have ho := hg.arc a ha
        have h1 := hr.2 a ha (by rw [hat]; exact h0)
        simp only at hto hat hc
        rw [hto, hat] at h1
        have h2 := hb a.fr ho.fr
        have h3 := rank_mono hr ho.fr (a.ix - (nth x a.fr + 1)).toNat (nth x a.fr + 1) (by omega) (by have := ho.ix1; omega)
        rw [show nth x a.fr + 1 + ((a.ix - (nth x a.fr + 1)).toNat : Int) = a.ix by omega] at h3
        exact ih a.fr ho.fr (by have := ho.ix1; omega) (by omega)
  refine le_antisymm hl rfl (fun q hq => (hb q hq).2) (fun q hq => ?_)
  by_cases hlt : nth x q < nth p.len q
  · exact (key1 (rk q (nth x q + 1) + 1) q hq hlt (by omega)).elim
  · omega
end
end Go.Proofs.Ytmjmdncdmmcmaaa
