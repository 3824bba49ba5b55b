/- A possible order of all events, plain: the first process whose next event can come. No condition. -/
import Derived.Test.YtmjmdncdmmcmaaaHbPure
namespace Go.Proofs.Ytmjmdncdmmcmaaa
set_option linter.unusedVariables false
set_option linter.unusedSimpArgs false
set_option linter.unusedSectionVars false

/-- what an event received, if anything, was sent within the cut -/
def srcIn (p : Pat) (x : List Int) (a : Nat × Int) : Bool := match srcF p.arcs (key a) with | none => true | some s => decide (s.2 ≤ nth x s.1)
/-- the next event of process q can come behind the cut x -/
def canB (p : Pat) (x : List Int) (q : Nat) : Bool := decide (nth x q < nth p.len q) && srcIn p x (q, nth x q + 1)
/-- the first process that can go on -/
def nextQ (p : Pat) (x : List Int) : Option Nat := (List.range p.len.length).find? (canB p x)
def goOn (x : List Int) (q : Nat) : List Int := x.set q (nth x q + 1)
/-- the list of events and the cut after n steps -/
def ordSt (p : Pat) : Nat → List (Nat × Int) × List Int
  | 0 => ([], List.replicate p.len.length 0)
  | n + 1 => match nextQ p (ordSt p n).2 with
    | none => ordSt p n
    | some q => ((ordSt p n).1 ++ [(q, nth (ordSt p n).2 q + 1)], goOn (ordSt p n).2 q)
theorem ordSt_some {p : Pat} {n q : Nat} (h : nextQ p (ordSt p n).2 = some q) : ordSt p (n + 1) = ((ordSt p n).1 ++ [(q, nth (ordSt p n).2 q + 1)], goOn (ordSt p n).2 q) := by rw [ordSt, h]
theorem ordSt_none {p : Pat} {n : Nat} (h : nextQ p (ordSt p n).2 = none) : ∀ m, ordSt p (n + m) = ordSt p n
  | 0 => rfl
  | m + 1 => by
    have ih := ordSt_none h m
    rw [← Nat.add_assoc, ordSt, ih, h]
theorem ordSt_end {p : Pat} {n m : Nat} (h : nextQ p (ordSt p n).2 = none) (k : nextQ p (ordSt p m).2 = none) : ordSt p n = ordSt p m := by
  rcases Nat.le_total n m with hle | hle
  · have := ordSt_none h (m - n)
    rw [show n + (m - n) = m by omega] at this
    exact this.symm
  · have := ordSt_none k (n - m)
    rw [show m + (n - m) = n by omega] at this
    exact this
section
variable {p : Pat}
theorem nextQ_some {x : List Int} {q : Nat} (h : nextQ p x = some q) : q < p.len.length ∧ canB p x q = true ∧ ∀ r, r < q → canB p x r = false := by
  unfold nextQ at h
  rw [List.find?_range_eq_some] at h
  exact ⟨List.mem_range.1 h.2.1, h.1, fun r hr => by simpa using h.2.2 r hr⟩
theorem nextQ_none {x : List Int} : nextQ p x = none ↔ ∀ q, q < p.len.length → canB p x q = false := by
  unfold nextQ
  rw [List.find?_eq_none]
  constructor
  · intro h q hq; simpa using h q (List.mem_range.2 hq)
  · intro h q hq; simpa using h q (List.mem_range.1 hq)
theorem nextQ_at {x : List Int} {q : Nat} (hq : q < p.len.length) (h : canB p x q = true) (h' : ∀ r, r < q → canB p x r = false) : nextQ p x = some q := by
  unfold nextQ
  rw [List.find?_range_eq_some]
  exact ⟨h, List.mem_range.2 hq, fun r hr => by simp [h' r hr]⟩
theorem goOn_length (x : List Int) (q : Nat) : (goOn x q).length = x.length := by simp [goOn]
theorem goOn_nth {x : List Int} {q : Nat} (hq : q < x.length) (r : Nat) : nth (goOn x q) r = if q = r then nth x q + 1 else nth x r := nth_set hq _
theorem canB_lt {x : List Int} {q : Nat} (h : canB p x q = true) : nth x q < nth p.len q := by
  simp only [canB, Bool.and_eq_true, decide_eq_true_eq] at h
  exact h.1
theorem ordSt_valid (hg : Good p) : ∀ n, validB p.len (ordSt p n).2 = true
  | 0 => valid_zero hg
  | n + 1 => by
    have ih := ordSt_valid hg n
    cases h : nextQ p (ordSt p n).2 with
    | none => rw [ordSt_none h 1]; exact ih
    | some q =>
      rw [ordSt_some h]
      obtain ⟨hq, hc, _⟩ := nextQ_some h
      obtain ⟨hl, hb⟩ := valid_iff.1 ih
      have hlt := canB_lt hc
      refine valid_iff.2 ⟨by rw [goOn_length, hl], fun r hr => ?_⟩
      have h1 := hb r hr
      rw [goOn_nth (by rw [hl]; exact hq)]
      split
      · rename_i e; subst e; omega
      · exact h1
/-- where no event can come, all have come -/
theorem all_come (hg : Good p) {x : List Int} (hv : validB p.len x = true) (h : nextQ p x = none) : x = p.len := by
  obtain ⟨rk, N, hr, hN⟩ := hg.rank
  obtain ⟨hl, hb⟩ := valid_iff.1 hv
  have hnone := nextQ_none.1 h
  have key1 : ∀ (f : Nat) (q : Nat), q < p.len.length → nth x q < nth p.len q → rk q (nth x q + 1) < f → False := by
    intro f
    induction f with
    | zero => intro q _ _ h; omega
    | succ f ih =>
      intro q hq hlt hf
      have hc := hnone q hq
      rw [canB, decide_eq_true hlt, Bool.true_and] at hc
      unfold srcIn at hc
      cases hs : srcF p.arcs (key (q, nth x q + 1)) with
      | none => rw [hs] at hc; simp at hc
      | some s =>
        rw [hs] at hc
        simp only [decide_eq_false_iff_not] at hc
        obtain ⟨a, ha, hto, hat, h0, rfl⟩ := src_arc hs
        have ho := hg.arc a ha
        have h1 := hr.2 a ha (by rw [hat]; exact h0)
        simp only at hto hat hc
        rw [hto, hat] at h1
        have h2 := hb a.fr ho.fr
        have h3 := rank_mono hr ho.fr (a.ix - (nth x a.fr + 1)).toNat (nth x a.fr + 1) (by omega) (by have := ho.ix1; omega)
        rw [show nth x a.fr + 1 + ((a.ix - (nth x a.fr + 1)).toNat : Int) = a.ix by omega] at h3
        exact ih a.fr ho.fr (by have := ho.ix1; omega) (by omega)
  refine le_antisymm hl rfl (fun q hq => (hb q hq).2) (fun q hq => ?_)
  by_cases hlt : nth x q < nth p.len q
  · exact (key1 (rk q (nth x q + 1) + 1) q hq hlt (by omega)).elim
  · omega
end
end Go.Proofs.Ytmjmdncdmmcmaaa
