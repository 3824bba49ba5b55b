/- Happened before, plain: edges, what is reached by them, and clocks. No condition. -/
import Derived.Test.YtmjmdncdmmcmaaaGf
namespace Go.Proofs.Ytmjmdncdmmcmaaa
set_option linter.unusedVariables false
set_option linter.unusedSimpArgs false
set_option linter.unusedSectionVars false

/-- the key of a point -/
abbrev key (a : Nat × Int) : Int × Int := ((a.1 : Int), a.2)
/-- an edge, backwards: the event before it in its process, or the one that sent what it received -/
def Pred (p : Pat) (x y : Nat × Int) : Prop := (0 < x.2 ∧ y = (x.1, x.2 - 1)) ∨ srcF p.arcs (key x) = some y
inductive Reach (p : Pat) (x : Nat × Int) : Nat × Int → Prop
  | refl : Reach p x x
  | step {y z : Nat × Int} : Reach p x y → Pred p y z → Reach p x z
section
variable {p : Pat} {x y z a b : Nat × Int}
theorem src_arc (h : srcF p.arcs (key x) = some y) : ∃ r ∈ p.arcs, r.to = x.1 ∧ r.at_ = x.2 ∧ x.2 ≠ 0 ∧ y = (r.fr, r.ix) := srcF_some h
theorem arc_src (hg : Good p) {r : Arc} (hr : r ∈ p.arcs) (h0 : r.at_ ≠ 0) : srcF p.arcs (key (r.to, r.at_)) = some (r.fr, r.ix) := by
  cases hs : srcF p.arcs (key (r.to, r.at_)) with
  | none => exact absurd rfl (srcF_none (q := r.to) (k := r.at_) hs h0 r hr rfl)
  | some s =>
    obtain ⟨t, ht, hto, hat, _, rfl⟩ := srcF_some (q := r.to) (k := r.at_) hs
    obtain ⟨i, hi, rfl⟩ := List.getElem_of_mem hr
    obtain ⟨j, hj, rfl⟩ := List.getElem_of_mem ht
    rcases Nat.lt_trichotomy i j with hlt | rfl | hlt
    · exact absurd (hg.uniq i j hi hj hlt hto.symm hat.symm) h0
    · rfl
    · exact absurd (hg.uniq j i hj hi hlt hto hat) (by rw [hat]; exact h0)
end

/-- the search: s is seen, l is to be looked at; e is being looked at -/
structure Dfs (p : Pat) (b : Nat × Int) (s : Int × Int → Bool) (l : List (Nat × Int)) (e : Option (Nat × Int)) : Prop where
  ok : ∀ x ∈ l, PtOk p x ∧ Reach p b x
  sb : s (key b) = true
  re : ∀ x : Nat × Int, s (key x) = true → Reach p b x
  cl : ∀ x : Nat × Int, s (key x) = true → x ∉ l → some x ≠ e → ∀ y, Pred p x y → s (key y) = true
end Go.Proofs.Ytmjmdncdmmcmaaa
