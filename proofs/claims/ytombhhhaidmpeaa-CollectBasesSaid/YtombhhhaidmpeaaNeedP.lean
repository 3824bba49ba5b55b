/- Recovery lines and needed checkpoints as plain functions. No condition. -/
import Derived.Test.YtombhhhaidmpeaaLineP
namespace Go.Proofs.Ytombhhhaidmpeaa
set_option linter.unusedVariables false
set_option linter.unusedSimpArgs false

open Classical in
/-- the recovery line of a failure -/
noncomputable def lineOf (p : Pat) (F : List Nat) : List Int := if h : ∃ y, IsLine p (alF p F) y then Classical.choose h else []
section
variable {p r : Pat} {F G : List Nat} {y : List Int} {q : Nat} {k : Int}
theorem lineOf_is (hg : Good p) (F : List Nat) : IsLine p (alF p F) (lineOf p F) := by
  have h := line_ex (alF_ok hg F) hg
  rw [lineOf, dif_pos h]
  exact Classical.choose_spec h
theorem lineOf_eq (hg : Good p) (h : IsLine p (alF p F) y) : y = lineOf p F := h.unique (lineOf_is hg F)
theorem lineOf_len (hg : Good p) (F : List Nat) : (lineOf p F).length = p.len.length := (valid_iff.1 (lineOf_is hg F).v).1
theorem lineOf_bd (hg : Good p) (F : List Nat) (hq : q < p.len.length) : 0 ≤ nth (lineOf p F) q ∧ nth (lineOf p F) q ≤ nth p.len q := (valid_iff.1 (lineOf_is hg F).v).2 q hq
theorem alF_congr (h : ∀ q, q < p.len.length → (q ∈ F ↔ q ∈ G)) : alF p F = alF p G := by
  refine List.map_congr_left fun q hq => ?_
  rw [List.mem_range] at hq
  have h1 := h q hq
  unfold alRow
  by_cases hF : q ∈ F
  · rw [if_pos (.inl hF), if_pos (.inl (h1.1 hF))]
  · have hG : q ∉ G := fun h2 => hF (h1.2 h2)
    simp only [hF, hG, false_or]
/-- checkpoint k of process q is an element of the line of a single failure -/
noncomputable def needB (p : Pat) (q : Nat) (k : Int) : Bool := (List.range p.len.length).any fun f => nth (lineOf p [f]) q == k
theorem needB_iff (hg : Good p) : needB p q k = true ↔ Need p q k := by
  unfold needB Need
  rw [List.any_eq_true]
  constructor
  · rintro ⟨f, hf, h⟩
    exact ⟨f, List.mem_range.1 hf, _, lineOf_is hg [f], by simpa using h⟩
  · rintro ⟨f, hf, y, hy, h⟩
    exact ⟨f, List.mem_range.2 hf, by rw [← lineOf_eq hg hy]; simpa using h⟩
noncomputable def needRow (p : Pat) (q : Nat) : List Int := (rowOf p.ck q).filter (needB p q)
/-- the needed checkpoints -/
noncomputable def needL (p : Pat) : List (List Int) := (List.range p.len.length).map (needRow p)
theorem needL_len (p : Pat) : (needL p).length = p.len.length := by simp [needL]
theorem needL_row (hq : q < p.len.length) : rowOf (needL p) q = needRow p q := by rw [rowOf_eq (by rw [needL_len]; exact hq)]; simp [needL]
theorem needL_take (hq : q < p.len.length) : (needL p).take (q + 1) = (needL p).take q ++ [needRow p q] := by
  rw [List.take_succ_eq_append_getElem (by rw [needL_len]; exact hq)]
  simp [needL]
end
end Go.Proofs.Ytombhhhaidmpeaa
