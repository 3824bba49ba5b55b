/- The cells of a pattern that lies in data. No condition. -/
import Derived.Test.YtkflmichekpfbaaFrozLd
import Derived.Test.YtkflmichekpfbaaPatMem
import Derived.Test.YtkflmichekpfbaaCutB
namespace Go.Proofs.Ytkflmichekpfbaa
open Go.RowKit
set_option linter.unusedVariables false
section
variable {T : Nat → Prop} {u : World} {A : Option Addr}
theorem RI.fc {xs : List Int} (h : RI T u A xs) {k : Nat} (hk : k < xs.length) : ∃ b o, A = some ⟨b, o, none⟩ ∧ FC T u b (o + k) (.int .i64 (nth xs k)) :=
  let ⟨b, o, e, hs, hc⟩ := h.atNS hk; ⟨b, o, e, hs, hc⟩
theorem RR.fc {ls : List (List Int)} (h : RR T u A ls) {k : Nat} (hk : k < ls.length) : ∃ b o B c, A = some ⟨b, o, none⟩ ∧ FC T u b (o + k) (.slice B (rowOf ls k).length c) ∧ RI T u B (rowOf ls k) ∧ (rowOf ls k).length ≤ c ∧ c ≤ 9223372036854775807 := by
  obtain ⟨vs, hv, hr⟩ := h
  obtain ⟨cs, hcl, ⟨B, c, rfl, hc1, hc2, hri⟩, hcs⟩ := hr.at_ hk
  have h0 := hcs 0 (by omega)
  simp only [List.getElem?_cons_zero, Nat.mul_one, Nat.add_zero] at h0
  obtain ⟨b, o, e, ht, hc⟩ := hv k _ h0
  rw [rowOf_eq hk]
  exact ⟨b, o, B, c, e, ⟨ht, hc⟩, hri, hc1, hc2⟩
theorem RA.fcs {az : List Arc} (h : RA T u A az) {k : Nat} (hk : k < az.length) : ∃ b o, A = some ⟨b, o, none⟩ ∧ FCs T u b (o + k * 4) (arcCells az[k]) := by
  obtain ⟨vs, hv, hr⟩ := h
  obtain ⟨cs, hcl, hcs, hat⟩ := hr.at_ hk
  unfold repArc at hcs
  subst hcs
  have h0 := hat 0 (by omega)
  obtain ⟨b, o, e, ht, _⟩ := hv (k * 4 + 0) _ (h0.trans (by simp [arcCells]; rfl))
  refine ⟨b, o, e, ht, fun i x hi => ?_⟩
  have hi4 : i < 4 := by
    have := (List.getElem?_eq_some_iff.1 hi).1
    simpa [arcCells] using this
  obtain ⟨b', o', e', _, hc⟩ := hv (k * 4 + i) x ((hat i hi4).trans hi)
  rw [e] at e'
  injection e' with e'; injection e' with e1 e2
  subst e1; subst e2
  rw [Nat.add_assoc]; exact hc
end
end Go.Proofs.Ytkflmichekpfbaa
