/- A pattern that goes on: it is later. Conditions: the pattern is good. -/
import Derived.Test.YtombhhhaidmpeaaNeedP
import Derived.Test.YtombhhhaidmpeaaGe
namespace Go.Proofs.Ytombhhhaidmpeaa
set_option linter.unusedVariables false
set_option linter.unusedSimpArgs false

theorem mark_row {r : Pat} (hg : Good r) {q s : Nat} (hq : q < r.len.length) {k : Int} : k ∈ rowOf (r.mark q).ck s ↔ k ∈ rowOf r.ck s ∨ (s = q ∧ k = nth r.len q) := by
  have hqc : q < r.ck.length := by rw [hg.ckl]; exact hq
  unfold Pat.mark
  split
  · rename_i h
    constructor
    · exact .inl
    · rintro (h1 | ⟨h1, h2⟩)
      · exact h1
      · rw [h1, h2]; exact h
  · by_cases e : s = q
    · subst e
      have : rowOf (r.ck.set s (rowOf r.ck s ++ [nth r.len s])) s = rowOf r.ck s ++ [nth r.len s] := by simp [rowOf, hqc]
      rw [show rowOf ({ r with ck := r.ck.set s (rowOf r.ck s ++ [nth r.len s]) } : Pat).ck s = _ from this]
      simp
    · have : rowOf (r.ck.set q (rowOf r.ck q ++ [nth r.len q])) s = rowOf r.ck s := by simp [rowOf, List.getElem?_set, Ne.symm e]
      rw [show rowOf ({ r with ck := r.ck.set q (rowOf r.ck q ++ [nth r.len q]) } : Pat).ck s = _ from this]
      simp [e]
section
variable {p r : Pat} {q s : Nat} {k : Int}
theorem Later.mark (h : Later p r) (hg : Good r) (hq : q < p.len.length) : Later p (r.mark q) := by
  have hqr : q < r.len.length := by rw [h.n]; exact hq
  refine ⟨by rw [Pat.mark_len]; exact h.n, fun t ht => by rw [Pat.mark_len]; exact h.len t ht, fun t ht x hx => (mark_row hg hqr).2 (.inl (h.ck t ht x hx)), fun t ht x hx hlt => ?_, fun a ha => by rw [Pat.mark_arcs]; exact h.arc a ha, fun a ha h0 h1 => by rw [Pat.mark_arcs] at ha; exact h.arn a ha h0 h1⟩
  rcases (mark_row hg hqr).1 hx with h1 | ⟨h1, h2⟩
  · exact h.old t ht x h1 hlt
  · subst h1
    have := h.len t ht
    omega
theorem Later.more (h : Later p r) (hq : q < p.len.length) : Later p (r.more q) := by
  have hqr : q < r.len.length := by rw [h.n]; exact hq
  refine ⟨by rw [Pat.more_length]; exact h.n, fun t ht => ?_, h.ck, h.old, h.arc, h.arn⟩
  rw [nth_more hqr]
  have := h.len t ht
  split
  · rename_i e; subst e; omega
  · exact this
theorem Later.recv (h : Later p r) (hq : q < p.len.length) : Later p ((r.more q).send ⟨s, k, q, nth r.len q + 1⟩) := by
  have h1 := h.more hq
  have h2 := h.len q hq
  refine ⟨h1.n, h1.len, h1.ck, h1.old, fun a ha => by simp [Pat.send, Pat.more, h.arc a ha], fun a ha h0 hle => ?_⟩
  simp only [Pat.send, Pat.more, List.mem_append, List.mem_singleton] at ha
  rcases ha with ha | rfl
  · exact h.arn a ha h0 hle
  · simp only at hle; omega
theorem app_more (hq : q < r.len.length) (hl : nth r.len q < 64) : appRes r q (-1) 0 = (r.more q, true) := by
  rw [appRes_ok ⟨by omega, by simp; omega, .inl rfl⟩]
  simp [appPat]
theorem app_recv (hq : q < r.len.length) (hs : s < r.len.length) (hne : q ≠ s) (hl : nth r.len q < 64) (h0 : 0 ≤ k) (hk : k ≤ nth r.len s) (hf : r.arcs.length < 256) : appRes r q s k = ((r.more q).send ⟨s, k, q, nth r.len q + 1⟩, true) := by
  rw [appRes_ok ⟨by omega, by simp; omega, .inr ⟨by omega, by omega, h0, by simpa using hk, by omega⟩⟩, appPat, if_neg (by omega)]
  simp
/-- no later line has a checkpoint that is not needed now -/
theorem later_in {F : List Nat} (hg : Good p) (hr : Good r) (hl : Later p r) (hF : ∀ f ∈ F, f < p.len.length) (hq : q < p.len.length) (h : nth (lineOf r F) q ∈ rowOf p.ck q) : nth (lineOf r F) q ∈ needRow p q :=
  List.mem_filter.2 ⟨h, (needB_iff hg).2 (forever hg hr hl hF (lineOf_is hr F) hq h)⟩
end
end Go.Proofs.Ytombhhhaidmpeaa
