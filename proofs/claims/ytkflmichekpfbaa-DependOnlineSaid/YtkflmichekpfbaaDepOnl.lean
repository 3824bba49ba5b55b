/- What Append and Mark add lies behind a pattern. Conditions: the pattern is good. -/
import Derived.Test.YtkflmichekpfbaaGg
import Derived.Test.YtkflmichekpfbaaRappend
import Derived.Test.YtkflmichekpfbaaMark
import Derived.Test.YtkflmichekpfbaaGe
namespace Go.Proofs.Ytkflmichekpfbaa
open Go.RowKit
set_option linter.unusedVariables false
set_option linter.unusedSimpArgs false

theorem app_cases {p : Pat} {m : Nat} (h : Small p m) (hm : m ≤ 24) {q s : Nat} {k : Int} (hq : q < p.len.length) (hs : s < p.len.length) (h0 : 0 ≤ k) (hk : k ≤ nth p.len s) :
    appRes p q s k = if q = s then (noPat, false) else ((p.more q).send ⟨s, k, q, nth p.len q + 1⟩, true) := by
  have h1 := h.ev q hq
  have h2 := h.few
  by_cases e : q = s
  · rw [if_pos e, appRes_no (fun hh => hh.2.2.elim (fun h => by omega) (fun h => h.2.1 (by omega)))]
  · rw [if_neg e, appRes_ok ⟨by omega, by simp; omega, .inr ⟨by omega, by omega, h0, by simpa using hk, by omega⟩⟩]
    rw [appPat, if_neg (by omega)]
    simp
theorem more_len_length (p : Pat) (q : Nat) : (p.more q).len.length = p.len.length := by simp [Pat.more]
theorem longer_app {p : Pat} (hg : Good p) {q s : Nat} {k : Int} (hq : q < p.len.length) : Longer p ((p.more q).send ⟨s, k, q, nth p.len q + 1⟩) := by
  refine ⟨by simp [Pat.send, Pat.more], fun r hr => ?_, fun a ha => by simp [Pat.send, Pat.more, ha], fun a ha => ?_, fun r hr y hy => rfl⟩
  · show nth p.len r ≤ nth (p.more q).len r
    rw [nth_more hq]
    split
    · rename_i e; subst e; omega
    · exact Int.le_refl _
  · simp only [Pat.send, Pat.more, List.mem_append, List.mem_singleton] at ha
    rcases ha with ha | rfl
    · exact .inl ha
    · right; right; simp only; omega
theorem longer_mark {p : Pat} (hg : Good p) {q : Nat} (hq : q < p.len.length) : Longer p (p.mark q) := by
  refine ⟨by rw [Pat.mark_len], fun r hr => by rw [Pat.mark_len]; exact Int.le_refl _, fun a ha => by rw [Pat.mark_arcs]; exact ha, fun a ha => .inl (by rw [Pat.mark_arcs] at ha; exact ha), fun r hr y hy => ?_⟩
  unfold Pat.mark
  split
  · rfl
  · have hqc : q < p.ck.length := by rw [hg.ckl]; exact hq
    have hrc : r < p.ck.length := by rw [hg.ckl]; exact hr
    by_cases e : r = q
    · subst e
      have : rowOf (p.ck.set r (rowOf p.ck r ++ [nth p.len r])) r = rowOf p.ck r ++ [nth p.len r] := by simp [rowOf, hrc]
      show below (rowOf (p.ck.set r (rowOf p.ck r ++ [nth p.len r])) r) y = _
      rw [this, below, List.filter_append]
      simp [below]
      omega
    · have : rowOf (p.ck.set q (rowOf p.ck q ++ [nth p.len q])) r = rowOf p.ck r := by simp [rowOf, List.getElem?_set, Ne.symm e]
      show below (rowOf (p.ck.set q (rowOf p.ck q ++ [nth p.len q])) r) y = _
      rw [this]
end Go.Proofs.Ytkflmichekpfbaa
