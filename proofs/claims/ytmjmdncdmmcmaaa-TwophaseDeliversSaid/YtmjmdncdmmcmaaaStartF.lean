/- The state of a call whose first piece is old data. No condition. -/
import Derived.Test.YtmjmdncdmmcmaaaOwnQ
import Derived.Test.YtmjmdncdmmcmaaaFam2
namespace Go.Proofs.Ytmjmdncdmmcmaaa
open Go.RowKit
set_option linter.unusedVariables false
set_option linter.unusedSectionVars false

/-- old data as a piece -/
theorem St.startF (w : World) (S : Nat → Prop) : St w (fun k => S k ∧ k < w.heap.size) [froz (fun k => S k ∧ k < w.heap.size) w] w :=
  ⟨Keep.refl _ _, fun c hc => by rw [List.mem_singleton.1 hc]; exact fun k hk => ⟨hk.2, rfl⟩, fun c hc k hk => by rw [List.mem_singleton.1 hc] at hk; exact .inr hk, by simp⟩
theorem RV.here {S : Nat → Prop} {w : World} {A : Option Addr} {vs : List Value} (h : RV S w A vs) : RV (fun k => S k ∧ k < w.heap.size) w A vs := fun j u hu => by
  obtain ⟨b, o, e, hs, hc⟩ := h j u hu
  exact ⟨b, o, e, ⟨hs, lt_of_cell (p := ⟨b, o + j, none⟩) hc⟩, hc⟩
section
variable {w0 w u : World} {S T : Nat → Prop} {cs : List (Chunk w0 (fun k => S k ∧ k < w0.heap.size))} {f : Chunk w0 (fun k => S k ∧ k < w0.heap.size) → List (Chunk w0 (fun k => S k ∧ k < w0.heap.size))}
theorem St.extF (h : St w0 (fun k => S k ∧ k < w0.heap.size) cs w) (hi : Into (fun k => S k ∧ k < w0.heap.size) T w0 w) : Ext w0 w :=
  ⟨h.keep.os, h.keep.tape, h.keep.output, h.keep.size, fun k hk => by
    by_cases hs : S k
    · exact (hi k ⟨hs, hk⟩ hk).2
    · exact h.keep.block k hk (fun h => hs h.1)⟩
theorem St.ornF (h : St w0 (fun k => S k ∧ k < w0.heap.size) cs w) [hp : PickF cs T u f] : Into T (Orn S w0) u w := fun k hk _ => by
  have h' : St w0 (fun k => S k ∧ k < w0.heap.size) (f (froz T u)) w := hp.eq ▸ h
  obtain ⟨l, r, he⟩ := hp.gap.ex
  rw [he] at h'
  refine ⟨?_, (h'.mem k hk).2⟩
  rcases h'.new (froz T u) (by simp) k hk with h1 | h1
  · exact .inr h1
  · exact .inl h1.1
theorem St.rvF {A : Option Addr} {k c n sz : Nat} {e : TypeId} {vs : List Value} (h : St w0 (fun k => S k ∧ k < w0.heap.size) cs w) [hp : PickL A cs k c e sz n vs f] : RV (Orn S w0) w A vs := by
  have h' : St w0 (fun k => S k ∧ k < w0.heap.size) (f (row (.slice A k c) e sz n vs)) w := hp.eq ▸ h
  obtain ⟨l, r, he⟩ := hp.gap.ex
  rw [he] at h'
  refine (own_rv h'.mem).sub (fun b hb => ?_)
  rcases h'.new (row (.slice A k c) e sz n vs) (by simp) b hb with h1 | h1
  · exact .inr h1
  · exact .inl h1.1
end
end Go.Proofs.Ytmjmdncdmmcmaaa
