/- States of a call whose last pieces are a letter. No condition. -/
import Derived.Test.YtmjmdncdmmcmaaaOwnQ
import Derived.Test.YtmjmdncdmmcmaaaFam2
namespace Go.Proofs.Ytmjmdncdmmcmaaa
open Go.RowKit
set_option linter.unusedVariables false
set_option linter.unusedSectionVars false

instance (priority := 20) {w0 : World} {M : Nat → Prop} (cs : List (Chunk w0 M)) : SubC cs cs := ⟨fun _ h => h⟩
instance (priority := 10) {w0 : World} {M : Nat → Prop} (d : Chunk w0 M) (fx cs : List (Chunk w0 M)) [h : SubC fx cs] : SubC fx (d :: cs) := ⟨fun c hc => by simp [h.h c hc]⟩
instance (priority := 20) {w0 : World} {M : Nat → Prop} (cs : List (Chunk w0 M)) : PermC cs cs := ⟨[], by simp⟩
instance (priority := 10) {w0 : World} {M : Nat → Prop} (d : Chunk w0 M) (ds cs : List (Chunk w0 M)) [h : PermC ds cs] : PermC ds (d :: cs) := ⟨by
  obtain ⟨rs, h1⟩ := h.p
  exact ⟨d :: rs, (h1.cons d).trans List.perm_middle.symm⟩⟩
section
variable {w0 w u : World} {M T : Nat → Prop} {cs : List (Chunk w0 M)} {f : Chunk w0 M → List (Chunk w0 M)}
/-- a row becomes data, beside the data -/
theorem St.freezeV {L : Option Addr} {n c sz : Nat} {e : TypeId} {vs : List Value} (h : St w0 M (row (.slice L n c) e sz n vs :: cs) w) [hp : PickF cs T u f] :
    ∃ T' : Nat → Prop, St w0 M (f (froz T' w)) w ∧ Into T T' u w ∧ RV T' w L vs := by
  have hi : Into T T u w := h.frozInto (hp := (inferInstance : PickF (row (.slice L n c) e sz n vs :: cs) T u (fun d => row (.slice L n c) e sz n vs :: f d)))
  have ho : RV (fun b => (Value.slice L n c).ownBlock = some b) w L vs := own_rv h.head
  exact ⟨_, h.freeze, hi.widen (fun k hk => .inr hk), ho.sub (fun k hk => .inl hk)⟩
theorem St.cellB {g j : Nat} {vs : List Value} {t : TypeId} {v : Value} (h : St w0 M cs w) [hp : PickB g cs vs t f] (hj : vs[j]? = some v) : w.cell? ⟨g, j, none⟩ = some v :=
  cell_of_heap ((hp.eq ▸ h : St w0 M (f (blk g vs t)) w).at_ hp.gap : w.heap[g]? = _) (by simpa using hj)
end
end Go.Proofs.Ytmjmdncdmmcmaaa
