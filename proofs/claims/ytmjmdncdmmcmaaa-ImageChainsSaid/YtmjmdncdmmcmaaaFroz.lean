/- Data that a call has made and no longer changes: pieces of memory that are as in an earlier world. No condition. -/
import Derived.Test.YtmjmdncdmmcmaaaDraw
namespace Go.Proofs.Ytmjmdncdmmcmaaa
open Go.RowKit
set_option linter.unusedVariables false
set_option linter.unusedSectionVars false

/-- the blocks of T are as in the world u -/
def froz {w0 : World} {M : Nat → Prop} (T : Nat → Prop) (u : World) : Chunk w0 M :=
  ⟨T, fun w => ∀ k, T k → k < w.heap.size ∧ w.heap[k]? = u.heap[k]?,
   fun {w w'} h hk k ht => by
     have h1 := h k ht
     have h2 := hk k (.inl ht)
     refine ⟨?_, h2.trans h1.2⟩
     have h3 : w'.heap[k]? = some w.heap[k] := h2.trans (Array.getElem?_eq_getElem h1.1)
     exact lt_of_block h3,
   fun h ht => (h _ ht).1⟩
class PickK {w0 : World} {M : Nat → Prop} (c : Chunk w0 M) (cs : List (Chunk w0 M)) (f : outParam (Chunk w0 M → List (Chunk w0 M))) : Prop where
  eq : cs = f c
  gap : Gap f
instance {w0 : World} {M : Nat → Prop} (c : Chunk w0 M) (r : List (Chunk w0 M)) : PickK c (c :: r) (fun c => c :: r) := ⟨rfl, .head r⟩
instance (priority := low) {w0 : World} {M : Nat → Prop} (c d : Chunk w0 M) (r : List (Chunk w0 M)) (f : Chunk w0 M → List (Chunk w0 M)) [h : PickK c r f] : PickK c (d :: r) (fun c => d :: f c) := ⟨by rw [h.eq], .tail d h.gap⟩
/-- the data piece -/
class PickF {w0 : World} {M : Nat → Prop} (cs : List (Chunk w0 M)) (T : outParam (Nat → Prop)) (u : outParam World) (f : outParam (Chunk w0 M → List (Chunk w0 M))) : Prop where
  eq : cs = f (froz T u)
  gap : Gap f
instance {w0 : World} {M : Nat → Prop} (T : Nat → Prop) (u : World) (r : List (Chunk w0 M)) : PickF (froz T u :: r) T u (fun c => c :: r) := ⟨rfl, .head r⟩
instance (priority := low) {w0 : World} {M : Nat → Prop} (T : Nat → Prop) (u : World) (d : Chunk w0 M) (r : List (Chunk w0 M)) (f : Chunk w0 M → List (Chunk w0 M)) [h : PickF r T u f] : PickF (d :: r) T u (fun c => d :: f c) := ⟨by rw [h.eq], .tail d h.gap⟩

section
variable {w0 w w' u : World} {M T : Nat → Prop} {c d : Chunk w0 M} {cs : List (Chunk w0 M)} {f : Chunk w0 M → List (Chunk w0 M)}
theorem St.frozNil (h : St w0 M cs w) : St w0 M (froz (fun _ => False) w :: cs) w := h.add (Ext.refl' w) (fun k h => h.elim) (fun k h => h.elim)
/-- what was said of the data in u holds now -/
theorem St.frozInto (h : St w0 M cs w) [hp : PickF cs T u f] : Into T T u w := fun k hk _ =>
  ⟨hk, ((hp.eq ▸ h : St w0 M (f (froz T u)) w).at_ hp.gap k hk).2⟩
/-- all that a call has made becomes data -/
theorem St.frozNew (h : St w0 M cs w) (hx : Ext w w') : St w0 M (froz (fun k => w.heap.size ≤ k ∧ k < w'.heap.size) w' :: cs) w' := h.add hx (fun k hk => ⟨hk.2, rfl⟩) (fun k hk => hk.1)
theorem St.join (h : St w0 M (c :: d :: cs) w) : St w0 M (pair c d :: cs) w := by
  have hap := List.pairwise_cons.1 h.apart
  have hap2 := List.pairwise_cons.1 hap.2
  refine ⟨h.keep, ?_, ?_, List.pairwise_cons.2 ⟨fun x hx k hk => hk.elim (hap.1 x (by simp [hx]) k) (hap2.1 x hx k), hap2.2⟩⟩
  · intro x hx
    rcases List.mem_cons.1 hx with rfl | hx
    · exact ⟨h.all c (by simp), h.all d (by simp), hap.1 d (by simp)⟩
    · exact h.all x (by simp [hx])
  · intro x hx k hk
    rcases List.mem_cons.1 hx with rfl | hx
    · exact hk.elim (h.new c (by simp) k) (h.new d (by simp) k)
    · exact h.new x (by simp [hx]) k hk
/-- a piece becomes data, beside what is data already -/
theorem St.freeze (h : St w0 M (c :: cs) w) [hp : PickF cs T u f] : St w0 M (f (froz (fun k => c.own k ∨ T k) w)) w := by
  have h' : St w0 M (c :: f (froz T u)) w := hp.eq ▸ h
  obtain ⟨s, h1, h2⟩ := gap_perm hp.gap (froz T u)
  have h3 : St w0 M (c :: froz T u :: s) w := h'.perm (h1.cons c)
  have h4 := h3.join
  have h5 : St w0 M (froz (fun k => c.own k ∨ T k) w :: s) w := h4.upd (Keep.refl _ _) (fun k hk => ⟨(pair c (froz T u)).lt h4.head hk, rfl⟩) (fun k hk => .inl hk)
  exact h5.perm (h2 _)
/-- a call adds data to data -/
theorem St.frozGrow (h : St w0 M cs w) [hp : PickF cs T u f] (hx : Ext w w') : St w0 M (f (froz (fun k => (w.heap.size ≤ k ∧ k < w'.heap.size) ∨ T k) w')) w' := by
  have h' := h.frozNew hx
  have h2 : St w0 M (f (froz (fun k => (froz (w0 := w0) (M := M) (fun k => w.heap.size ≤ k ∧ k < w'.heap.size) w').own k ∨ T k) w')) w' := h'.freeze
  exact h2
end
theorem Into.widen {S S' S'' : Nat → Prop} {w w' : World} (h : Into S S' w w') (hs : ∀ k, S' k → S'' k) : Into S S'' w w' := fun k hk hl => ⟨hs k (h k hk hl).1, (h k hk hl).2⟩
end Go.Proofs.Ytmjmdncdmmcmaaa
