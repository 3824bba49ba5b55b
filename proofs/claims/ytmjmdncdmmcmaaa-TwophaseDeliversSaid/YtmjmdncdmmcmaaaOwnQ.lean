/- Rows of a call as data; data that grows. No condition. -/
import Derived.Test.YtmjmdncdmmcmaaaGc
import Derived.Test.YtmjmdncdmmcmaaaGa
namespace Go.Proofs.Ytmjmdncdmmcmaaa
open Go.RowKit
set_option linter.unusedVariables false
set_option linter.unusedSimpArgs false
set_option linter.unusedSectionVars false

theorem RI.atNS {S : Nat → Prop} {w : World} {A : Option Addr} {xs : List Int} (h : RI S w A xs) {k : Nat} (hk : k < xs.length) : ∃ b o, A = some ⟨b, o, none⟩ ∧ S b ∧ w.cell? ⟨b, o + k, none⟩ = some (.int .i64 (nth xs k)) := by
  rw [nth_eq hk]; exact h.atS hk
theorem RI.fc {T : Nat → Prop} {u : World} {A : Option Addr} {xs : List Int} (h : RI T u A xs) {k : Nat} (hk : k < xs.length) : ∃ b o, A = some ⟨b, o, none⟩ ∧ FC T u b (o + k) (.int .i64 (nth xs k)) :=
  let ⟨b, o, e, hs, hc⟩ := h.atNS hk; ⟨b, o, e, hs, hc⟩
theorem Into.orNew {S : Nat → Prop} {w w' : World} (h : Ext w w') : Into S (fun k => S k ∨ w.heap.size ≤ k) w w' := fun k hs hk => ⟨.inl hs, h.block k hk⟩
abbrev Orn (S : Nat → Prop) (w : World) : Nat → Prop := fun k => S k ∨ w.heap.size ≤ k
abbrev capOk (n c : Nat) : Prop := n ≤ c ∧ c ≤ 9223372036854775807
theorem St.rvNew {w0 w : World} {cs : List (Chunk w0 NoM)} {f : Chunk w0 NoM → List (Chunk w0 NoM)} {e : TypeId} {A : Option Addr} {k c n sz : Nat} {vs : List Value} {S : Nat → Prop} (h : St w0 NoM cs w) [hp : PickL A cs k c e sz n vs f] : RV (Orn S w0) w A vs := by
  have h' : St w0 NoM (f (row (.slice A k c) e sz n vs)) w := hp.eq ▸ h
  obtain ⟨l, r, he⟩ := hp.gap.ex
  rw [he] at h'
  have ho := own_rebase (base := w0.heap.size) h'.mem (fun k' hk => (h'.new (row (.slice A k c) e sz n vs) (by simp) k' hk).resolve_right id)
  obtain ⟨A', c', hv, _⟩ := own_form ho
  injection hv with h1 h2 h3
  subst h2
  exact (RV.ofOwn ho).sub (fun b hb => .inr hb)
theorem St.riNew {w0 w : World} {cs : List (Chunk w0 NoM)} {f : Chunk w0 NoM → List (Chunk w0 NoM)} {e : TypeId} {A : Option Addr} {k c n : Nat} {xs : List Int} {S : Nat → Prop} (h : St w0 NoM cs w) [hp : PickL A cs k c e 1 n (ints xs) f] : RI (Orn S w0) w A xs := h.rvNew (hp := hp)
section
variable {w0 w u : World} {M T : Nat → Prop} {cs : List (Chunk w0 M)} {f : Chunk w0 M → List (Chunk w0 M)}
end
/-- a call makes data, beside what is data already -/
theorem St.grow2 {w0 w w' u : World} {M T : Nat → Prop} {cs : List (Chunk w0 M)} {f : Chunk w0 M → List (Chunk w0 M)} (h : St w0 M cs w) [hp : PickF cs T u f] (hx : Ext w w') :
    ∃ N : Nat → Prop, St w0 M (froz N w' :: cs) w' ∧ Into (Orn T w) (fun k => N k ∨ T k) w' w' ∧ Into T T u w' := by
  refine ⟨_, h.frozNew hx, fun k hk hl => ⟨?_, rfl⟩, fun k hk hl => ⟨hk, ?_⟩⟩
  · rcases hk with hk | hk
    · exact .inr hk
    · exact .inl ⟨hk, hl⟩
  · have h1 := (hp.eq ▸ h : St w0 M (f (froz T u)) w).at_ hp.gap k hk
    exact (hx.block k h1.1).trans h1.2
section
variable {w0 w u u' : World} {M T N : Nat → Prop} {cs : List (Chunk w0 M)} {f1 f2 : Chunk w0 M → List (Chunk w0 M)}
theorem St.both (h : St w0 M cs w) [hk : PickK (froz N u') cs f1] [hp : PickF (f1 nop) T u f2] : St w0 M (froz N u' :: f2 (froz T u)) w := by
  have h' : St w0 M (f1 (froz N u')) w := hk.eq ▸ h
  obtain ⟨s, h1, h2⟩ := gap_perm hk.gap (froz N u')
  have h3 : St w0 M (nop :: froz N u' :: s) w := (h'.perm h1).emp
  have h4 : St w0 M (froz N u' :: nop :: s) w := h3.perm (List.Perm.swap _ _ _)
  have h5 : St w0 M (froz N u' :: f1 nop) w := h4.perm ((h2 nop).cons _)
  rw [hp.eq] at h5
  exact h5
/-- what was said of data made by a call, beside older data, holds now -/
theorem St.intoBoth (h : St w0 M cs w) [hk : PickK (froz N u') cs f1] [hp : PickF (f1 nop) T u f2] (hi : Into T T u u') : Into (fun k => N k ∨ T k) (fun k => N k ∨ T k) u' w := by
  have hb := h.both (f1 := f1) (f2 := f2) (N := N) (u' := u') (T := T) (u := u)
  have hn := hb.head
  obtain ⟨l, r, he⟩ := hp.gap.ex
  have ht : (froz T u : Chunk w0 M).ok w := hb.all _ (by rw [he]; simp)
  intro k hk hl
  refine ⟨hk, ?_⟩
  rcases hk with hk | hk
  · exact (hn k hk).2
  · have h1 := ht k hk
    have hlt : k < u.heap.size := by
      have : u.heap[k]? = some w.heap[k] := h1.2.symm.trans (Array.getElem?_eq_getElem h1.1)
      exact lt_of_block this
    exact h1.2.trans ((hi k hk hlt).2).symm
theorem St.merge (h : St w0 M cs w) (N : Nat → Prop) (u' : World) [hk : PickK (froz N u') cs f1] [hp : PickF (f1 nop) T u f2] (hi : Into T T u u') : ∃ T1 : Nat → Prop, St w0 M (f2 (froz T1 w)) w ∧ Into T T1 u w ∧ Into (fun k => N k ∨ T k) T1 u' w := by
  have hb := h.both (f1 := f1) (f2 := f2) (N := N) (u' := u') (T := T) (u := u)
  have hin := h.intoBoth (f1 := f1) (f2 := f2) (N := N) (u' := u') (T := T) (u := u) hi
  have hpf : PickF (f2 (froz T u)) T u f2 := ⟨rfl, hp.gap⟩
  have hf := St.freeze (hp := hpf) hb
  refine ⟨_, hf, fun k hk hl => ⟨.inr hk, ?_⟩, fun k hk hl => ⟨hk, (hin k hk hl).2⟩⟩
  obtain ⟨l, r, he⟩ := hp.gap.ex
  exact (hb.all (froz T u) (by rw [he]; simp) k hk).2
end
/-- a call adds data to data -/
theorem St.grow {w0 w w' u : World} {M T : Nat → Prop} {cs : List (Chunk w0 M)} {f : Chunk w0 M → List (Chunk w0 M)} (h : St w0 M cs w) [hp : PickF cs T u f] (hx : Ext w w') :
    ∃ T' : Nat → Prop, St w0 M (f (froz T' w')) w' ∧ Into (Orn T w) T' w' w' ∧ Into T T' u w' := by
  refine ⟨_, h.frozGrow hx, fun k hk hl => ⟨?_, rfl⟩, fun k hk hl => ⟨.inr hk, ?_⟩⟩
  · rcases hk with hk | hk
    · exact .inr hk
    · exact .inl ⟨hk, hl⟩
  · have h1 := (hp.eq ▸ h : St w0 M (f (froz T u)) w).at_ hp.gap k hk
    exact (hx.block k h1.1).trans h1.2
end Go.Proofs.Ytmjmdncdmmcmaaa
