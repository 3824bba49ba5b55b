/- A family of rows that a call owns: one may be taken out, and put back. No condition. -/
import Derived.Test.YtkflmichekpfbaaOrders
namespace Go.Proofs.Ytkflmichekpfbaa
open Go.RowKit
set_option linter.unusedVariables false
set_option linter.unusedSimpArgs false
set_option linter.unusedSectionVars false

/-- a row: the slice, its cells -/
abbrev RowD := Value × List Value
abbrev RowD.ok (w : World) (e : TypeId) (r : RowD) : Prop := w.ownsRow 0 e 1 r.1 r.2.length r.2
def Apart (r s : RowD) : Prop := ∀ k, r.1.ownBlock = some k → s.1.ownBlock ≠ some k
/-- rows of elements of one cell -/
def fam {w0 : World} {M : Nat → Prop} (e : TypeId) (rs : List RowD) : Chunk w0 M :=
  ⟨fun k => ∃ r ∈ rs, r.1.ownBlock = some k, fun w => (∀ r ∈ rs, r.ok w e) ∧ rs.Pairwise Apart,
   fun {w w'} h hk => ⟨fun r hr => own_of_block (h.1 r hr) (fun k e => hk k (.inl ⟨r, hr, e⟩)), h.2⟩,
   fun {w k} h e => by obtain ⟨r, hr, e⟩ := e; exact own_lt (h.1 r hr) _ e⟩
def nilR : RowD := (.slice none 0 0, [])
section
variable {w0 w : World} {M : Nat → Prop} {cs : List (Chunk w0 M)} {e : TypeId} {rs : List RowD} {v : Value} {vs : List Value}
theorem St.famNil (h : St w0 M cs w) (e : TypeId) : St w0 M (fam e [] :: cs) w := h.add (Ext.refl' w) ⟨by simp, by simp⟩ (fun k h => by obtain ⟨_, h, _⟩ := h; simp at h)
theorem St.famSnoc (h : St w0 M (row v e 1 vs.length vs :: fam e rs :: cs) w) : St w0 M (fam e (rs ++ [(v, vs)]) :: cs) w := by
  have hj := h.join
  refine hj.upd (Keep.refl _ _) ⟨fun r hr => ?_, ?_⟩ (fun k hk => .inl ?_)
  · rcases List.mem_append.1 hr with hr | hr
    · exact hj.head.2.1.1 r hr
    · rw [List.mem_singleton.1 hr]; exact hj.head.1
  · refine List.pairwise_append.2 ⟨hj.head.2.1.2, by simp, fun r hr s hs k h1 h2 => ?_⟩
    rw [List.mem_singleton.1 hs] at h2
    exact hj.head.2.2 k h2 ⟨r, hr, h1⟩
  · obtain ⟨r, hr, h1⟩ := hk
    rcases List.mem_append.1 hr with hr | hr
    · exact .inr ⟨r, hr, h1⟩
    · rw [List.mem_singleton.1 hr] at h1; exact .inl h1
theorem St.famTake {j : Nat} (h : St w0 M (fam e rs :: cs) w) (hj : rs[j]? = some (v, vs)) : St w0 M (row v e 1 vs.length vs :: fam e (rs.set j nilR) :: cs) w := by
  have hm : (v, vs) ∈ rs := List.mem_of_getElem? hj
  obtain ⟨hjl, hje⟩ := List.getElem?_eq_some_iff.1 hj
  have hset : ∀ r ∈ rs.set j nilR, r ∈ rs ∨ r = nilR := fun r hr => by
    rcases List.mem_or_eq_of_mem_set hr with h | h
    · exact .inl h
    · exact .inr h
  have hap : ∀ r ∈ rs.set j nilR, ∀ k, r.1.ownBlock = some k → ¬ v.ownBlock = some k := by
    intro r hr k h1 h2
    obtain ⟨i, hi, rfl⟩ := List.getElem_of_mem hr
    rw [List.getElem_set] at h1
    split at h1
    · simp [nilR, Value.ownBlock] at h1
    · rename_i hne
      have hil : i < rs.length := by simpa using hi
      rcases Nat.lt_or_gt_of_ne hne with hlt | hlt
      · exact (List.pairwise_iff_getElem.1 h.head.2 j i hjl hil hlt) k (by rw [hje]; exact h2) h1
      · exact (List.pairwise_iff_getElem.1 h.head.2 i j hil hjl hlt) k h1 (by rw [hje]; exact h2)
  have hp : St w0 M (pair (row v e 1 vs.length vs) (fam e (rs.set j nilR)) :: cs) w := by
    refine h.upd (Keep.refl _ _) ⟨h.head.1 _ hm, ⟨fun r hr => ?_, ?_⟩, fun k h1 h2 => ?_⟩ (fun k hk => .inl ?_)
    · rcases hset r hr with h1 | rfl
      · exact h.head.1 r h1
      · exact ownsRow_nil w 0 e 1
    · rw [List.pairwise_iff_getElem]
      intro a b ha hb hlt
      rw [List.getElem_set, List.getElem_set]
      split
      · intro k hk; simp [nilR, Value.ownBlock] at hk
      · split
        · intro k _; simp [nilR, Value.ownBlock]
        · exact List.pairwise_iff_getElem.1 h.head.2 a b (by simpa using ha) (by simpa using hb) hlt
    · obtain ⟨r, hr, h2⟩ := h2
      exact hap r hr k h2 h1
    · rcases hk with hk | ⟨r, hr, hk⟩
      · exact ⟨(v, vs), hm, hk⟩
      · rcases hset r hr with h1 | rfl
        · exact ⟨r, h1, hk⟩
        · simp [nilR, Value.ownBlock] at hk
  exact hp.split
theorem St.famPut {j : Nat} (h : St w0 M (row v e 1 vs.length vs :: fam e rs :: cs) w) : St w0 M (fam e (rs.set j (v, vs)) :: cs) w := by
  have hj := h.join
  have hset : ∀ r ∈ rs.set j (v, vs), r ∈ rs ∨ r = (v, vs) := fun r hr => by
    rcases List.mem_or_eq_of_mem_set hr with h | h
    · exact .inl h
    · exact .inr h
  refine hj.upd (Keep.refl _ _) ⟨fun r hr => ?_, ?_⟩ (fun k hk => .inl ?_)
  · rcases hset r hr with h1 | rfl
    · exact hj.head.2.1.1 r h1
    · exact hj.head.1
  · rw [List.pairwise_iff_getElem]
    intro a b ha hb hlt
    have ha' : a < rs.length := by simpa using ha
    have hb' : b < rs.length := by simpa using hb
    rw [List.getElem_set, List.getElem_set]
    split
    · split
      · omega
      · intro k hk h2
        exact hj.head.2.2 k hk ⟨_, List.getElem_mem hb', h2⟩
    · split
      · intro k hk h2
        exact hj.head.2.2 k h2 ⟨_, List.getElem_mem ha', hk⟩
      · exact List.pairwise_iff_getElem.1 hj.head.2.1.2 a b ha' hb' hlt
  · obtain ⟨r, hr, h1⟩ := hk
    rcases hset r hr with h2 | rfl
    · exact .inr ⟨r, h2, h1⟩
    · exact .inl h1
end
end Go.Proofs.Ytkflmichekpfbaa
