/- A family of rows that a call owns, elements of any size: one may be taken out, and put back. No condition. -/
import Derived.Test.YtmjmdncdmmcmaaaGc
namespace Go.Proofs.Ytmjmdncdmmcmaaa
open Go.RowKit
set_option linter.unusedVariables false
set_option linter.unusedSimpArgs false
set_option linter.unusedSectionVars false

/-- a row: the slice, its length, its cells -/
abbrev RwD := Value × Nat × List Value
abbrev RwD.ok (w : World) (e : TypeId) (sz : Nat) (r : RwD) : Prop := w.ownsRow 0 e sz r.1 r.2.1 r.2.2
def Apart2 (r s : RwD) : Prop := ∀ k, r.1.ownBlock = some k → s.1.ownBlock ≠ some k
def fam2 {w0 : World} {M : Nat → Prop} (e : TypeId) (sz : Nat) (rs : List RwD) : Chunk w0 M :=
  ⟨fun k => ∃ r ∈ rs, r.1.ownBlock = some k, fun w => (∀ r ∈ rs, r.ok w e sz) ∧ rs.Pairwise Apart2,
   fun {w w'} h hk => ⟨fun r hr => own_of_block (h.1 r hr) (fun k e => hk k (.inl ⟨r, hr, e⟩)), h.2⟩,
   fun {w k} h e => by obtain ⟨r, hr, e⟩ := e; exact own_lt (h.1 r hr) _ e⟩
def nilR2 : RwD := (.slice none 0 0, 0, [])
theorem own_rv {w : World} {e : TypeId} {A : Option Addr} {k c n sz : Nat} {vs : List Value} (ho : w.ownsRow 0 e sz (.slice A k c) n vs) : RV (fun b => (Value.slice A k c).ownBlock = some b) w A vs := by
  intro j x hx
  have hj : j < vs.length := (List.getElem?_eq_some_iff.1 hx).1
  have hn : 0 < n := by
    rcases Nat.eq_zero_or_pos n with h0 | h0
    · have := ho.1; rw [h0, Nat.zero_mul] at this; omega
    · exact h0
  obtain ⟨g, c', hv, _⟩ := own_some ho hn
  injection hv with h1 h2 h3
  subst h1 h2 h3
  have h4 := ho.cells (g := g) rfl j x hx
  rw [add_mk] at h4
  exact ⟨g, 0, rfl, rfl, h4⟩
section
variable {w0 w : World} {M : Nat → Prop} {cs : List (Chunk w0 M)} {e : TypeId} {sz n : Nat} {rs : List RwD} {v : Value} {vs : List Value}
theorem St.fam2Nil (h : St w0 M cs w) (e : TypeId) (sz : Nat) : St w0 M (fam2 e sz [] :: cs) w := h.add (Ext.refl' w) ⟨by simp, by simp⟩ (fun k h => by obtain ⟨_, h, _⟩ := h; simp at h)
theorem St.fam2Snoc (h : St w0 M (row v e sz n vs :: fam2 e sz rs :: cs) w) : St w0 M (fam2 e sz (rs ++ [(v, n, vs)]) :: cs) w := by
  have hj := h.join
  refine hj.upd (Keep.refl _ _) ⟨fun r hr => ?_, ?_⟩ (fun k hk => .inl ?_)
  · rcases List.mem_append.1 hr with hr | hr
    · exact hj.head.2.1.1 r hr
    · rw [List.mem_singleton.1 hr]; exact hj.head.1
  · refine List.pairwise_append.2 ⟨hj.head.2.1.2, by simp, fun r hr s hs k h1 h2 => ?_⟩
    rw [List.mem_singleton.1 hs] at h2
    exact hj.head.2.2 k h2 ⟨r, hr, h1⟩
  · obtain ⟨r, hr, h1⟩ := hk
    rcases List.mem_append.1 hr with hr | hr
    · exact .inr ⟨r, hr, h1⟩
    · rw [List.mem_singleton.1 hr] at h1; exact .inl h1
theorem St.fam2Take {j : Nat} (h : St w0 M (fam2 e sz rs :: cs) w) (hj : rs[j]? = some (v, n, vs)) : St w0 M (row v e sz n vs :: fam2 e sz (rs.set j nilR2) :: cs) w := by
  have hm : (v, n, vs) ∈ rs := List.mem_of_getElem? hj
  obtain ⟨hjl, hje⟩ := List.getElem?_eq_some_iff.1 hj
  have hset : ∀ r ∈ rs.set j nilR2, r ∈ rs ∨ r = nilR2 := fun r hr => by
    rcases List.mem_or_eq_of_mem_set hr with h | h
    · exact .inl h
    · exact .inr h
  have hap : ∀ r ∈ rs.set j nilR2, ∀ k, r.1.ownBlock = some k → ¬ v.ownBlock = some k := by
    intro r hr k h1 h2
    obtain ⟨i, hi, rfl⟩ := List.getElem_of_mem hr
    rw [List.getElem_set] at h1
    split at h1
    · simp [nilR2, Value.ownBlock] at h1
    · rename_i hne
      have hil : i < rs.length := by simpa using hi
      rcases Nat.lt_or_gt_of_ne hne with hlt | hlt
      · exact (List.pairwise_iff_getElem.1 h.head.2 j i hjl hil hlt) k (by rw [hje]; exact h2) h1
      · exact (List.pairwise_iff_getElem.1 h.head.2 i j hil hjl hlt) k h1 (by rw [hje]; exact h2)
  have hp : St w0 M (pair (row v e sz n vs) (fam2 e sz (rs.set j nilR2)) :: cs) w := by
    refine h.upd (Keep.refl _ _) ⟨h.head.1 _ hm, ⟨fun r hr => ?_, ?_⟩, fun k h1 h2 => ?_⟩ (fun k hk => .inl ?_)
    · rcases hset r hr with h1 | rfl
      · exact h.head.1 r h1
      · exact ownsRow_nil w 0 e sz
    · rw [List.pairwise_iff_getElem]
      intro a b ha hb hlt
      rw [List.getElem_set, List.getElem_set]
      split
      · intro k hk; simp [nilR2, Value.ownBlock] at hk
      · split
        · intro k _; simp [nilR2, Value.ownBlock]
        · exact List.pairwise_iff_getElem.1 h.head.2 a b (by simpa using ha) (by simpa using hb) hlt
    · obtain ⟨r, hr, h2⟩ := h2
      exact hap r hr k h2 h1
    · rcases hk with hk | ⟨r, hr, hk⟩
      · exact ⟨(v, n, vs), hm, hk⟩
      · rcases hset r hr with h1 | rfl
        · exact ⟨r, h1, hk⟩
        · simp [nilR2, Value.ownBlock] at hk
  exact hp.split
theorem St.fam2Put {j : Nat} (h : St w0 M (row v e sz n vs :: fam2 e sz rs :: cs) w) : St w0 M (fam2 e sz (rs.set j (v, n, vs)) :: cs) w := by
  have hj := h.join
  have hset : ∀ r ∈ rs.set j (v, n, vs), r ∈ rs ∨ r = (v, n, vs) := fun r hr => by
    rcases List.mem_or_eq_of_mem_set hr with h | h
    · exact .inl h
    · exact .inr h
  refine hj.upd (Keep.refl _ _) ⟨fun r hr => ?_, ?_⟩ (fun k hk => .inl ?_)
  · rcases hset r hr with h1 | rfl
    · exact hj.head.2.1.1 r h1
    · exact hj.head.1
  · rw [List.pairwise_iff_getElem]
    intro a b ha hb hlt
    have ha' : a < rs.length := by simpa using ha
    have hb' : b < rs.length := by simpa using hb
    rw [List.getElem_set, List.getElem_set]
    split
    · split
      · omega
      · intro k hk h2
        exact hj.head.2.2 k hk ⟨_, List.getElem_mem hb', h2⟩
    · split
      · intro k hk h2
        exact hj.head.2.2 k h2 ⟨_, List.getElem_mem ha', hk⟩
      · exact List.pairwise_iff_getElem.1 hj.head.2.1.2 a b ha' hb' hlt
  · obtain ⟨r, hr, h1⟩ := hk
    rcases hset r hr with h2 | rfl
    · exact .inr ⟨r, h2, h1⟩
    · exact .inl h1
end
end Go.Proofs.Ytmjmdncdmmcmaaa
