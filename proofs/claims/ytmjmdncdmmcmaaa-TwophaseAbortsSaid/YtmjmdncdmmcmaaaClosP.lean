/- The closure of the document's answer for chapter 24, in plain words. No condition. -/
import Derived.Test.YtmjmdncdmmcmaaaTwA
import Derived.Test.YtmjmdncdmmcmaaaTwS
namespace Go.Proofs.Ytmjmdncdmmcmaaa
open Go.RowKit Tph
set_option linter.unusedVariables false
set_option linter.unusedSimpArgs false
set_option linter.unusedSectionVars false

/-- how many are not in yet -/
def falN (l : List Bool) : Nat := l.countP (fun b => !b)
theorem falN_set {l : List Bool} {k : Nat} (h : k < l.length) (h0 : opOf l k = false) : falN (l.set k true) + 1 = falN l := by
  unfold falN
  induction l generalizing k with
  | nil => simp at h
  | cons b l ih =>
    cases k with
    | zero =>
      have : b = false := by simpa [opOf] using h0
      subst this
      simp
    | succ k =>
      rw [List.set_cons_succ, List.countP_cons, List.countP_cons]
      have := ih (k := k) (by simpa using h) (by simpa [opOf] using h0)
      omega
/-- all that are in are reached -/
structure ClI (p : Pat) (r : Nat) (l : List Bool) : Prop where
  n : l.length = p.len.length
  rt : opOf l r = true
  i : ∀ q, opOf l q = true → Rch (srcL p) r q
/-- in a round that began at l0: the pairs ahead of (q, s) have been looked at -/
structure ClM (p : Pat) (r : Nat) (l0 : List Bool) (q s : Nat) (l : List Bool) (m : Bool) : Prop where
  c : ClI p r l
  f : m = false → l = l0 ∧ ∀ x y, (x < q ∨ (x = q ∧ y < s)) → y < p.len.length → opOf l x = true → isSrc p y x = true → opOf l y = true
  t : m = true → falN l < falN l0
theorem ClM.start {p : Pat} {r : Nat} {l : List Bool} (h : ClI p r l) : ClM p r l 0 0 l false := ⟨h, fun _ => ⟨rfl, fun x y hx => by omega⟩, fun h => (by cases h)⟩
theorem ClM.keep {p : Pat} {r q s : Nat} {l0 l : List Bool} {m : Bool} (h : ClM p r l0 q s l m) (hk : ¬ (opOf l q = true ∧ opOf l s = false ∧ isSrc p s q = true)) : ClM p r l0 q (s + 1) l m :=
  ⟨h.c, fun hm => ⟨(h.f hm).1, fun x y hx hy h1 h2 => by
    by_cases e : x = q ∧ y = s
    · obtain ⟨rfl, rfl⟩ := e
      cases hs : opOf l y with
      | true => rfl
      | false => exact absurd ⟨h1, hs, h2⟩ hk
    · exact (h.f hm).2 x y (by omega) hy h1 h2⟩, h.t⟩
theorem ClM.add {p : Pat} {r q s : Nat} {l0 l : List Bool} {m : Bool} (h : ClM p r l0 q s l m) (hs : s < p.len.length) (h1 : opOf l q = true) (h2 : opOf l s = false) (h3 : isSrc p s q = true) : ClM p r l0 q (s + 1) (l.set s true) true := by
  have hsl : s < l.length := by rw [h.c.n]; exact hs
  have hu : ∀ z, opOf (l.set s true) z = if z = s then true else opOf l z := fun z => getD_setF l hsl true false z
  have hfa := falN_set hsl h2
  refine ⟨⟨by rw [List.length_set]; exact h.c.n, ?_, fun z hz => ?_⟩, fun h => (by cases h), fun _ => ?_⟩
  · rw [hu]; split; rfl; exact h.c.rt
  · rw [hu] at hz
    by_cases e : z = s
    · subst e; exact .step (h.c.i q h1) (srcL_mem.2 ⟨hs, h3⟩)
    · rw [if_neg e] at hz; exact h.c.i z hz
  · cases m with
    | true => have := h.t rfl; omega
    | false => rw [← (h.f rfl).1]; omega
theorem ClM.row {p : Pat} {r q : Nat} {l0 l : List Bool} {m : Bool} (h : ClM p r l0 q p.len.length l m) : ClM p r l0 (q + 1) 0 l m :=
  ⟨h.c, fun hm => ⟨(h.f hm).1, fun x y hx hy h1 h2 => (h.f hm).2 x y (by omega) hy h1 h2⟩, h.t⟩
/-- a round has changed nothing: all that are reached are in -/
theorem ClM.fin {p : Pat} {r : Nat} {l0 l : List Bool} (hr : r < p.len.length) (h : ClM p r l0 p.len.length 0 l false) : ∀ q, opOf l q = true ↔ Rch (srcL p) r q := by
  refine fun q => ⟨h.c.i q, fun hq => ?_⟩
  have h2 : opOf l q = true ∧ q < p.len.length := by
    refine hq.closed (P := fun z => opOf l z = true ∧ z < p.len.length) ⟨h.c.rt, hr⟩ (fun x hx y hy => ?_)
    obtain ⟨a, b⟩ := srcL_mem.1 hy
    exact ⟨(h.f rfl).2 x y (.inl hx.2) a hx.1 b, a⟩
  exact h2.1
end Go.Proofs.Ytmjmdncdmmcmaaa
