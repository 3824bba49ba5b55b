/- Families of rows that stand for lists, one by one; the reference's machine in memory. No condition. -/
import Derived.Test.YtkaofbjppibdkaaSnNewR
import Derived.Test.YtkaofbjppibdkaaSnStepD
import Derived.Test.YtkaofbjppibdkaaSnRefR
namespace Go.Proofs.Ytkaofbjppibdkaa
open Go.RowKit
set_option linter.unusedVariables false
set_option linter.unusedSimpArgs false
set_option linter.unusedSectionVars false

/-- the rows rs hold the lists ls -/
structure FamOf {α : Type} (f : List α → List Value) (rs : List RwD) (ls : List (List α)) : Prop where
  n : rs.length = ls.length
  k : ∀ i (h : i < ls.length), ∃ L c, rs[i]? = some (.slice L ls[i].length c, ls[i].length, f ls[i])
section
variable {α : Type} {f : List α → List Value} {rs : List RwD} {ls : List (List α)}
theorem FamOf.nil (f : List α → List Value) : FamOf f [] [] := ⟨rfl, fun i h => absurd h (by simp)⟩
theorem FamOf.snoc (h : FamOf f rs ls) (L : Option Addr) (c : Nat) (l : List α) : FamOf f (rs ++ [(.slice L l.length c, l.length, f l)]) (ls ++ [l]) := by
  refine ⟨by simp [h.n], fun i hi => ?_⟩
  by_cases e : i < ls.length
  · obtain ⟨L', c', h1⟩ := h.k i e
    refine ⟨L', c', ?_⟩
    rw [List.getElem?_append_left (by rw [h.n]; exact e), List.getElem_append_left e]
    exact h1
  · have e2 : i = ls.length := by simp at hi; omega
    subst e2
    refine ⟨L, c, ?_⟩
    rw [List.getElem?_append_right (by rw [h.n]; exact Nat.le_refl _), h.n]
    simp
theorem FamOf.set (h : FamOf f rs ls) (k : Nat) (L : Option Addr) (c : Nat) (l : List α) : FamOf f (rs.set k (.slice L l.length c, l.length, f l)) (ls.set k l) := by
  refine ⟨by simp [h.n], fun i hi => ?_⟩
  have hi' : i < ls.length := by simpa using hi
  by_cases e : k = i
  · subst e
    refine ⟨L, c, ?_⟩
    rw [List.getElem?_set_self (by rw [h.n]; exact hi')]
    simp
  · obtain ⟨L', c', h1⟩ := h.k i hi'
    refine ⟨L', c', ?_⟩
    rw [List.getElem?_set_ne e, List.getElem_set_ne e]
    exact h1
theorem FamOf.hv (h : FamOf f rs ls) : (rs.map (·.1)).length = ls.length := by rw [List.length_map]; exact h.n
end
theorem FamOf.ch {rs : List RwD} {ls : List (List Pcl)} (h : FamOf pcs rs ls) {k : Nat} (hk : k < ls.length) : ∃ L c, rs[k]? = some (.slice L (chOf ls k).length c, (chOf ls k).length, pcs (chOf ls k)) ∧ (rs.map (·.1))[k]? = some (.slice L (chOf ls k).length c) := by
  obtain ⟨L, c, h1⟩ := h.k k hk
  rw [← chOf_eq hk] at h1
  exact ⟨L, c, h1, by rw [List.getElem?_map, h1]; rfl⟩
theorem FamOf.re {rs : List RwD} {ls : List (List Int)} (h : FamOf ints rs ls) {k : Nat} (hk : k < ls.length) : ∃ L c, rs[k]? = some (.slice L (rowOf ls k).length c, (rowOf ls k).length, ints (rowOf ls k)) ∧ (rs.map (·.1))[k]? = some (.slice L (rowOf ls k).length c) := by
  obtain ⟨L, c, h1⟩ := h.k k hk
  rw [← rowOf_eq hk] at h1
  exact ⟨L, c, h1, by rw [List.getElem?_map, h1]; rfl⟩
theorem oneCell_pcs (l : List Pcl) : ∀ u ∈ pcs l, u.oneCell' = true := fun u hu => by
  simp only [pcs, List.mem_flatMap, pcCells, List.mem_cons, List.not_mem_nil, or_false] at hu
  obtain ⟨x, _, rfl | rfl⟩ := hu <;> rfl
theorem take_ch {ls : List (List Pcl)} {k : Nat} (hk : k < ls.length) : ls.take (k + 1) = ls.take k ++ [chOf ls k] := by rw [List.take_succ_eq_append_getElem hk, chOf_eq hk]
theorem take_re {ls : List (List Int)} {k : Nat} (hk : k < ls.length) : ls.take (k + 1) = ls.take k ++ [rowOf ls k] := by rw [List.take_succ_eq_append_getElem hk, rowOf_eq hk]
/-- the rows of a family, frozen, are the slices of the channels -/
theorem FamOf.chs {rs : List RwD} {ls : List (List Pcl)} {T : Nat → Prop} {w : World} (h : FamOf pcs rs ls) (hr : ∀ r ∈ rs, ∀ A k c, r.1 = .slice A k c → RV T w A r.2.2) (hc : ∀ r ∈ rs, ∀ A k c, r.1 = .slice A k c → capOk k c) : Rw2 (ChV T w) (rs.map (·.1)) ls := by
  refine ⟨h.hv, fun i h1 h2 => ?_⟩
  obtain ⟨L, c, e⟩ := h.k i h2
  obtain ⟨hi, e⟩ := List.getElem?_eq_some_iff.1 e
  have h3 := hr _ (List.getElem_mem hi) L ls[i].length c (by rw [e])
  have h4 := hc _ (List.getElem_mem hi) L ls[i].length c (by rw [e])
  rw [e] at h3
  exact ⟨L, c, by rw [List.getElem_map, e], h4.1, h4.2, h3⟩
theorem FamOf.res {rs : List RwD} {ls : List (List Int)} {T : Nat → Prop} {w : World} (h : FamOf ints rs ls) (hr : ∀ r ∈ rs, ∀ A k c, r.1 = .slice A k c → RV T w A r.2.2) (hc : ∀ r ∈ rs, ∀ A k c, r.1 = .slice A k c → capOk k c) : Rw2 (ReV T w) (rs.map (·.1)) ls := by
  refine ⟨h.hv, fun i h1 h2 => ?_⟩
  obtain ⟨L, c, e⟩ := h.k i h2
  obtain ⟨hi, e⟩ := List.getElem?_eq_some_iff.1 e
  have h3 := hr _ (List.getElem_mem hi) L ls[i].length c (by rw [e])
  have h4 := hc _ (List.getElem_mem hi) L ls[i].length c (by rw [e])
  rw [e] at h3
  exact ⟨L, c, by rw [List.getElem_map, e], h4.1, h4.2, h3⟩
/-- the rows rs hold the channels ls, and hv are their slices, but for number k0 -/
structure FamX (k0 : Nat) (rs : List RwD) (hv : List Value) (ls : List (List Pcl)) : Prop where
  n : rs.length = ls.length
  m : hv.length = ls.length
  k : ∀ i, i < ls.length → i ≠ k0 → ∃ L c, rs[i]? = some (.slice L (chOf ls i).length c, (chOf ls i).length, pcs (chOf ls i)) ∧ hv[i]? = some (.slice L (chOf ls i).length c)
theorem FamOf.x {rs : List RwD} {ls : List (List Pcl)} (h : FamOf pcs rs ls) (k0 : Nat) : FamX k0 rs (rs.map (·.1)) ls := ⟨h.n, h.hv, fun i hi _ => h.ch hi⟩
theorem FamX.set {k0 : Nat} {rs : List RwD} {hv : List Value} {ls : List (List Pcl)} (h : FamX k0 rs hv ls) (k : Nat) (L : Option Addr) (c : Nat) (l : List Pcl) : FamX k0 (rs.set k (.slice L l.length c, l.length, pcs l)) (hv.set k (.slice L l.length c)) (ls.set k l) := by
  refine ⟨by simp [h.n], by simp [h.m], fun i hi hne => ?_⟩
  have hi' : i < ls.length := by simpa using hi
  by_cases e : k = i
  · subst e
    refine ⟨L, c, ?_⟩
    rw [List.getElem?_set_self (by rw [h.n]; exact hi'), List.getElem?_set_self (by rw [h.m]; exact hi'), chOf_set hi', if_pos rfl]
    exact ⟨rfl, rfl⟩
  · obtain ⟨L', c', h1, h2⟩ := h.k i hi' hne
    refine ⟨L', c', ?_⟩
    by_cases hk : k < ls.length
    · rw [List.getElem?_set_ne e, List.getElem?_set_ne e, chOf_set hk, if_neg e]
      exact ⟨h1, h2⟩
    · rw [List.set_eq_of_length_le (l := ls) (by omega), List.getElem?_set_ne e, List.getElem?_set_ne e]
      exact ⟨h1, h2⟩
/-- row number k is taken out -/
theorem FamX.pop {k : Nat} {k0 : Nat} {rs : List RwD} {hv : List Value} {ls : List (List Pcl)} (h : FamX k0 rs hv ls) (hk0 : ls.length ≤ k0) (hk : k < ls.length) (x : RwD) (v : Value) (l : List Pcl) : FamX k (rs.set k x) (hv.set k v) (ls.set k l) := by
  refine ⟨by simp [h.n], by simp [h.m], fun i hi hne => ?_⟩
  have hi' : i < ls.length := by simpa using hi
  obtain ⟨L', c', h1, h2⟩ := h.k i hi' (by omega)
  refine ⟨L', c', ?_⟩
  rw [List.getElem?_set_ne (Ne.symm hne), List.getElem?_set_ne (Ne.symm hne), chOf_set hk, if_neg (Ne.symm hne)]
  exact ⟨h1, h2⟩
/-- the slices of the channels -/
theorem FamX.chs {k0 : Nat} {rs : List RwD} {hv : List Value} {ls : List (List Pcl)} {T : Nat → Prop} {w : World} (h : FamX k0 rs hv ls) (hr : ∀ r ∈ rs, ∀ A k c, r.1 = .slice A k c → capOk k c ∧ RV T w A r.2.2) (hk : ∀ h' : k0 < ls.length, ∃ v, hv[k0]? = some v ∧ ChV T w v (chOf ls k0)) : Rw2 (ChV T w) hv ls := by
  refine ⟨h.m, fun i h1 h2 => ?_⟩
  rw [← chOf_eq h2]
  by_cases e : i = k0
  · subst e
    obtain ⟨v, h3, h4⟩ := hk h2
    obtain ⟨_, rfl⟩ := List.getElem?_eq_some_iff.1 h3
    exact h4
  · obtain ⟨L, c, h3, h4⟩ := h.k i h2 e
    obtain ⟨_, e4⟩ := List.getElem?_eq_some_iff.1 h4
    have h5 := hr _ (List.mem_of_getElem? h3) L _ c rfl
    rw [e4]
    exact ⟨L, c, rfl, h5.1.1, h5.1.2, h5.2⟩
section
variable {w0 w : World} {M : Nat → Prop} {cs : List (Chunk w0 M)} {e : TypeId} {sz : Nat} {rs : List RwD}
theorem St.fam2Cap (h : St w0 M (fam2 e sz rs :: cs) w) : ∀ r ∈ rs, ∀ A k c, r.1 = .slice A k c → capOk k c := fun r hr A k c hv => by
  have ho := h.head.1 r hr
  rw [RwD.ok, hv] at ho
  obtain ⟨A', c', hv', h1, h2⟩ := own_form ho
  injection hv' with h3 h4 h5
  subst h5
  rw [h4]
  exact ⟨h1, h2⟩
end
section
variable {w0 w : World} {S : Nat → Prop} {cs : List (Chunk w0 (fun k => S k ∧ k < w0.heap.size))}
theorem St.famF {e : TypeId} {sz : Nat} {rs : List RwD} (h : St w0 (fun k => S k ∧ k < w0.heap.size) cs w) (hm : fam2 e sz rs ∈ cs) : ∀ r ∈ rs, ∀ A k c, r.1 = .slice A k c → capOk k c ∧ RV (Orn S w0) w A r.2.2 := fun r hr A k c hv => by
  have ho := (h.all _ hm).1 r hr
  rw [RwD.ok, hv] at ho
  refine ⟨?_, (own_rv ho).sub (fun b hb => ?_)⟩
  · obtain ⟨A', c', hv', h1, h2⟩ := own_form ho
    injection hv' with h3 h4 h5
    subst h5
    rw [h4]
    exact ⟨h1, h2⟩
  · rcases h.new _ hm b ⟨r, hr, by rw [hv]; exact hb⟩ with h1 | h1
    · exact .inr h1
    · exact .inl h1.1
end
end Go.Proofs.Ytkaofbjppibdkaa
