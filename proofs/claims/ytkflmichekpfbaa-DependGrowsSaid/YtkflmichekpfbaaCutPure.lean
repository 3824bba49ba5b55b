/- Lowering and raising cuts as plain functions. No condition. -/
import Derived.Test.YtkflmichekpfbaaCutD
namespace Go.Proofs.Ytkflmichekpfbaa
set_option linter.unusedVariables false

def lowStep (a : Arc) (x : List Int) : List Int := x.set a.to (a.at_ - 1)
def raiStep (a : Arc) (x : List Int) : List Int := x.set a.fr a.ix
/-- one step: the first orphan is mended -/
def mend (step : Arc → List Int → List Int) (arcs : List Arc) (x : List Int) : List Int := match arcs.find? (orph · x) with | none => x | some a => step a x
def iter (f : List Int → List Int) : Nat → List Int → List Int
  | 0, x => x
  | n + 1, x => iter f n (f x)
theorem iter_succ' (f : List Int → List Int) : ∀ (n : Nat) (x : List Int), iter f (n + 1) x = f (iter f n x)
  | 0, _ => rfl
  | n + 1, x => by rw [iter, iter_succ' f n (f x), iter]
theorem iter_add (f : List Int → List Int) : ∀ (n m : Nat) (x : List Int), iter f (n + m) x = iter f m (iter f n x)
  | 0, m, x => by rw [Nat.zero_add]; rfl
  | n + 1, m, x => by rw [show n + 1 + m = (n + m) + 1 by omega, iter, iter_add f n m, iter]
theorem iter_fix {f : List Int → List Int} {x : List Int} (h : f x = x) : ∀ n, iter f n x = x
  | 0 => rfl
  | n + 1 => by rw [iter, h, iter_fix h n]
/-- from x mending leads to y -/
def Run (step : Arc → List Int → List Int) (arcs : List Arc) (x y : List Int) : Prop := ∃ n, iter (mend step arcs) n x = y
/-- and ends there -/
def Fin (step : Arc → List Int → List Int) (arcs : List Arc) (x y : List Int) : Prop := Run step arcs x y ∧ consB arcs y = true
theorem find_none {arcs : List Arc} {x : List Int} : arcs.find? (orph · x) = none ↔ consB arcs x = true := by
  simp [consB, List.all_eq_true]
theorem mend_fix {step : Arc → List Int → List Int} {arcs : List Arc} {x : List Int} (h : consB arcs x = true) : mend step arcs x = x := by
  rw [mend, find_none.2 h]
theorem Fin.unique {step : Arc → List Int → List Int} {arcs : List Arc} {x y z : List Int} (h : Fin step arcs x y) (k : Fin step arcs x z) : y = z := by
  obtain ⟨⟨n, rfl⟩, h1⟩ := h
  obtain ⟨⟨m, rfl⟩, h2⟩ := k
  rcases Nat.le_total n m with hl | hl
  · obtain ⟨d, rfl⟩ := Nat.exists_eq_add_of_le hl
    rw [iter_add, iter_fix (mend_fix h1)]
  · obtain ⟨d, rfl⟩ := Nat.exists_eq_add_of_le hl
    rw [iter_add, iter_fix (mend_fix h2)]
theorem Run.refl (step : Arc → List Int → List Int) (arcs : List Arc) (x : List Int) : Run step arcs x x := ⟨0, rfl⟩
theorem Run.snoc {step : Arc → List Int → List Int} {arcs : List Arc} {x y : List Int} {a : Arc} (h : Run step arcs x y) (hf : arcs.find? (orph · y) = some a) : Run step arcs x (step a y) := by
  obtain ⟨n, rfl⟩ := h
  exact ⟨n + 1, by rw [iter_succ', mend, hf]⟩
theorem find_at {f : Arc → Bool} : ∀ {l : List Arc} {k : Nat} (hk : k < l.length), (∀ a ∈ l.take k, f a = false) → f l[k] = true → l.find? f = some l[k]
  | [], k, hk, _, _ => by simp at hk
  | b :: l, 0, _, _, h => by simp at h ⊢; exact .inl h
  | b :: l, k + 1, hk, hb, h => by
    have h0 := hb b (by simp)
    rw [List.find?_cons, h0]
    simp only [List.getElem_cons_succ] at h ⊢
    exact find_at (by simpa using hk) (fun a ha => hb a (by simp [ha])) h
theorem find_idxs {f : Arc → Bool} {l : List Arc} : ∀ (n : Nat), n ≤ l.length → ∀ {i : Int} {r : List Int}, idxs f l n = i :: r → ∃ k : Nat, i = k ∧ k < n ∧ ∃ h : k < l.length, l.find? f = some l[k] ∧ f l[k] = true
  | 0, _, i, r, h => by simp [idxs] at h
  | n + 1, hn, i, r, h => by
    have hn' : n < l.length := by omega
    rw [idxs_succ f l hn'] at h
    cases hc : idxs f l n with
    | nil =>
      rw [hc] at h
      split at h
      · rename_i hf
        injection h with h1 h2
        refine ⟨n, h1.symm, by omega, hn', find_at hn' ((idxs_nil f l n (by omega)).1 (by rw [hc]; rfl)) hf, hf⟩
      · cases h
    | cons j s =>
      rw [hc] at h
      have hj : j = i := by split at h <;> (injection h)
      obtain ⟨k, h1, h2, h3⟩ := find_idxs n (by omega) hc
      exact ⟨k, by rw [← hj]; exact h1, by omega, h3⟩

/-- the sum of a cut -/
def sumN : List Int → Nat
  | [] => 0
  | x :: l => x.toNat + sumN l
theorem sumN_set : ∀ {l : List Int} {k : Nat} (hk : k < l.length) {v : Int}, v.toNat < (nth l k).toNat → sumN (l.set k v) < sumN l
  | [], k, hk, _, _ => by simp at hk
  | x :: l, 0, _, v, h => by simp [nth] at h; simp [sumN]; omega
  | x :: l, k + 1, hk, v, h => by
    have := sumN_set (l := l) (k := k) (by simpa using hk) (v := v) (by simpa [nth] using h)
    simp [sumN]; omega
/-- what is missing of a cut to the lengths -/
def lackN : List Int → List Int → Nat
  | m :: len, x :: l => (m - x).toNat + lackN len l
  | _, _ => 0
theorem lackN_set : ∀ {len l : List Int} {k : Nat} (hk : k < l.length) (hk' : k < len.length) {v : Int}, nth l k < v → v ≤ nth len k → lackN len (l.set k v) < lackN len l
  | [], _, k, _, hk', _, _, _ => by simp at hk'
  | _ :: _, [], k, hk, _, _, _, _ => by simp at hk
  | m :: len, x :: l, 0, _, _, v, h, h' => by simp [nth] at h h'; simp [lackN]; omega
  | m :: len, x :: l, k + 1, hk, hk', v, h, h' => by
    have := lackN_set (len := len) (l := l) (k := k) (by simpa using hk) (by simpa using hk') (v := v) (by simpa [nth] using h) (by simpa [nth] using h')
    simp [lackN]; omega
theorem orph_iff {a : Arc} {x : List Int} : orph a x = true ↔ 0 < a.at_ ∧ a.at_ ≤ nth x a.to ∧ nth x a.fr < a.ix := by
  simp [orph, and_assoc]
theorem valid_iff {len xs : List Int} : validB len xs = true ↔ xs.length = len.length ∧ ∀ k, k < len.length → 0 ≤ nth xs k ∧ nth xs k ≤ nth len k := by
  constructor
  · intro h
    simp only [validB, Bool.and_eq_true, decide_eq_true_eq] at h
    exact ⟨h.1, fun k hk => within_at h.2 (by omega)⟩
  · rintro ⟨h1, h2⟩
    simp only [validB, Bool.and_eq_true, decide_eq_true_eq]
    refine ⟨h1, List.all_eq_true.2 fun i hi => ?_⟩
    have := h2 i (by have := List.mem_range.1 hi; omega)
    simp [this.1, this.2]
section
variable {p : Pat} {a : Arc} {x : List Int}
theorem low_valid (hg : Good p) (ha : a ∈ p.arcs) (hv : validB p.len x = true) (ho : orph a x = true) : validB p.len (lowStep a x) = true ∧ sumN (lowStep a x) < sumN x := by
  obtain ⟨h1, h2⟩ := valid_iff.1 hv
  have hok := hg.arc a ha
  obtain ⟨o1, o2, o3⟩ := orph_iff.1 ho
  have ht := hok.to
  refine ⟨valid_iff.2 ⟨by simp [lowStep, h1], fun k hk => ?_⟩, sumN_set (by rw [h1]; exact ht) (by have := h2 _ ht; omega)⟩
  rw [lowStep, nth_set (by rw [h1]; exact ht)]
  split
  · rename_i e
    subst e
    have := h2 _ hk; omega
  · exact h2 k hk
theorem rai_valid (hg : Good p) (ha : a ∈ p.arcs) (hv : validB p.len x = true) (ho : orph a x = true) : validB p.len (raiStep a x) = true ∧ lackN p.len (raiStep a x) < lackN p.len x := by
  obtain ⟨h1, h2⟩ := valid_iff.1 hv
  have hok := hg.arc a ha
  obtain ⟨o1, o2, o3⟩ := orph_iff.1 ho
  have ht := hok.fr
  refine ⟨valid_iff.2 ⟨by simp [raiStep, h1], fun k hk => ?_⟩, lackN_set (by rw [h1]; exact ht) ht o3 hok.ix1⟩
  rw [raiStep, nth_set (by rw [h1]; exact ht)]
  split
  · rename_i e
    subst e
    exact ⟨hok.ix0, hok.ix1⟩
  · exact h2 k hk
end
end Go.Proofs.Ytkflmichekpfbaa
