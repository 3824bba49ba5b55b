/- Consistent cuts: fixed points, ends, greatest and least, closed under min and max. No condition. -/
import Derived.Test.YtkflmichekpfbaaLawPat
namespace Go.Proofs.Ytkflmichekpfbaa
set_option linter.unusedVariables false
set_option linter.unusedSimpArgs false

theorem fin_fix {step : Arc → List Int → List Int} {arcs : List Arc} {x y : List Int} (h : Fin step arcs x y) : decide (y = x) = consB arcs x := by
  cases hc : consB arcs x with
  | true => simp [h.unique ⟨Run.refl _ _ _, hc⟩]
  | false =>
    rw [decide_eq_false_iff_not]
    rintro rfl
    rw [h.2] at hc; cases hc
theorem cons_iff {arcs : List Arc} {x : List Int} : consB arcs x = true ↔ ∀ a ∈ arcs, 0 < a.at_ → a.at_ ≤ nth x a.to → a.ix ≤ nth x a.fr := by
  rw [consB, List.all_eq_true]
  refine forall_congr' fun a => forall_congr' fun ha => ?_
  rw [Bool.not_eq_true', ← Bool.not_eq_true, orph_iff]
  constructor
  · intro h h1 h2
    exact Int.not_lt.1 fun h3 => h ⟨h1, h2, h3⟩
  · rintro h ⟨h1, h2, h3⟩
    have := h h1 h2; omega
section
variable {p : Pat} (hg : Good p)
theorem cons_len (hg : Good p) : consB p.arcs p.len = true := cons_iff.2 fun a ha _ _ => (hg.arc a ha).ix1
theorem valid_len (hg : Good p) : validB p.len p.len = true := valid_iff.2 ⟨rfl, fun k hk => ⟨hg.lo k hk, Int.le_refl _⟩⟩
theorem nth_rep (n k : Nat) : nth (List.replicate n 0) k = 0 := by
  simp [nth, List.getD, List.getElem?_replicate]
  split <;> rfl
theorem cons_zero (hg : Good p) : consB p.arcs (List.replicate p.len.length 0) = true := cons_iff.2 fun a ha h1 h2 => by
  rw [nth_rep] at h2; omega
theorem valid_zero (hg : Good p) : validB p.len (List.replicate p.len.length 0) = true := valid_iff.2 ⟨by simp, fun k hk => by rw [nth_rep]; exact ⟨Int.le_refl _, hg.lo k hk⟩⟩
end
theorem run_inv {step : Arc → List Int → List Int} {arcs : List Arc} {P : List Int → Prop} (hs : ∀ z a, P z → a ∈ arcs → orph a z = true → P (step a z)) {x y : List Int} (h0 : P x) (h : Run step arcs x y) : P y := by
  obtain ⟨n, rfl⟩ := h
  induction n generalizing x with
  | zero => exact h0
  | succ n ih =>
    rw [iter]
    refine ih ?_
    rw [mend]
    split
    · exact h0
    · rename_i a hf
      exact hs x a h0 (List.mem_of_find?_eq_some hf) (by simpa using List.find?_some hf)
/-- x is at most y -/
def Le (n : Nat) (x y : List Int) : Prop := ∀ k, k < n → nth x k ≤ nth y k
theorem Le.refl (n : Nat) (x : List Int) : Le n x x := fun _ _ => Int.le_refl _
section
variable {p : Pat} {x y z : List Int}
theorem low_le (hg : Good p) (hv : validB p.len x = true) (h : Fin lowStep p.arcs x y) : validB p.len y = true ∧ Le p.len.length y x := by
  refine run_inv (P := fun y => validB p.len y = true ∧ Le p.len.length y x) ?_ ⟨hv, Le.refl _ _⟩ h.1
  rintro z a ⟨h1, h2⟩ ha ho
  refine ⟨(low_valid hg ha h1 ho).1, fun k hk => ?_⟩
  have hzl := (valid_iff.1 h1).1
  rw [lowStep, nth_set (by rw [hzl]; exact (hg.arc a ha).to)]
  have := h2 k hk
  split
  · rename_i e; subst e
    have := (orph_iff.1 ho).2.1; omega
  · exact this
theorem rai_le (hg : Good p) (hv : validB p.len x = true) (h : Fin raiStep p.arcs x y) : validB p.len y = true ∧ Le p.len.length x y := by
  refine run_inv (P := fun y => validB p.len y = true ∧ Le p.len.length x y) ?_ ⟨hv, Le.refl _ _⟩ h.1
  rintro z a ⟨h1, h2⟩ ha ho
  refine ⟨(rai_valid hg ha h1 ho).1, fun k hk => ?_⟩
  have hzl := (valid_iff.1 h1).1
  rw [raiStep, nth_set (by rw [hzl]; exact (hg.arc a ha).fr)]
  have := h2 k hk
  split
  · rename_i e; subst e
    have := (orph_iff.1 ho).2.2; omega
  · exact this
theorem low_great (hg : Good p) (hv : validB p.len x = true) (h : Fin lowStep p.arcs x y) (hc : consB p.arcs z = true) (hz : Le p.len.length z x) : Le p.len.length z y := by
  refine (run_inv (P := fun y => validB p.len y = true ∧ Le p.len.length z y) ?_ ⟨hv, hz⟩ h.1).2
  rintro y a ⟨h1, h2⟩ ha ho
  refine ⟨(low_valid hg ha h1 ho).1, fun k hk => ?_⟩
  have hzl := (valid_iff.1 h1).1
  have hok := hg.arc a ha
  obtain ⟨o1, o2, o3⟩ := orph_iff.1 ho
  have hz := cons_iff.1 hc a ha o1
  have := h2 _ hok.fr
  have := h2 k hk
  rw [lowStep, nth_set (by rw [hzl]; exact hok.to)]
  split
  · rename_i e; subst e
    rcases Int.lt_or_le (nth z a.to) a.at_ with h | h
    · omega
    · have := hz h; omega
  · exact this
theorem rai_least (hg : Good p) (hv : validB p.len x = true) (h : Fin raiStep p.arcs x y) (hc : consB p.arcs z = true) (hz : Le p.len.length x z) : Le p.len.length y z := by
  refine (run_inv (P := fun y => validB p.len y = true ∧ Le p.len.length y z) ?_ ⟨hv, hz⟩ h.1).2
  rintro y a ⟨h1, h2⟩ ha ho
  refine ⟨(rai_valid hg ha h1 ho).1, fun k hk => ?_⟩
  have hzl := (valid_iff.1 h1).1
  have hok := hg.arc a ha
  obtain ⟨o1, o2, o3⟩ := orph_iff.1 ho
  have hz := cons_iff.1 hc a ha o1
  have := h2 _ hok.to
  have := h2 k hk
  rw [raiStep, nth_set (by rw [hzl]; exact hok.fr)]
  split
  · rename_i e; subst e
    exact hz (by omega)
  · exact this
theorem most_iff : mostB x y = true ↔ x.length = y.length ∧ Le x.length x y := by
  simp only [mostB, mostTo, Bool.and_eq_true, decide_eq_true_eq, List.all_eq_true, List.mem_range, Le]
theorem zipI_len {f : Int → Int → Int} (h : x.length = y.length) : (zipI f x y).length = y.length := by
  simp [zipI, h]
theorem zipI_nth {f : Int → Int → Int} (h : x.length = y.length) {k : Nat} (hk : k < y.length) : nth (zipI f x y) k = f (nth x k) (nth y k) := by
  rw [nth_eq (by rw [zipI_len h]; exact hk), nth_eq hk, nth_eq (by omega)]
  simp [zipI, h]
theorem meet_good (hg : Good p) (hx : validB p.len x = true) (hy : validB p.len y = true) (cx : consB p.arcs x = true) (cy : consB p.arcs y = true) : validB p.len (zipI min x y) = true ∧ consB p.arcs (zipI min x y) = true ∧ mostB (zipI min x y) x = true ∧ mostB (zipI min x y) y = true := by
  obtain ⟨lx, bx⟩ := valid_iff.1 hx
  obtain ⟨ly, by_⟩ := valid_iff.1 hy
  have hl : x.length = y.length := by omega
  have hn : ∀ k, k < p.len.length → nth (zipI min x y) k = min (nth x k) (nth y k) := fun k hk => zipI_nth hl (by omega)
  refine ⟨valid_iff.2 ⟨by rw [zipI_len hl]; omega, fun k hk => ?_⟩, cons_iff.2 fun a ha h1 h2 => ?_, most_iff.2 ⟨by rw [zipI_len hl]; omega, fun k hk => ?_⟩, most_iff.2 ⟨by rw [zipI_len hl], fun k hk => ?_⟩⟩
  · rw [hn k hk]; have := bx k hk; have := by_ k hk; omega
  · have hok := hg.arc a ha
    rw [hn _ hok.to] at h2
    rw [hn _ hok.fr]
    have := cons_iff.1 cx a ha h1 (by omega)
    have := cons_iff.1 cy a ha h1 (by omega)
    omega
  · rw [zipI_len hl] at hk; rw [hn k (by omega)]; omega
  · rw [zipI_len hl] at hk; rw [hn k (by omega)]; omega
theorem join_good (hg : Good p) (hx : validB p.len x = true) (hy : validB p.len y = true) (cx : consB p.arcs x = true) (cy : consB p.arcs y = true) : validB p.len (zipI max x y) = true ∧ consB p.arcs (zipI max x y) = true ∧ mostB x (zipI max x y) = true ∧ mostB y (zipI max x y) = true := by
  obtain ⟨lx, bx⟩ := valid_iff.1 hx
  obtain ⟨ly, by_⟩ := valid_iff.1 hy
  have hl : x.length = y.length := by omega
  have hn : ∀ k, k < p.len.length → nth (zipI max x y) k = max (nth x k) (nth y k) := fun k hk => zipI_nth hl (by omega)
  refine ⟨valid_iff.2 ⟨by rw [zipI_len hl]; omega, fun k hk => ?_⟩, cons_iff.2 fun a ha h1 h2 => ?_, most_iff.2 ⟨by rw [zipI_len hl]; omega, fun k hk => ?_⟩, most_iff.2 ⟨by rw [zipI_len hl], fun k hk => ?_⟩⟩
  · rw [hn k hk]; have := bx k hk; have := by_ k hk; omega
  · have hok := hg.arc a ha
    rw [hn _ hok.to] at h2
    rw [hn _ hok.fr]
    rcases Int.le_total (nth x a.to) (nth y a.to) with h | h
    · have := cons_iff.1 cy a ha h1 (by omega); omega
    · have := cons_iff.1 cx a ha h1 (by omega); omega
  · rw [hn k (by omega)]; omega
  · rw [hn k (by omega)]; omega
end
end Go.Proofs.Ytkflmichekpfbaa
