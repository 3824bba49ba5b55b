/- Counting through all cuts: the next one, its rank; Lower and Raise against every consistent cut. No condition. -/
import Derived.Test.YtjclgbkfnliiaaaCutLat
namespace Go.Proofs.Ytjclgbkfnliiaaa
set_option linter.unusedVariables false
set_option linter.unusedSimpArgs false

/-- the number of a cut in the order in which they are counted -/
def rankC : List Int → List Int → Nat
  | m :: len, k :: y => k.toNat + (m.toNat + 1) * rankC len y
  | _, _ => 0
/-- the first q places are 0 -/
def zeroTo (y : List Int) (q : Nat) : List Int := List.replicate q 0 ++ y.drop q
theorem zeroTo_zero (y : List Int) : zeroTo y 0 = y := by simp [zeroTo]
theorem zeroTo_length {y : List Int} {q : Nat} (h : q ≤ y.length) : (zeroTo y q).length = y.length := by simp [zeroTo]; omega
theorem zeroTo_succ {y : List Int} {q : Nat} (h : q < y.length) : (zeroTo y q).set q 0 = zeroTo y (q + 1) := by
  rw [zeroTo, List.set_append_right _ _ (by simp), List.length_replicate, Nat.sub_self, List.drop_eq_getElem_cons h, List.set_cons_zero, zeroTo, List.replicate_succ', List.append_assoc]
  rfl
theorem zeroTo_at {y : List Int} {q : Nat} (h : q < y.length) : nth (zeroTo y q) q = nth y q := by
  rw [nth_eq (by rw [zeroTo_length (by omega)]; exact h), nth_eq h]
  simp [zeroTo, List.getElem_append_right]
theorem zeroTo_nth {y : List Int} {q k : Nat} (h : q ≤ y.length) (hk : k < y.length) : nth (zeroTo y q) k = if k < q then 0 else nth y k := by
  rw [nth_eq (by rw [zeroTo_length h]; exact hk), nth_eq hk]
  by_cases hkq : k < q
  · rw [if_pos hkq]; simp [zeroTo, List.getElem_append_left, hkq]
  · rw [if_neg hkq]
    simp only [zeroTo]
    rw [List.getElem_append_right (by simp; omega)]
    simp
    congr 1; omega
theorem rank_next : ∀ (q : Nat) {len y : List Int}, y.length = len.length → q < y.length → (∀ i, i < q → nth y i = nth len i) → (∀ i, i < y.length → 0 ≤ nth y i) → rankC len ((zeroTo y q).set q (nth y q + 1)) = rankC len y + 1
  | 0, m :: len, k :: y, hl, hq, h, h0 => by
    have := h0 0 (by simp)
    simp [nth] at this
    simp only [zeroTo_zero, List.set_cons_zero, rankC, nth, List.getD_cons_zero]
    omega
  | q + 1, m :: len, k :: y, hl, hq, h, h0 => by
    have e := h 0 (by omega)
    simp only [nth, List.getD_cons_zero] at e
    subst e
    have ih := rank_next q (len := len) (y := y) (by simpa using hl) (by simpa using hq) (fun i hi => by simpa [nth] using h (i + 1) (by omega)) (fun i hi => by simpa [nth] using h0 (i + 1) (by simpa using hi))
    have h1 : (zeroTo (k :: y) (q + 1)).set (q + 1) (nth (k :: y) (q + 1) + 1) = 0 :: (zeroTo y q).set q (nth y q + 1) := by
      simp [zeroTo, List.replicate_succ, nth]
    rw [h1, rankC, ih, rankC, Nat.mul_add]
    simp; omega
  | _, [], _ :: _, hl, _, _, _ => by simp at hl
  | _, _, [], _, hq, _, _ => by simp at hq
theorem rank_le : ∀ {len y : List Int}, y.length = len.length → (∀ i, i < len.length → 0 ≤ nth y i ∧ nth y i ≤ nth len i) → rankC len y ≤ rankC len len
  | [], y, _, _ => by simp [rankC]
  | m :: len, k :: y, hl, h => by
    have h0 := h 0 (by simp)
    simp only [nth, List.getD_cons_zero] at h0
    have ih := rank_le (len := len) (y := y) (by simpa using hl) (fun i hi => by simpa [nth] using h (i + 1) (by simpa using hi))
    have := Nat.mul_le_mul_left (m.toNat + 1) ih
    simp only [rankC]
    omega
  | _ :: _, [], hl, _ => by simp at hl
theorem next_valid {len y : List Int} {q : Nat} (hv : validB len y = true) (hq : q < len.length) (hlt : nth y q ≠ nth len q) (heq : ∀ i, i < q → nth y i = nth len i) :
    validB len ((zeroTo y q).set q (nth y q + 1)) = true ∧ rankC len len - rankC len ((zeroTo y q).set q (nth y q + 1)) < rankC len len - rankC len y := by
  obtain ⟨hl, hb⟩ := valid_iff.1 hv
  have hz := zeroTo_length (y := y) (q := q) (by omega)
  have hv' : validB len ((zeroTo y q).set q (nth y q + 1)) = true := by
    refine valid_iff.2 ⟨by simp [hz, hl], fun k hk => ?_⟩
    have := hb k hk
    have := hb q hq
    rw [nth_set (by omega), zeroTo_nth (by omega) (by omega)]
    split
    · rename_i e; subst e; omega
    · split <;> omega
  refine ⟨hv', ?_⟩
  have h1 := rank_next q hl (by omega) heq (fun i hi => (hb i (by omega)).1)
  have h2 := rank_le (valid_iff.1 hv').1 (valid_iff.1 hv').2
  omega
section
variable {p : Pat} {x y low high : List Int}
theorem brute_low (hg : Good p) (hv : validB p.len x = true) (h : Fin lowStep p.arcs x low) (hy : validB p.len y = true) (hc : consB p.arcs y = true) (hm : mostB y x = true) : mostB y low = true := by
  have h1 := (valid_iff.1 hy).1
  have h2 := (valid_iff.1 (low_le hg hv h).1).1
  refine most_iff.2 ⟨by omega, ?_⟩
  rw [h1]
  exact low_great hg hv h hc (by have := (most_iff.1 hm).2; rwa [h1] at this)
theorem brute_high (hg : Good p) (hv : validB p.len x = true) (h : Fin raiStep p.arcs x high) (hy : validB p.len y = true) (hc : consB p.arcs y = true) (hm : mostB x y = true) : mostB high y = true := by
  have h1 := (valid_iff.1 hy).1
  have h2 := (valid_iff.1 (rai_le hg hv h).1).1
  have h3 := (valid_iff.1 hv).1
  refine most_iff.2 ⟨by omega, ?_⟩
  rw [h2]
  exact rai_least hg hv h hc (by have := (most_iff.1 hm).2; rwa [h3] at this)
theorem low_most (hg : Good p) (hv : validB p.len x = true) (h : Fin lowStep p.arcs x low) : mostB low x = true := by
  obtain ⟨h1, h2⟩ := low_le hg hv h
  have := (valid_iff.1 h1).1
  have := (valid_iff.1 hv).1
  exact most_iff.2 ⟨by omega, by rwa [(valid_iff.1 h1).1]⟩
theorem rai_most (hg : Good p) (hv : validB p.len x = true) (h : Fin raiStep p.arcs x high) : mostB x high = true := by
  obtain ⟨h1, h2⟩ := rai_le hg hv h
  have := (valid_iff.1 h1).1
  have := (valid_iff.1 hv).1
  exact most_iff.2 ⟨by omega, by rwa [(valid_iff.1 hv).1]⟩
end
end Go.Proofs.Ytjclgbkfnliiaaa
