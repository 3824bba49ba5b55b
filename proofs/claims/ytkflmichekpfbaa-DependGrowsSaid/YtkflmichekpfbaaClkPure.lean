/- Clocks: the clock of a point is the least consistent cut that contains it. No condition. -/
import Derived.Test.YtkflmichekpfbaaCutLat
namespace Go.Proofs.Ytkflmichekpfbaa
set_option linter.unusedVariables false
set_option linter.unusedSimpArgs false

/-- c is the clock of event k of process q -/
structure IsClk (p : Pat) (q : Nat) (k : Int) (c : List Int) : Prop where
  v : validB p.len c = true
  s : consB p.arcs c = true
  e : nth c q = k
  l : ∀ z, validB p.len z = true → consB p.arcs z = true → k ≤ nth z q → Le p.len.length c z
theorem le_antisymm {n : Nat} {x y : List Int} (hx : x.length = n) (hy : y.length = n) (h1 : Le n x y) (h2 : Le n y x) : x = y := by
  apply List.ext_getElem (by omega)
  intro i hi hj
  have a := h1 i (by omega)
  have b := h2 i (by omega)
  rw [nth_eq hi, nth_eq hj] at a b
  omega
theorem IsClk.len {p : Pat} {q : Nat} {k : Int} {c : List Int} (h : IsClk p q k c) : c.length = p.len.length := (valid_iff.1 h.v).1
theorem IsClk.unique {p : Pat} {q : Nat} {k : Int} {c d : List Int} (h : IsClk p q k c) (h' : IsClk p q k d) : c = d :=
  le_antisymm h.len h'.len (h.l d h'.v h'.s (by rw [h'.e]; omega)) (h'.l c h.v h.s (by rw [h.e]; omega))
/-- the cut of all points of rank at most R -/
def rankCut (len : List Int) (rk : Nat → Int → Nat) (R : Nat) : List Int := (List.range len.length).map fun q => (((List.range (nth len q).toNat).filter fun (j : Nat) => decide (rk q ((j : Int) + 1) ≤ R)).length : Int)
theorem rankCut_nth {len : List Int} {rk : Nat → Int → Nat} {R q : Nat} (hq : q < len.length) : nth (rankCut len rk R) q = (((List.range (nth len q).toNat).filter fun (j : Nat) => decide (rk q ((j : Int) + 1) ≤ R)).length : Int) := by
  rw [nth_eq (by simpa [rankCut] using hq)]
  simp [rankCut]
/-- of a rising predicate's complement: the first ones -/
theorem filter_down {P : Nat → Bool} : ∀ (n : Nat), (∀ i j, i ≤ j → j < n → P j = true → P i = true) → ∀ i, i < n → (P i = true ↔ i < ((List.range n).filter P).length)
  | 0, _, i, hi => absurd hi (by omega)
  | n + 1, hd, i, hi => by
    have ih := filter_down n (fun i j h1 h2 h3 => hd i j h1 (by omega) h3)
    have hle : ((List.range n).filter P).length ≤ n := by have := List.length_filter_le P (List.range n); simpa using this
    rw [List.range_succ, List.filter_append, List.length_append]
    by_cases hP : P n = true
    · have hall : ((List.range n).filter P).length = n := by
        rw [List.filter_eq_self.2 (fun j hj => hd j n (by have := List.mem_range.1 hj; omega) (by omega) hP)]; simp
      have h1 := hd i n (by omega) (by omega) hP
      simp [hP, h1, hall]; omega
    · have hP' : P n = false := by simpa using hP
      have h0 : (List.filter P [n]).length = 0 := by simp [hP']
      rw [h0, Nat.add_zero]
      rcases Nat.lt_succ_iff_lt_or_eq.1 hi with h | h
      · exact ih i h
      · subst h
        rw [hP']
        constructor
        · intro h; cases h
        · intro h; omega
section
variable {p : Pat} {rk : Nat → Int → Nat}
theorem rank_mono (hr : Ranked p.len.length p.len p.arcs rk) {q : Nat} (hq : q < p.len.length) : ∀ (d : Nat) (i : Int), 0 ≤ i → i + d ≤ nth p.len q → rk q i ≤ rk q (i + d)
  | 0, i, _, _ => by simp
  | d + 1, i, h0, h => by
    have h1 := rank_mono hr hq d i h0 (by omega)
    have h2 := hr.1 q hq (i + d) (by omega) (by omega)
    have e : i + (d : Int) + 1 = i + ((d + 1 : Nat) : Int) := by omega
    rw [e] at h2; omega
theorem rankCut_iff (hg : Good p) (hr : Ranked p.len.length p.len p.arcs rk) (R : Nat) {q : Nat} (hq : q < p.len.length) {k : Int} (h1 : 1 ≤ k) (hk : k ≤ nth p.len q) : k ≤ nth (rankCut p.len rk R) q ↔ rk q k ≤ R := by
  rw [rankCut_nth hq]
  have hd := filter_down (P := fun (j : Nat) => decide (rk q ((j : Int) + 1) ≤ R)) (nth p.len q).toNat (fun i j h2 h3 h4 => by
    have h5 := rank_mono hr hq (j - i) ((i : Int) + 1) (by omega) (by omega)
    rw [show (i : Int) + 1 + ((j - i : Nat) : Int) = (j : Int) + 1 by omega] at h5
    simp at h4 ⊢; omega) (k - 1).toNat (by omega)
  rw [show (((k - 1).toNat : Int)) + 1 = k by omega] at hd
  simp only [decide_eq_true_eq] at hd
  rw [hd]; omega
theorem rankCut_good (hg : Good p) (hr : Ranked p.len.length p.len p.arcs rk) (R : Nat) : validB p.len (rankCut p.len rk R) = true ∧ consB p.arcs (rankCut p.len rk R) = true := by
  have hb : ∀ q, q < p.len.length → 0 ≤ nth (rankCut p.len rk R) q ∧ nth (rankCut p.len rk R) q ≤ nth p.len q := fun q hq => by
    rw [rankCut_nth hq]
    have := List.length_filter_le (fun (j : Nat) => decide (rk q ((j : Int) + 1) ≤ R)) (List.range (nth p.len q).toNat)
    have h0 := hg.lo q hq
    simp at this
    omega
  refine ⟨valid_iff.2 ⟨by simp [rankCut], hb⟩, cons_iff.2 fun a ha h1 h2 => ?_⟩
  have ho := hg.arc a ha
  have h3 := (rankCut_iff hg hr R ho.to (by omega) ho.at1).1 h2
  have h4 := hr.2 a ha (by omega)
  by_cases h0 : 1 ≤ a.ix
  · exact (rankCut_iff hg hr R ho.fr h0 ho.ix1).2 (by omega)
  · have := (hb a.fr ho.fr).1
    have := ho.ix0
    omega
/-- a point of lower rank has not seen one of higher rank -/
theorem IsClk.below (hg : Good p) (hr : Ranked p.len.length p.len p.arcs rk) {s q : Nat} {j k : Int} {c : List Int} (h : IsClk p s j c) (hs : s < p.len.length) (hj : 0 ≤ j) (hj' : j ≤ nth p.len s) (hq : q < p.len.length) (hk : 1 ≤ k) (hk' : k ≤ nth p.len q) (hlt : rk s j < rk q k) : nth c q < k := by
  obtain ⟨h1, h2⟩ := rankCut_good hg hr (rk s j)
  have h3 : j ≤ nth (rankCut p.len rk (rk s j)) s := by
    by_cases h0 : 1 ≤ j
    · exact (rankCut_iff hg hr _ hs h0 hj').2 (Nat.le_refl _)
    · have := ((valid_iff.1 h1).2 s hs).1; omega
  have h4 := h.l _ h1 h2 h3 q hq
  have h5 := rankCut_iff hg hr (rk s j) hq hk hk'
  omega
/-- where the message came from that an event received -/
def srcF (az : List Arc) (k : Int × Int) : Option (Nat × Int) := (az.reverse.find? (fun a => decide (a.at_ ≠ 0) && decide (((a.to : Int), a.at_) = k))).map fun a => (a.fr, a.ix)
theorem clk_zero (hg : Good p) {q : Nat} (hq : q < p.len.length) : IsClk p q 0 (List.replicate p.len.length 0) :=
  ⟨valid_zero hg, cons_zero hg, by rw [nth_rep], fun z hz _ _ => fun k hk => by rw [nth_rep]; exact ((valid_iff.1 hz).2 k hk).1⟩
/-- the clock behind an event that received nothing -/
theorem clk_step (hg : Good p) {q : Nat} {k : Int} {c : List Int} (hq : q < p.len.length) (hk : 1 ≤ k) (hk' : k ≤ nth p.len q) (h : IsClk p q (k - 1) c) (hn : ∀ a ∈ p.arcs, a.to = q → a.at_ ≠ k) : IsClk p q k (c.set q k) := by
  obtain ⟨hl, hb⟩ := valid_iff.1 h.v
  have hn' : ∀ r, nth (c.set q k) r = if q = r then k else nth c r := fun r => nth_set (by omega) k
  refine ⟨valid_iff.2 ⟨by simpa using hl, fun r hr => ?_⟩, cons_iff.2 fun a ha h1 h2 => ?_, by rw [hn', if_pos rfl], fun z hz hc hzk => fun r hr => ?_⟩
  · have := hb r hr
    rw [hn']; split
    · rename_i e; subst e; omega
    · exact this
  · have ho := hg.arc a ha
    have hq' := h.e
    have h3 := cons_iff.1 h.s a ha h1
    rw [hn'] at h2 ⊢
    split at h2
    · rename_i e
      have h4 := hn a ha e.symm
      have h5 := h3 (by rw [← e]; omega)
      rw [if_neg (fun e2 => ho.ne (e2.symm.trans e))]; exact h5
    · have h5 := h3 h2
      split
      · rename_i e; rw [← e] at h5; omega
      · exact h5
  · rw [hn']; split
    · rename_i e; subst e; exact hzk
    · exact h.l z hz hc (by omega) r hr
/-- the clock behind an event that received a message -/
theorem clk_recv (hg : Good p) (hr : Ranked p.len.length p.len p.arcs rk) {q : Nat} {k : Int} {c d : List Int} {a : Arc} (ha : a ∈ p.arcs) (hto : a.to = q) (hat : a.at_ = k) (hk : 1 ≤ k) (h : IsClk p q (k - 1) c) (h' : IsClk p a.fr a.ix d) : IsClk p q k ((List.zipWith max c d).set q k) := by
  have ho := hg.arc a ha
  have hq : q < p.len.length := by rw [← hto]; exact ho.to
  have hk' : k ≤ nth p.len q := by rw [← hto, ← hat]; exact ho.at1
  have hdq : nth d q < k := h'.below hg hr ho.fr ho.ix0 ho.ix1 hq hk hk' (by have := hr.2 a ha (by omega); rw [hto, hat] at this; exact this)
  have hj := join_good hg h.v h'.v h.s h'.s
  have hcd : c.length = d.length := by rw [h.len, h'.len]
  have hz : zipI max c d = List.zipWith max c d := by simp [zipI, hcd]
  rw [hz] at hj
  have hnj : ∀ r, r < p.len.length → nth (List.zipWith max c d) r = max (nth c r) (nth d r) := fun r hr => by rw [← hz]; exact zipI_nth hcd (by rw [h'.len]; exact hr)
  have hlz : (List.zipWith max c d).length = p.len.length := by simp [h.len, h'.len]
  have hn' : ∀ r, nth ((List.zipWith max c d).set q k) r = if q = r then k else nth (List.zipWith max c d) r := fun r => nth_set (by omega) k
  refine ⟨valid_iff.2 ⟨by simpa using hlz, fun r hr => ?_⟩, cons_iff.2 fun b hb h1 h2 => ?_, by rw [hn', if_pos rfl], fun z hz' hc hzk => fun r hr' => ?_⟩
  · rw [hn']; split
    · rename_i e; subst e; omega
    · exact (valid_iff.1 hj.1).2 r hr
  · have hob := hg.arc b hb
    have h3 := cons_iff.1 hj.2.1 b hb h1
    rw [hn'] at h2 ⊢
    split at h2
    · rename_i e
      rw [if_neg (fun e2 => hob.ne (e2.symm.trans e))]
      by_cases hbk : b.at_ = k
      · have hba : b.fr = a.fr ∧ b.ix = a.ix := by
          obtain ⟨i, hi, rfl⟩ := List.getElem_of_mem ha
          obtain ⟨j, hj', rfl⟩ := List.getElem_of_mem hb
          rcases Nat.lt_trichotomy i j with hlt | rfl | hlt
          · have := hg.uniq i j hi hj' hlt (by rw [hto, e]) (by rw [hat, hbk]); omega
          · exact ⟨rfl, rfl⟩
          · have := hg.uniq j i hj' hi hlt (by rw [hto, e]) (by rw [hat, hbk]); omega
        rw [hnj _ hob.fr, hba.1, hba.2]
        have := h'.e
        omega
      · refine h3 ?_
        rw [hnj _ hob.to, ← e]
        have := h.e
        omega
    · have h5 := h3 h2
      split
      · rename_i e
        rw [hnj _ hob.fr, ← e] at h5
        have := h.e
        omega
      · exact h5
  · rw [hn']; split
    · rename_i e; subst e; exact hzk
    · rw [hnj r hr']
      have h6 := h.l z hz' hc (by omega) r hr'
      have h7 := h'.l z hz' hc (cons_iff.1 hc a ha (by omega) (by rw [hto, hat]; exact hzk)) r hr'
      omega
end
end Go.Proofs.Ytkflmichekpfbaa
