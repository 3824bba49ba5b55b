/- What the law's last loop collects: for each channel the values in transit across the recorded cut, in the order in which they were sent. No condition. -/
import Derived.Test.YtombhhhaidmpeaaMarkP
import Derived.Test.YtombhhhaidmpeaaRestA
import Derived.Test.YtombhhhaidmpeaaGd
namespace Go.Proofs.Ytombhhhaidmpeaa
open Go.RowKit
set_option linter.unusedVariables false
set_option linter.unusedSimpArgs false
set_option linter.unusedSectionVars false

theorem snoc_ind {P : List Nat → Prop} (h0 : P []) (h1 : ∀ l i, P l → P (l ++ [i])) (l : List Nat) : P l := by
  have h : ∀ m : List Nat, P m.reverse := fun m => by
    induction m with
    | nil => exact h0
    | cons i m ih => rw [List.reverse_cons]; exact h1 _ _ ih
  have := h l.reverse
  rwa [List.reverse_reverse] at this
/-- the channel of arc i -/
def chIx (az : List Arc) (n i : Nat) : Nat := (arcOf az i).fr * n + (arcOf az i).to
/-- one more value in transit -/
def putW (az : List Arc) (n : Nat) (vs : List Int) (ls : List (List Int)) (i : Nat) : List (List Int) := ls.set (chIx az n i) (rowOf ls (chIx az n i) ++ [nth vs i])
def wantL (az : List Arc) (n : Nat) (vs : List Int) (l : List Nat) : List (List Int) := l.foldl (putW az n vs) (List.replicate (n * n) [])
theorem wantL_snoc (az : List Arc) (n : Nat) (vs : List Int) (l : List Nat) (i : Nat) : wantL az n vs (l ++ [i]) = putW az n vs (wantL az n vs l) i := by simp [wantL]
theorem wantL_length (az : List Arc) (n : Nat) (vs : List Int) (l : List Nat) : (wantL az n vs l).length = n * n := by
  refine snoc_ind (P := fun l => (wantL az n vs l).length = n * n) (by simp [wantL]) (fun l i ih => ?_) l
  rw [wantL_snoc]; simp [putW, ih]
theorem wantL_row (az : List Arc) {n : Nat} (vs : List Int) {a c : Nat} (hc : c < n) (ha : a < n) : ∀ l : List Nat, (∀ i ∈ l, (arcOf az i).fr < n ∧ (arcOf az i).to < n) → rowOf (wantL az n vs l) (a * n + c) = (l.filter (fun i => chB a c (arcOf az i))).map (nth vs) := by
  refine snoc_ind ?_ (fun l i ih => ?_)
  · intro _; simp [wantL, rowOf, List.getD_eq_getElem?_getD, List.getElem?_replicate]; split <;> rfl
  · intro h
    obtain ⟨h1, h2⟩ := h i (by simp)
    have ih := ih (fun j hj => h j (by simp [hj]))
    have hk : chIx az n i < (wantL az n vs l).length := by rw [wantL_length]; exact ch_lt h1 h2
    rw [wantL_snoc, putW, rowOf_set hk, List.filter_append, List.map_append, ← ih]
    by_cases e : chIx az n i = a * n + c
    · have e2 := (ch_inj h2 hc).1 e
      rw [if_pos e, e]
      have : chB a c (arcOf az i) = true := chB_iff.2 e2
      simp [List.filter_cons, this]
    · rw [if_neg e]
      have : chB a c (arcOf az i) = false := by
        rw [Bool.eq_false_iff]; intro h3
        obtain ⟨h4, h5⟩ := chB_iff.1 h3
        exact e (by rw [chIx, h4, h5])
      simp [List.filter_cons, this]
theorem transit_over (x : List Int) (a : Arc) : transit x a = overB x a := by
  simp only [transit, overB]
  have h : (a.at_ == 0) = decide (a.at_ = 0) := by by_cases h : a.at_ = 0 <;> simp [h]
  rw [h]
/-- the numbers that Transit returns -/
theorem idxs_sel (x : List Int) (az : List Arc) : idxs (transit x) az az.length = (sel az (overB x)).map (fun (i : Nat) => (i : Int)) := by
  rw [idxs, sel]
  congr 1
  refine List.filter_congr fun i hi => ?_
  have h := List.mem_range.1 hi
  rw [List.getElem?_eq_getElem h, Option.any_some, transit_over, arcOf_eq h]
section
variable {n i na : Nat} {t : Int} {s : Snp} {p : Pat} {vs : List Int} {rs : List QR}
theorem MC.validB (h : MC n i na t s p vs rs) (hall : ∀ q, q < n → 0 ≤ nth s.cut q) : validB p.len s.cut = true := valid_iff.2 (h.tr.valid h.c.ok hall)
theorem MC.consB (h : MC n i na t s p vs rs) (hall : ∀ q, q < n → 0 ≤ nth s.cut q) : consB p.arcs s.cut = true := by
  rw [Go.Proofs.Ytombhhhaidmpeaa.consB, List.all_eq_true]
  intro a ha
  have := h.tr.cons h.c.ok h.c.inv hall a ha
  simp only [orph, Bool.not_eq_true', Bool.and_eq_false_iff, decide_eq_false_iff_not]
  omega
theorem MC.wantEq (h : MC n i na t s p vs rs) (hd : Done s) : wantL p.arcs n vs (sel p.arcs (overB s.cut)) = s.recs := by
  have hn := h.c.ok.n1
  refine List.ext_getElem (by rw [wantL_length, h.c.ok.lr]) fun k h1 h2 => ?_
  rw [← rowOf_eq h1, ← rowOf_eq h2]
  have hk : k < n * n := by rw [← h.c.ok.lr]; exact h2
  have hkc : k % n < n := Nat.mod_lt _ (by omega)
  have hka : k / n < n := Nat.div_lt_of_lt_mul hk
  have e : k / n * n + k % n = k := by rw [Nat.mul_comm]; exact Nat.div_add_mod k n
  rw [← e, wantL_row p.arcs vs hkc hka _ (fun j hj => ?_), h.tr.whole h.c.ok h.c.inv hd hka hkc]
  · congr 1
    rw [sel, sel, List.filter_filter]
  · have := h.tr.arc h.c.ok (sel_mem.1 hj).1
    exact ⟨this.1, this.2.1⟩
theorem MC.notDone (h : MC n i na t s p vs rs) {q : Nat} (hq : q < n) (h0 : nth s.cut q < 0) : compS s = false := by
  rw [Bool.eq_false_iff]
  intro hc
  have hd := comp_done h.c.ok hc
  have hql : q < s.cut.length := by rw [h.c.ok.lk]; exact hq
  have := hd.1 _ (List.getElem_mem hql)
  rw [nth_eq hql] at h0
  omega
theorem wantL_short (az : List Arc) (n : Nat) (vs : List Int) (k : Nat) : ∀ l : List Nat, (rowOf (wantL az n vs l) k).length ≤ l.length := by
  refine snoc_ind ?_ (fun l i ih => ?_)
  · simp [wantL, rowOf, List.getD_eq_getElem?_getD, List.getElem?_replicate]
    split <;> simp
  · rw [wantL_snoc, putW]
    by_cases hk : chIx az n i < (wantL az n vs l).length
    · rw [rowOf_set hk]
      split
      · rename_i e; rw [e]; simp; exact ih
      · simp; omega
    · rw [List.set_eq_of_length_le (by omega)]; simp; omega
/-- one more round of the law's last loop -/
theorem MC.wstep (h : MC n i na t s p vs rs) (hi : i ≤ 50) {x : List Int} {j : Nat} {ws : List (Option Addr × Nat × List Int)} (hw : ws.map (·.2.2) = wantL p.arcs n vs ((sel p.arcs (overB x)).take j)) {l : List Nat} (hl : sel p.arcs (overB x) = l) (hj : j < l.length) :
    ∃ k A c Q, l[j]? = some k ∧ k < na ∧ (arcOf p.arcs k).fr < n ∧ (arcOf p.arcs k).to < n ∧ ws[(arcOf p.arcs k).fr * n + (arcOf p.arcs k).to]? = some (A, c, Q) ∧ Q.length ≤ 60 ∧ ∀ A' c', (ws.set ((arcOf p.arcs k).fr * n + (arcOf p.arcs k).to) (A', c', Q ++ [nth vs k])).map (·.2.2) = wantL p.arcs n vs ((sel p.arcs (overB x)).take (j + 1)) := by
  subst hl
  have hm : (sel p.arcs (overB x))[j] ∈ sel p.arcs (overB x) := List.getElem_mem hj
  have hka := (sel_mem.1 hm).1
  have ha := h.tr.arc h.c.ok hka
  have htk : (sel p.arcs (overB x)).take (j + 1) = (sel p.arcs (overB x)).take j ++ [(sel p.arcs (overB x))[j]] := by rw [List.take_add_one, List.getElem?_eq_getElem hj]; rfl
  have hlk := List.getElem?_eq_getElem hj
  have hll : (sel p.arcs (overB x)).length ≤ p.arcs.length := by
    have := List.length_filter_le (fun i => overB x (arcOf p.arcs i)) (List.range p.arcs.length)
    simpa [sel] using this
  have hna := h.na_
  have hle := h.le
  generalize (sel p.arcs (overB x))[j] = k at *
  have hwl : ws.length = n * n := by
    have := congrArg List.length hw
    rw [wantL_length] at this
    simpa using this
  have hkw : (arcOf p.arcs k).fr * n + (arcOf p.arcs k).to < ws.length := by rw [hwl]; exact ch_lt ha.1 ha.2.1
  have hQ : (ws[(arcOf p.arcs k).fr * n + (arcOf p.arcs k).to]).2.2 = rowOf (wantL p.arcs n vs ((sel p.arcs (overB x)).take j)) (chIx p.arcs n k) := by
    rw [← hw, chIx, rowOf_eq (by simpa using hkw)]; simp
  have hQl : (ws[(arcOf p.arcs k).fr * n + (arcOf p.arcs k).to]).2.2.length ≤ 60 := by
    rw [hQ]
    have := wantL_short p.arcs n vs (chIx p.arcs n k) ((sel p.arcs (overB x)).take j)
    rw [List.length_take] at this
    omega
  refine ⟨k, (ws[(arcOf p.arcs k).fr * n + (arcOf p.arcs k).to]).1, (ws[(arcOf p.arcs k).fr * n + (arcOf p.arcs k).to]).2.1, (ws[(arcOf p.arcs k).fr * n + (arcOf p.arcs k).to]).2.2, hlk, by omega, ha.1, ha.2.1, List.getElem?_eq_getElem hkw, hQl, fun A' c' => ?_⟩
  rw [htk, wantL_snoc, putW, List.map_set, hw, hQ]
  rfl
end
end Go.Proofs.Ytombhhhaidmpeaa
