/- What is kept from the bases on: the plain law. Conditions: the pattern is good. -/
import Derived.Test.YtombhhhaidmpeaaKeep
namespace Go.Proofs.Ytombhhhaidmpeaa
set_option linter.unusedVariables false
set_option linter.unusedSimpArgs false

theorem bel_is {l : List Int} {m v : Int} (h1 : v ∈ l) (h2 : v ≤ m) (h3 : ∀ k ∈ l, k ≤ m → k ≤ v) : bel l m = some v := by
  cases h : bel l m with
  | none => exact absurd h2 (((belF_spec m l none).2 h).2 v h1)
  | some u =>
    obtain ⟨k1, k2, k3⟩ := bel_some h
    have := k3 v h1 h2
    have := h3 u k1 k2
    congr 1; omega
theorem filt_head : ∀ {l : List Int} {b : Int}, l.Pairwise (· < ·) → b ∈ l → ∃ r, l.filter (fun k => decide (b ≤ k)) = b :: r
  | [], b, _, h => by simp at h
  | x :: l, b, hp, h => by
    have hp' := List.pairwise_cons.1 hp
    rcases List.mem_cons.1 h with rfl | h
    · exact ⟨l.filter (fun k => decide (b ≤ k)), by rw [List.filter_cons_of_pos (by simp)]⟩
    · have := hp'.1 b h
      rw [List.filter_cons_of_neg (by simp; omega)]
      exact filt_head hp'.2 h
section
variable {p : Pat} {xs ys : List Int} {q : Nat}
theorem base_some (hg : Good p) (hv : validB p.len xs = true) (hq : q < p.ck.length) : ∃ b, bel (rowOf p.ck q) (nth xs q) = some b ∧ nth (basesL p.ck xs) q = b := by
  have hqn : q < p.len.length := by rw [← hg.ckl]; exact hq
  obtain ⟨h1, h2⟩ := valid_iff.1 hv
  obtain ⟨r, hr⟩ := (hg.row q hqn).head
  obtain ⟨b, hb⟩ := bel_zero (l := rowOf p.ck q) (m := nth xs q) (by rw [hr]; simp) (h2 q hqn).1
  refine ⟨b, hb, ?_⟩
  rw [nth_eq (by rw [basesL_len]; exact hq)]
  simp only [basesL, List.getElem_map, List.getElem_range, baseOf]
  rw [if_pos (by omega), hb]; rfl
theorem keepB_in (hq : q < p.ck.length) (k : Int) : keepB (basesL p.ck xs) q k = decide (nth (basesL p.ck xs) q ≤ k) := by
  rw [keepB, decide_eq_false (by rw [basesL_len]; omega), Bool.false_or]
theorem kept_head (hg : Good p) (hv : validB p.len xs = true) (hq : q < p.ck.length) : ∃ r, rowOf (keepL p.ck (basesL p.ck xs)) q = nth (basesL p.ck xs) q :: r := by
  have hqn : q < p.len.length := by rw [← hg.ckl]; exact hq
  obtain ⟨b, h1, h2⟩ := base_some hg hv hq
  rw [keepL_row hq, List.filter_congr (fun k _ => keepB_in hq k), h2]
  exact filt_head (hg.row q hqn).asc (bel_some h1).1
theorem late_row (hg : Good p) (hx : validB p.len xs = true) (hy : validB p.len ys = true) (hle : ∀ q, q < p.len.length → nth xs q ≤ nth ys q) (hq : q < p.ck.length) : bel (rowOf (keepL p.ck (basesL p.ck xs)) q) (nth ys q) = bel (rowOf p.ck q) (nth ys q) := by
  have hqn : q < p.len.length := by rw [← hg.ckl]; exact hq
  obtain ⟨b, h1, h2⟩ := base_some hg hx hq
  obtain ⟨v, h3, h4⟩ := base_some hg hy hq
  obtain ⟨b1, b2, b3⟩ := bel_some h1
  obtain ⟨v1, v2, v3⟩ := bel_some h3
  have := hle q hqn
  have := v3 b b1 (by omega)
  rw [h3, keepL_row hq]
  refine bel_is (List.mem_filter.2 ⟨v1, ?_⟩) v2 (fun k hk => v3 k (List.mem_filter.1 hk).1)
  rw [keepB_in hq, h2]
  exact decide_eq_true (by omega)
theorem late_eq (hg : Good p) (hx : validB p.len xs = true) (hy : validB p.len ys = true) (hle : ∀ q, q < p.len.length → nth xs q ≤ nth ys q) : basesL (keepL p.ck (basesL p.ck xs)) ys = basesL p.ck ys := by
  have h1 : ∀ L : List (List Int), L.length = p.ck.length → (∀ q, q < p.ck.length → bel (rowOf L q) (nth ys q) = bel (rowOf p.ck q) (nth ys q)) → basesL L ys = basesL p.ck ys := fun L hL h => by
    unfold basesL
    rw [hL]
    refine List.map_congr_left fun q hq => ?_
    unfold baseOf
    rw [h q (List.mem_range.1 hq)]
  exact h1 _ (keepL_len _ _) (fun q hq => late_row hg hx hy hle hq)
theorem keep_eq (hg : Good p) (hx : validB p.len xs = true) (hy : validB p.len ys = true) (hle : ∀ q, q < p.len.length → nth xs q ≤ nth ys q) : keepL (keepL p.ck (basesL p.ck xs)) (basesL p.ck ys) = keepL p.ck (basesL p.ck ys) := by
  unfold keepL
  rw [List.length_map, List.length_range]
  refine List.map_congr_left fun q hq => ?_
  have hq := List.mem_range.1 hq
  have hqn : q < p.len.length := by rw [← hg.ckl]; exact hq
  have hr := keepL_row (b := basesL p.ck xs) hq
  unfold keepL at hr
  rw [hr, List.filter_filter]
  refine List.filter_congr fun k hk => ?_
  obtain ⟨b, h1, h2⟩ := base_some hg hx hq
  obtain ⟨v, h3, h4⟩ := base_some hg hy hq
  obtain ⟨b1, b2, b3⟩ := bel_some h1
  obtain ⟨v1, v2, v3⟩ := bel_some h3
  have := hle q hqn
  have := v3 b b1 (by omega)
  rw [keepB_in hq, keepB_in hq, h2, h4]
  by_cases hvk : v ≤ k
  · rw [decide_eq_true hvk, decide_eq_true (show b ≤ k by omega)]; rfl
  · rw [decide_eq_false hvk, Bool.false_and]
end
theorem mx_valid {p : Pat} {xs ys : List Int} (hx : validB p.len xs = true) (hy : validB p.len ys = true) : validB p.len (zipI max xs ys) = true ∧ ∀ q, q < p.len.length → nth xs q ≤ nth (zipI max xs ys) q := by
  obtain ⟨lx, bx⟩ := valid_iff.1 hx
  obtain ⟨ly, by_⟩ := valid_iff.1 hy
  have hl : xs.length = ys.length := by omega
  have hn : ∀ k, k < p.len.length → nth (zipI max xs ys) k = max (nth xs k) (nth ys k) := fun k hk => zipI_nth hl (by omega)
  refine ⟨valid_iff.2 ⟨by rw [zipI_len hl]; omega, fun k hk => ?_⟩, fun k hk => ?_⟩
  · rw [hn k hk]; have := bx k hk; have := by_ k hk; omega
  · rw [hn k hk]; omega
theorem keepL_rl {ls : List (List Int)} {b : List Int} {m : Nat} (h : ∀ l ∈ ls, l.length ≤ m) : ∀ l ∈ keepL ls b, l.length ≤ m := fun l hl => by
  obtain ⟨q, hq, rfl⟩ := List.mem_map.1 hl
  have hq := List.mem_range.1 hq
  have h2 := List.length_filter_le (keepB b q) (rowOf ls q)
  have h3 := h (rowOf ls q) (by rw [rowOf_eq hq]; exact List.getElem_mem hq)
  exact Nat.le_trans h2 h3
/-- the greater elements, for the first q -/
def mxTo (xs ys : List Int) (q : Nat) : List Int := (zipI max xs ys).take q ++ ys.drop q
theorem mxTo_len {xs ys : List Int} (hl : xs.length = ys.length) {q : Nat} (hq : q ≤ ys.length) : (mxTo xs ys q).length = ys.length := by
  rw [mxTo, List.length_append, List.length_take, List.length_drop, zipI_len hl]; omega
theorem mxTo_nth {xs ys : List Int} (hl : xs.length = ys.length) {q : Nat} (hq : q < ys.length) : nth (mxTo xs ys q) q = nth ys q := by
  rw [nth_eq (by rw [mxTo_len hl (by omega)]; exact hq), nth_eq hq]
  have h1 : ((zipI max xs ys).take q).length = q := by rw [List.length_take, zipI_len hl]; omega
  simp only [mxTo]
  rw [List.getElem_append_right (by omega)]
  simp [h1]
theorem mxTo_set {xs ys : List Int} (hl : xs.length = ys.length) {q : Nat} (hq : q < ys.length) : (mxTo xs ys q).set q (max (nth xs q) (nth ys q)) = mxTo xs ys (q + 1) := by
  have h1 : ((zipI max xs ys).take q).length = q := by rw [List.length_take, zipI_len hl]; omega
  have h2 : q < (zipI max xs ys).length := by rw [zipI_len hl]; omega
  rw [mxTo, mxTo, List.set_append_right _ _ (by omega), h1, Nat.sub_self, List.drop_eq_getElem_cons hq, List.set_cons_zero, List.take_succ_eq_append_getElem h2, List.append_assoc]
  congr 2
  rw [← nth_eq h2, zipI_nth hl (by omega)]
theorem mxTo_zero (xs ys : List Int) : mxTo xs ys 0 = ys := by simp [mxTo]
theorem mxTo_all {xs ys : List Int} (hl : xs.length = ys.length) : mxTo xs ys ys.length = zipI max xs ys := by
  rw [mxTo, List.drop_length, List.append_nil, List.take_of_length_le (by rw [zipI_len hl]; omega)]
end Go.Proofs.Ytombhhhaidmpeaa
