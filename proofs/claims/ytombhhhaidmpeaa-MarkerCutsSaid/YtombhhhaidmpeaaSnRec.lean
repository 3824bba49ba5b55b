/- The recorded total of the snapshot machine: as soon as a snapshot is complete it is the present one. No condition. -/
import Derived.Test.YtombhhhaidmpeaaSnInv
namespace Go.Proofs.Ytombhhhaidmpeaa
open Go.RowKit
set_option linter.unusedVariables false
set_option linter.unusedSimpArgs false

/-- the sum of f over the first n numbers -/
def rs (f : Nat → Int) : Nat → Int
  | 0 => 0
  | n + 1 => rs f n + f n
theorem rs_congr {f g : Nat → Int} : ∀ {n : Nat}, (∀ k, k < n → f k = g k) → rs f n = rs g n
  | 0, _ => rfl
  | n + 1, h => by rw [rs, rs, rs_congr (fun k hk => h k (by omega)), h n (by omega)]
theorem rs_change {f g : Nat → Int} {k : Nat} : ∀ {n : Nat}, k < n → (∀ j, j < n → j ≠ k → f j = g j) → rs f n = rs g n - g k + f k
  | 0, h, _ => by omega
  | n + 1, h, h' => by
    rw [rs, rs]
    by_cases e : k = n
    · subst e
      rw [rs_congr (fun j hj => h' j (by omega) (by omega))]
      omega
    · rw [rs_change (n := n) (by omega) (fun j hj hne => h' j (by omega) hne), h' n (by omega) (fun h => e h.symm)]
      omega
theorem sum_rs {l : List Int} : l.sum = rs (nth l) l.length := by
  have key : ∀ (m : Nat), m ≤ l.length → (l.take m).sum = rs (nth l) m := by
    intro m
    induction m with
    | zero => intro _; simp [rs]
    | succ m ih =>
      intro hm
      rw [List.take_succ_eq_append_getElem (by omega), List.sum_append, ih (by omega), rs, nth_eq (by omega)]
      simp
  have := key l.length (Nat.le_refl _)
  rwa [List.take_length] at this
theorem sumOf_rs {α : Type} {f : α → Int} {l : List α} {g : Nat → Int} (h : ∀ k (hk : k < l.length), g k = f l[k]) : sumOf f l = rs g l.length := by
  unfold sumOf
  rw [sum_rs, List.length_map]
  refine rs_congr (fun k hk => ?_)
  rw [h k hk, nth_eq (by simpa using hk)]
  simp
/-- what process p adds to the recorded total -/
def recP (s : Snp) (p : Nat) : Int := if nth s.cut p < 0 then nth s.vals p else nth s.saved p
/-- what a channel adds to it: what is recorded of it, whether its sender has recorded, what it holds -/
def recF (r : List Int) (c : Int) (l : List Pcl) : Int := r.sum + if c < 0 then (pvals l).sum else if marks l = 0 then 0 else (ahead l).sum
def recC (n : Nat) (s : Snp) (k : Nat) : Int := recF (rowOf s.recs k) (nth s.cut (k / n)) (chOf s.chs k)
theorem recC_at {n : Nat} {s : Snp} {a c : Nat} (hc : c < n) : recC n s (a * n + c) = recF (rowOf s.recs (a * n + c)) (nth s.cut a) (chOf s.chs (a * n + c)) := by unfold recC; rw [ch_div hc]
theorem recF_un {r : List Int} {c : Int} {l : List Pcl} (h : c < 0) : recF r c l = r.sum + (pvals l).sum := by unfold recF; rw [if_pos h]
theorem recF_zero {r : List Int} {c : Int} {l : List Pcl} (h : ¬ c < 0) (hm : marks l = 0) : recF r c l = r.sum := by unfold recF; rw [if_neg h, if_pos hm]; omega
theorem recF_some {r : List Int} {c : Int} {l : List Pcl} (h : ¬ c < 0) (hm : marks l ≠ 0) : recF r c l = r.sum + (ahead l).sum := by unfold recF; rw [if_neg h, if_neg hm]
def recT (n : Nat) (s : Snp) : Int := rs (recP s) n + rs (recC n s) (n * n)
section
variable {n b : Nat} {s : Snp}
theorem k_split {k : Nat} (hk : k < n * n) : ∃ p q, p < n ∧ q < n ∧ k = p * n + q := by
  have hn : 0 < n := by
    rcases Nat.eq_zero_or_pos n with e | e
    · subst e; simp at hk
    · exact e
  refine ⟨k / n, k % n, (Nat.div_lt_iff_lt_mul hn).2 hk, Nat.mod_lt _ hn, ?_⟩
  have := Nat.div_add_mod k n
  rw [Nat.mul_comm] at this
  exact this.symm
theorem recT_recR (h : SnOk n b s) {p : Nat} (hp : p < n) (hu : nth s.cut p < 0) (hm : ∀ c, c < n → c ≠ p → marks (chOf s.chs (p * n + c)) = 0) (hd : chOf s.chs (p * n + p) = []) : recT n (recR s p n) = recT n s := by
  have hc0 := (h.cb p hp).1
  unfold recT
  congr 1
  · refine rs_congr (fun a ha => ?_)
    unfold recP
    rw [recR_cut h hp]
    by_cases e : p = a
    · subst e
      rw [if_pos rfl, if_neg (by omega), if_pos hu]
      simp only [recR]
      exact nth_set_same (by rw [h.ls]; exact hp) _
    · rw [if_neg e]
      simp only [recR]
      rw [nth_set_other e]
  · refine rs_congr (fun k hk => ?_)
    obtain ⟨a, c, ha, hc, rfl⟩ := k_split hk
    rw [recC_at hc, recC_at hc]
    have er : (recR s p n).recs = s.recs := rfl
    rw [er, recR_cut h hp, recR_ch h hp ha hc]
    by_cases e : p = a
    · subst e
      rw [if_pos rfl, recF_un hu]
      by_cases e2 : c = p
      · subst e2
        have : ¬ (c = c ∧ c ≠ c) := by omega
        rw [if_neg this, hd, recF_zero (by omega) rfl]; simp [pvals]
      · have : p = p ∧ c ≠ p := ⟨rfl, e2⟩
        rw [if_pos this, recF_some (by omega) (by rw [marks_append, marks_mark]; omega), ahead_mark 0 (hm c hc e2)]
    · have : ¬ (a = p ∧ c ≠ p) := fun h => e h.1.symm
      rw [if_neg e, if_neg this]
theorem recT_recS (h : SnOk n b s) {p : Nat} (hp : p < n) (hm : nth s.cut p < 0 → ∀ c, c < n → c ≠ p → marks (chOf s.chs (p * n + c)) = 0) (hd : chOf s.chs (p * n + p) = []) : recT n (recS s p) = recT n s := by
  by_cases hu : nth s.cut p < 0
  · rw [recS_eq h hu]; exact recT_recR h hp hu (hm hu) hd
  · rw [recS_same hu]
theorem recT_send (h : SnOk n b s) (hi : SnInv n s) {p q : Nat} (hp : p < n) (hq : q < n) (hne : p ≠ q) (v : Int) : Alike (recT n (sendS s p q v)) (recT n s) := by
  have hch : ∀ a c, a < n → c < n → chOf (sendS s p q v).chs (a * n + c) = if p = a ∧ q = c then chOf s.chs (p * n + q) ++ [(false, v)] else chOf s.chs (a * n + c) := fun a c ha hc => by
    simp only [sendS, h.lv]; exact set_ch h.lh hp hq hc _
  have hk0 := ch_lt hp hq
  have hC : ∀ k, k < n * n → k ≠ p * n + q → recC n (sendS s p q v) k = recC n s k := fun k hk hne2 => by
    obtain ⟨a, c, ha, hc, rfl⟩ := k_split hk
    have e : ¬ (p = a ∧ q = c) := fun e => hne2 (by rw [e.1, e.2])
    rw [recC_at hc, recC_at hc, hch a c ha hc, if_neg e]; rfl
  have hpq : chOf (sendS s p q v).chs (p * n + q) = chOf s.chs (p * n + q) ++ [(false, v)] := by rw [hch p q hp hq, if_pos ⟨rfl, rfl⟩]
  unfold recT
  rw [rs_change hk0 hC]
  have ecut : (sendS s p q v).cut = s.cut := rfl
  have erec : (sendS s p q v).recs = s.recs := rfl
  by_cases hu : nth s.cut p < 0
  · have hP : ∀ a, a < n → a ≠ p → recP (sendS s p q v) a = recP s a := fun a ha hne2 => by
      unfold recP
      simp only [sendS]
      rw [nth_set_other (Ne.symm hne2)]
      rfl
    rw [rs_change hp hP]
    have e1 : recP (sendS s p q v) p = wrap64 (nth s.vals p - v) := by
      unfold recP
      rw [ecut, if_pos hu]
      simp only [sendS]
      exact nth_set_same (by rw [h.lv]; exact hp) _
    have e2 : recP s p = nth s.vals p := by unfold recP; rw [if_pos hu]
    have e3 : recC n (sendS s p q v) (p * n + q) = recC n s (p * n + q) + v := by
      rw [recC_at hq, recC_at hq, ecut, erec, hpq, recF_un hu, recF_un hu, pvals_append, pvals_val, List.sum_append]
      simp only [List.sum_cons, List.sum_nil]
      omega
    obtain ⟨k, hw⟩ := Alike.wrap (nth s.vals p - v)
    exact ⟨k, by rw [e1, e2, e3, hw]; omega⟩
  · have hP : rs (recP (sendS s p q v)) n = rs (recP s) n := rs_congr (fun a ha => by
      unfold recP
      rw [ecut]
      by_cases e : p = a
      · subst e; rw [if_neg hu, if_neg hu]; rfl
      · simp only [sendS]; rw [nth_set_other e])
    have e3 : recC n (sendS s p q v) (p * n + q) = recC n s (p * n + q) := by
      rw [recC_at hq, recC_at hq, ecut, erec, hpq]
      have hmm : marks (chOf s.chs (p * n + q) ++ [(false, v)]) = marks (chOf s.chs (p * n + q)) := by rw [marks_append, marks_val]; rfl
      by_cases hm : marks (chOf s.chs (p * n + q)) = 0
      · rw [recF_zero hu (by rw [hmm]; exact hm), recF_zero hu hm]
      · rw [recF_some hu (by rw [hmm]; exact hm), recF_some hu hm, ahead_append _ hm]
    exact ⟨0, by rw [hP, e3]; omega⟩
theorem recT_take (h : SnOk n b s) (hi : SnInv n s) {p q : Nat} (hp : p < n) (hq : q < n) (hne : p ≠ q) {x : Pcl} {l : List Pcl} (hx : chOf s.chs (p * n + q) = x :: l) (hm : ¬ x.1 = true) : Alike (recT n (takeS s (p * n + q) q x.2)) (recT n s) := by
  have hch : ∀ a c, a < n → c < n → chOf (takeS s (p * n + q) q x.2).chs (a * n + c) = if p = a ∧ q = c then l else chOf s.chs (a * n + c) := fun a c ha hc => by
    simp only [takeS, popS]; rw [set_ch h.lh hp hq hc, hx, List.tail_cons]
  have hrec : ∀ a c, a < n → c < n → ¬ (p = a ∧ q = c) → rowOf (takeS s (p * n + q) q x.2).recs (a * n + c) = rowOf s.recs (a * n + c) := fun a c ha hc e => by
    simp only [takeS]
    split
    · rw [set_rec h.lr hp hq hc, if_neg e]
    · rfl
  have hk0 := ch_lt hp hq
  have ecut : (takeS s (p * n + q) q x.2).cut = s.cut := rfl
  have hC : ∀ k, k < n * n → k ≠ p * n + q → recC n (takeS s (p * n + q) q x.2) k = recC n s k := fun k hk hne2 => by
    obtain ⟨a, c, ha, hc, rfl⟩ := k_split hk
    have e : ¬ (p = a ∧ q = c) := fun e => hne2 (by rw [e.1, e.2])
    rw [recC_at hc, recC_at hc, hch a c ha hc, if_neg e, hrec a c ha hc e, ecut]
  have hpq : chOf (takeS s (p * n + q) q x.2).chs (p * n + q) = l := by rw [hch p q hp hq, if_pos ⟨rfl, rfl⟩]
  have hmk : marks (x :: l) = marks l := by rw [marks_cons, if_neg hm]; rfl
  unfold recT
  rw [rs_change hk0 hC]
  -- the channel's own part, without what is recorded of it
  have hpart : (nth s.cut p < 0 ∨ marks (chOf s.chs (p * n + q)) ≠ 0) → recC n (takeS s (p * n + q) q x.2) (p * n + q) - (rowOf (takeS s (p * n + q) q x.2).recs (p * n + q)).sum = recC n s (p * n + q) - (rowOf s.recs (p * n + q)).sum - x.2 := fun hor => by
    rw [recC_at hq, recC_at hq, ecut, hpq, hx]
    by_cases hu : nth s.cut p < 0
    · rw [recF_un hu, recF_un hu, pvals_cons, if_neg hm, List.sum_cons]; omega
    · rw [hx, hmk] at hor
      have hl : marks l ≠ 0 := by omega
      rw [recF_some hu hl, recF_some hu (by rw [hmk]; exact hl), ahead_val hm, List.sum_cons]; omega
  by_cases hu : nth s.cut q < 0
  · obtain ⟨hcl1, hcl2⟩ := hi.cl p q hp hq hne hu
    have hP : ∀ a, a < n → a ≠ q → recP (takeS s (p * n + q) q x.2) a = recP s a := fun a ha hne2 => by
      unfold recP
      rw [ecut]
      simp only [takeS, popS]
      rw [nth_set_other (Ne.symm hne2)]
    rw [rs_change hq hP]
    have e1 : recP (takeS s (p * n + q) q x.2) q = wrap64 (nth s.vals q + x.2) := by
      unfold recP
      rw [ecut, if_pos hu]
      simp only [takeS]
      exact nth_set_same (by rw [h.lv]; exact hq) _
    have e2 : recP s q = nth s.vals q := by unfold recP; rw [if_pos hu]
    have e3 : (rowOf (takeS s (p * n + q) q x.2).recs (p * n + q)) = rowOf s.recs (p * n + q) := by
      simp only [takeS, hcl1]
      simp
    have e4 := hpart (by
      by_cases hup : nth s.cut p < 0
      · exact .inl hup
      · rcases hi.re p q hp hq hne (by omega) with h1 | ⟨_, h2, _⟩
        · exact .inr (by omega)
        · omega)
    rw [e3] at e4
    obtain ⟨k, hw⟩ := Alike.wrap (nth s.vals q + x.2)
    exact ⟨k, by rw [e1, e2, hw]; omega⟩
  · have hP : rs (recP (takeS s (p * n + q) q x.2)) n = rs (recP s) n := rs_congr (fun a ha => by
      unfold recP
      rw [ecut]
      by_cases e : q = a
      · subst e; rw [if_neg hu, if_neg hu]; rfl
      · simp only [takeS, popS]; rw [nth_set_other e])
    have e4 : recC n (takeS s (p * n + q) q x.2) (p * n + q) = recC n s (p * n + q) := by
      by_cases hor : nth s.cut p < 0 ∨ marks (chOf s.chs (p * n + q)) ≠ 0
      · have e5 := hpart hor
        have ho := hi.op p q hp hq hne (by omega) (by
          rcases hor with h1 | h1
          · exact .inl h1
          · by_cases hup : nth s.cut p < 0
            · exact .inl hup
            · rcases hi.re p q hp hq hne (by omega) with h2 | ⟨h2, _⟩
              · exact .inr h2
              · exact absurd h2 h1)
        have e6 : (rowOf (takeS s (p * n + q) q x.2).recs (p * n + q)) = rowOf s.recs (p * n + q) ++ [x.2] := by
          simp only [takeS, ho, if_true]
          rw [set_rec h.lr hp hq hq, if_pos ⟨rfl, rfl⟩]
        rw [e6, List.sum_append] at e5
        simp only [List.sum_cons, List.sum_nil] at e5
        omega
      · have hup : ¬ nth s.cut p < 0 := fun h1 => hor (.inl h1)
        have hz : marks (chOf s.chs (p * n + q)) = 0 := by
          by_cases h1 : marks (chOf s.chs (p * n + q)) = 0
          · exact h1
          · exact absurd (.inr h1) hor
        rcases hi.re p q hp hq hne (by omega) with h2 | ⟨_, _, h2⟩
        · omega
        · have e6 : (rowOf (takeS s (p * n + q) q x.2).recs (p * n + q)) = rowOf s.recs (p * n + q) := by
            simp only [takeS, h2]; simp
          rw [recC_at hq, recC_at hq, ecut, hpq, e6, recF_zero hup hz]
          rw [hx, hmk] at hz
          rw [recF_zero hup hz]
    exact ⟨0, by rw [hP, e4]; omega⟩
theorem recT_mark (h : SnOk n b s) (hi : SnInv n s) {p q : Nat} (hp : p < n) (hq : q < n) (hne : p ≠ q) {x : Pcl} {l : List Pcl} (hx : chOf s.chs (p * n + q) = x :: l) (hm : x.1 = true) : recT n (markS s (p * n + q) q) = recT n s := by
  obtain ⟨hcp, hml⟩ := hi.sent hp hq hne hx hm
  have h1 : SnOk n b (popS s (p * n + q)) := popS_ok h (ch_lt hp hq)
  have hch : ∀ a c, a < n → c < n → chOf (popS s (p * n + q)).chs (a * n + c) = if p = a ∧ q = c then l else chOf s.chs (a * n + c) := fun a c ha hc => by
    simp only [popS]; rw [set_ch h.lh hp hq hc, hx, List.tail_cons]
  have e1 : recT n (markS s (p * n + q) q) = recT n (recS (popS s (p * n + q)) q) := rfl
  rw [e1, recT_recS h1 hq (fun hu c hc hcq => by rw [hch q c hq hc, if_neg (by omega)]; exact hi.un q c hq hc (by omega) hu) (by rw [hch q q hq hq, if_neg (by omega)]; exact (hi.diag q hq).1)]
  unfold recT
  congr 1
  refine rs_congr (fun k hk => ?_)
  obtain ⟨a, c, ha, hc, rfl⟩ := k_split hk
  have ecut : (popS s (p * n + q)).cut = s.cut := rfl
  have erec : (popS s (p * n + q)).recs = s.recs := rfl
  rw [recC_at hc, recC_at hc, ecut, erec, hch a c ha hc]
  by_cases e : p = a ∧ q = c
  · obtain ⟨rfl, rfl⟩ := e
    have hnp : ¬ nth s.cut p < 0 := by omega
    have hmx : marks (x :: l) ≠ 0 := by rw [marks_cons, if_pos hm]; omega
    rw [if_pos ⟨rfl, rfl⟩, hx, recF_zero hnp hml, recF_some hnp hmx, ahead_head hm]
    simp
  · rw [if_neg e]
theorem recT_go (h : SnOk n b s) (hi : SnInv n s) {t : Snp} {m : Mv} (hd : MvDo n s m t) : Alike (recT n t) (recT n s) := by
  cases hd with
  | begin p hp => rw [recT_recS h hp (fun hu c hc hcp => hi.un p c hp hc (by omega) hu) (hi.diag p hp).1]; exact .refl _
  | send p q hp hq hne => exact recT_send h hi hp hq hne _
  | mark p q hp hq hne e ef et x l hx hm => rw [recT_mark h hi hp hq hne hx hm]; exact .refl _
  | take p q hp hq hne e ef et x l hx hm => exact recT_take h hi hp hq hne hx hm
/-- all have recorded, no channel is being recorded -/
def Done (s : Snp) : Prop := (∀ x ∈ s.cut, 0 ≤ x) ∧ ∀ x ∈ s.opn, x = false
theorem recT_done (h : SnOk n b s) (hi : SnInv n s) (hd : Done s) : recT n s = rsum s := by
  have hcut : ∀ p, p < n → 0 ≤ nth s.cut p := fun p hp => by
    rw [nth_eq (by rw [h.lk]; exact hp)]; exact hd.1 _ (List.getElem_mem _)
  have hop : ∀ k, k < n * n → opOf s.opn k = false := fun k hk => by
    rw [opOf_eq (by rw [h.lo]; exact hk)]; exact hd.2 _ (List.getElem_mem _)
  unfold recT rsum
  congr 1
  · rw [sum_rs, h.ls]
    refine rs_congr (fun p hp => ?_)
    unfold recP
    rw [if_neg (by have := hcut p hp; omega)]
  · rw [sumOf_rs (g := recC n s) (fun k hk => ?_), h.lr]
    have hk' : k < n * n := by rw [h.lr] at hk; exact hk
    obtain ⟨a, c, ha, hc, e⟩ := k_split hk'
    rw [← rowOf_eq hk]
    subst e
    have hnc : ¬ nth s.cut a < 0 := by have := hcut a ha; omega
    have hz : marks (chOf s.chs (a * n + c)) = 0 := by
      by_cases hac : a = c
      · subst hac; rw [(hi.diag a ha).1]; rfl
      · rcases hi.re a c ha hc hac (hcut a ha) with h2 | ⟨h2, _⟩
        · have := hi.op a c ha hc hac (hcut c hc) (.inr h2)
          rw [hop _ hk'] at this; cases this
        · exact h2
    rw [recC_at hc, recF_zero hnc hz]
theorem recT_psum (h : SnOk n b s) (hi : SnInv n s) (hu : ∀ p, p < n → nth s.cut p < 0) : recT n s = psum s := by
  unfold recT psum
  congr 1
  · rw [sum_rs, h.lv]
    refine rs_congr (fun p hp => ?_)
    unfold recP
    rw [if_pos (hu p hp)]
  · rw [sumOf_rs (g := recC n s) (fun k hk => ?_), h.lh]
    have hk' : k < n * n := by rw [h.lh] at hk; exact hk
    obtain ⟨a, c, ha, hc, e⟩ := k_split hk'
    subst e
    rw [recC_at hc, recF_un (hu a ha), ← chOf_eq hk]
    by_cases hac : a = c
    · subst hac; rw [(hi.diag a ha).2.2]; simp
    · rw [(hi.cl a c ha hc hac (hu c hc)).2]; simp
end
theorem newS_recT {vs : List Int} (h1 : 1 ≤ vs.length) (h5 : vs.length ≤ 5) (hb : ∀ x ∈ vs, -9223372036854775808 ≤ x ∧ x ≤ 9223372036854775807) : recT vs.length (newS vs) = vs.sum ∧ psum (newS vs) = vs.sum := by
  have hp : psum (newS vs) = vs.sum := by
    simp only [psum, newS]
    have : sumOf (fun l => (pvals l).sum) (List.replicate (vs.length * vs.length) ([] : List Pcl)) = 0 := by
      generalize vs.length * vs.length = m
      induction m with
      | zero => rfl
      | succ m ih => rw [List.replicate_succ]; simp only [sumOf, List.map_cons, List.sum_cons] at ih ⊢; rw [ih]; rfl
    omega
  refine ⟨?_, hp⟩
  rw [recT_psum (newS_ok h1 h5 hb) newS_inv (fun p hp => by simp only [newS]; rw [nth_rep_any hp]; omega), hp]
end Go.Proofs.Ytombhhhaidmpeaa
