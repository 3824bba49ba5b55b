/- Sums over the snapshot machine, going round at 2^64. No condition. -/
import Derived.Test.YtombhhhaidmpeaaSnPure
namespace Go.Proofs.Ytombhhhaidmpeaa
open Go.RowKit
set_option linter.unusedVariables false
set_option linter.unusedSimpArgs false

theorem wrap_add (x y : Int) : wrap64 (wrap64 x + y) = wrap64 (x + y) := by unfold wrap64; omega
theorem wrap_wrap (x : Int) : wrap64 (wrap64 x) = wrap64 x := by unfold wrap64; omega
theorem wrap_self {x : Int} (h : -9223372036854775808 ≤ x ∧ x ≤ 9223372036854775807) : wrap64 x = x := by unfold wrap64; omega
/-- x and y are one, going round -/
def Alike (x y : Int) : Prop := ∃ k : Int, x = y + k * 18446744073709551616
theorem Alike.refl (x : Int) : Alike x x := ⟨0, by omega⟩
theorem Alike.symm {x y : Int} (h : Alike x y) : Alike y x := let ⟨k, h⟩ := h; ⟨-k, by omega⟩
theorem Alike.trans {x y z : Int} (h : Alike x y) (h' : Alike y z) : Alike x z := let ⟨k, h⟩ := h; let ⟨l, h'⟩ := h'; ⟨k + l, by omega⟩
theorem Alike.add {x y u v : Int} (h : Alike x y) (h' : Alike u v) : Alike (x + u) (y + v) := let ⟨k, h⟩ := h; let ⟨l, h'⟩ := h'; ⟨k + l, by omega⟩
theorem Alike.wrap (x : Int) : Alike (wrap64 x) x := ⟨-((x + 9223372036854775808) / 18446744073709551616), by unfold wrap64; omega⟩
theorem Alike.eq {x y : Int} (h : Alike x y) : wrap64 x = wrap64 y := by obtain ⟨k, rfl⟩ := h; unfold wrap64; omega
/-- the sum, going round at each step -/
def wsum (a : Int) : List Int → Int
  | [] => a
  | x :: l => wsum (wrap64 (a + x)) l
theorem wsum_append (a : Int) (l m : List Int) : wsum a (l ++ m) = wsum (wsum a l) m := by
  induction l generalizing a with
  | nil => rfl
  | cons x l ih => exact ih _
theorem wsum_eq (a : Int) (l : List Int) : wsum (wrap64 a) l = wrap64 (a + l.sum) := by
  induction l generalizing a with
  | nil => simp [wsum]
  | cons x l ih => rw [wsum, wrap_add, ih, List.sum_cons, Int.add_assoc]
theorem wsum_zero (l : List Int) : wsum 0 l = wrap64 l.sum := by
  have := wsum_eq 0 l
  rw [wrap_self (by omega), Int.zero_add] at this
  exact this
/-- the values of a channel -/
def pvals (l : List Pcl) : List Int := (l.filter fun x => !x.1).map Prod.snd
theorem pvals_append (l m : List Pcl) : pvals (l ++ m) = pvals l ++ pvals m := by simp [pvals]
theorem pvals_val (v : Int) : pvals [(false, v)] = [v] := rfl
theorem pvals_mark (v : Int) : pvals [(true, v)] = [] := rfl
theorem pvals_cons (x : Pcl) (l : List Pcl) : pvals (x :: l) = if x.1 = true then pvals l else x.2 :: pvals l := by
  unfold pvals
  rw [List.filter_cons]
  cases x.1 <;> simp
theorem sum_set {l : List Int} {k : Nat} (h : k < l.length) (v : Int) : (l.set k v).sum = l.sum - nth l k + v := by
  induction l generalizing k with
  | nil => simp at h
  | cons x l ih =>
    cases k with
    | zero => simp only [List.set_cons_zero, List.sum_cons, nth, List.getD_cons_zero]; omega
    | succ k =>
      have h2 := ih (k := k) (by simpa using h)
      simp only [List.set_cons_succ, List.sum_cons]
      rw [h2]
      have : nth (x :: l) (k + 1) = nth l k := by simp [nth]
      omega
/-- the sum of what f makes of the elements -/
def sumOf {α : Type} (f : α → Int) (l : List α) : Int := (l.map f).sum
theorem sumOf_set {α : Type} {f : α → Int} {l : List α} {k : Nat} (h : k < l.length) (v : α) : sumOf f (l.set k v) = sumOf f l - f l[k] + f v := by
  unfold sumOf
  rw [List.map_set, sum_set (by simpa using h)]
  have : nth (l.map f) k = f l[k] := by rw [nth_eq (by simpa using h)]; simp
  rw [this]
/-- the present total -/
def psum (s : Snp) : Int := s.vals.sum + sumOf (fun l => (pvals l).sum) s.chs
/-- the recorded total -/
def rsum (s : Snp) : Int := s.saved.sum + sumOf (fun l => l.sum) s.recs
theorem sumOf_flat {α : Type} (f : α → List Int) (l : List α) : (l.flatMap f).sum = sumOf (fun x => (f x).sum) l := by
  induction l with
  | nil => rfl
  | cons x l ih => rw [List.flatMap_cons, List.sum_append, ih]; simp [sumOf]
theorem total_present (s : Snp) : wsum 0 (s.vals ++ s.chs.flatMap pvals) = wrap64 (psum s) := by
  rw [wsum_zero, List.sum_append, sumOf_flat]; rfl
theorem total_recorded (s : Snp) : wsum 0 (s.saved ++ s.recs.flatMap id) = wrap64 (rsum s) := by
  rw [wsum_zero, List.sum_append, sumOf_flat]; rfl
/-- nothing has been lost: the present total -/
theorem psum_markCh (n p r : Nat) (ls : List (List Pcl)) : sumOf (fun l => (pvals l).sum) (markCh n p r ls) = sumOf (fun l => (pvals l).sum) ls := by
  unfold sumOf
  congr 1
  apply List.ext_getElem (by simp [markCh])
  intro k h1 h2
  simp only [List.getElem_map, markCh, List.getElem_mapIdx]
  split
  · rw [pvals_append, pvals_mark, List.append_nil]
  · rfl
theorem psum_recS (s : Snp) (p : Nat) : psum (recS s p) = psum s := by
  unfold recS; split
  · simp only [psum, recR, psum_markCh]
  · rfl
theorem psum_send {n b p q : Nat} {v : Int} {s : Snp} (h : SnOk n b s) (hp : p < n) (hq : q < n) : Alike (psum (sendS s p q v)) (psum s) := by
  have hk : p * n + q < s.chs.length := by rw [h.lh]; exact ch_lt hp hq
  simp only [psum, sendS, h.lv]
  rw [sum_set (by rw [h.lv]; exact hp), sumOf_set hk, chOf_eq hk, pvals_append, pvals_val, List.sum_append]
  obtain ⟨k, hw⟩ := Alike.wrap (nth s.vals p - v)
  refine ⟨k, ?_⟩
  rw [hw]
  simp
  omega
theorem psum_pop {n b k : Nat} {s : Snp} (h : SnOk n b s) (hk : k < n * n) {x : Pcl} {l : List Pcl} (hx : chOf s.chs k = x :: l) : psum (popS s k) = psum s - if x.1 = true then 0 else x.2 := by
  have hk' : k < s.chs.length := by rw [h.lh]; exact hk
  simp only [psum, popS]
  rw [sumOf_set hk', ← chOf_eq hk', hx, List.tail_cons, pvals_cons]
  split
  · omega
  · rw [List.sum_cons]; omega
theorem psum_take {n b k q : Nat} {s : Snp} (h : SnOk n b s) (hk : k < n * n) (hq : q < n) {x : Pcl} {l : List Pcl} (hx : chOf s.chs k = x :: l) (hm : ¬ x.1 = true) : Alike (psum (takeS s k q x.2)) (psum s) := by
  have h1 := psum_pop h hk hx
  rw [if_neg hm] at h1
  simp only [psum, popS] at h1
  simp only [psum, takeS, popS]
  rw [sum_set (by rw [h.lv]; exact hq)]
  obtain ⟨j, hw⟩ := Alike.wrap (nth s.vals q + x.2)
  refine ⟨j, ?_⟩
  rw [hw]
  omega
theorem psum_mark {n b k q : Nat} {s : Snp} (h : SnOk n b s) (hk : k < n * n) {x : Pcl} {l : List Pcl} (hx : chOf s.chs k = x :: l) (hm : x.1 = true) : psum (markS s k q) = psum s := by
  have h1 := psum_pop h hk hx
  rw [if_pos hm] at h1
  have h2 := psum_recS (popS s k) q
  simp only [psum] at h1 h2 ⊢
  simp only [markS]
  omega
/-- what a move that is not refused does, one by one -/
inductive MvDo (n : Nat) (s : Snp) (m : Mv) : Snp → Prop
  | begin (p : Nat) (hp : p < n) (e : m.kind = 3) (ef : m.fr = p) : MvDo n s m (recS s p)
  | send (p q : Nat) (hp : p < n) (hq : q < n) (hne : p ≠ q) (e : m.kind = 1) (ef : m.fr = p) (et : m.to = q) (hl : (chOf s.chs (p * n + q)).length < 256) : MvDo n s m (sendS s p q m.val)
  | mark (p q : Nat) (hp : p < n) (hq : q < n) (hne : p ≠ q) (e : m.kind = 2) (ef : m.fr = p) (et : m.to = q) (x : Pcl) (l : List Pcl) (hx : chOf s.chs (p * n + q) = x :: l) (hm : x.1 = true) : MvDo n s m (markS s (p * n + q) q)
  | take (p q : Nat) (hp : p < n) (hq : q < n) (hne : p ≠ q) (e : m.kind = 2) (ef : m.fr = p) (et : m.to = q) (x : Pcl) (l : List Pcl) (hx : chOf s.chs (p * n + q) = x :: l) (hm : ¬ x.1 = true) : MvDo n s m (takeS s (p * n + q) q x.2)
theorem goS_do {n b : Nat} {s : Snp} {m : Mv} (h : SnOk n b s) (hr : refS s m = 0) : MvDo n s m (goS s m) := by
  obtain ⟨h1, h2, h3, h4, h5, h6, h7⟩ := refS_zero hr
  rw [h.lv] at h4 h5 h6 h7
  have hf : m.fr.toNat < n := by omega
  unfold goS
  by_cases e3 : m.kind = 3
  · rw [if_pos e3]; exact .begin _ hf e3 (by omega)
  have h8 := h5 e3
  have ht : m.to.toNat < n := by omega
  rw [if_neg e3]
  by_cases e1 : m.kind = 1
  · rw [if_pos e1]; exact .send _ _ hf ht (by omega) e1 (by omega) (by omega) (h6 e1)
  rw [if_neg e1, h.lv]
  have h9 := h7 (by omega)
  cases hc : chOf s.chs (m.fr.toNat * n + m.to.toNat) with
  | nil => rw [hc] at h9; simp at h9
  | cons x l =>
    simp only
    split
    · rename_i hm; exact .mark _ _ hf ht (by omega) (by omega) (by omega) (by omega) x l hc hm
    · rename_i hm; exact .take _ _ hf ht (by omega) (by omega) (by omega) (by omega) x l hc hm
theorem psum_go {n b : Nat} {s t : Snp} {m : Mv} (h : SnOk n b s) (hd : MvDo n s m t) : Alike (psum t) (psum s) := by
  cases hd with
  | begin p hp => rw [psum_recS]; exact .refl _
  | send p q hp hq => exact psum_send h hp hq
  | mark p q hp hq hne e ef et x l hx hm => rw [psum_mark h (ch_lt hp hq) hx hm]; exact .refl _
  | take p q hp hq hne e ef et x l hx hm => exact psum_take h (ch_lt hp hq) hq hx hm
end Go.Proofs.Ytombhhhaidmpeaa
