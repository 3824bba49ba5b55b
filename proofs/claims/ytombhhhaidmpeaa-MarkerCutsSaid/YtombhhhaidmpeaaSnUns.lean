/- The snapshot machine without markers: the same values and counts. No condition. -/
import Derived.Test.YtombhhhaidmpeaaSnInv
namespace Go.Proofs.Ytombhhhaidmpeaa
open Go.RowKit
set_option linter.unusedVariables false
set_option linter.unusedSimpArgs false

theorem refS_intro {s : Snp} {m : Mv} {n : Nat} (hv : s.vals.length = n) {p q : Nat} (hp : p < n) (hq : q < n) (hne : p ≠ q) (ef : m.fr = p) (et : m.to = q) (hk : (m.kind = 1 ∧ (chOf s.chs (p * n + q)).length < 256) ∨ (m.kind = 2 ∧ 0 < (chOf s.chs (p * n + q)).length)) : refS s m = 0 := by
  unfold refS
  rw [hv, ef, et]
  simp only [Int.toNat_natCast]
  rw [if_neg (by omega), if_neg (by omega), if_neg (by omega), if_neg (by omega), if_neg (by omega)]
/-- only the values in channel k -/
def plainL (l : List Pcl) : List Pcl := l.filter fun x => !x.1
theorem plainL_append (l m : List Pcl) : plainL (l ++ m) = plainL l ++ plainL m := by simp [plainL]
/-- t is s without markers -/
structure Uns (n : Nat) (s t : Snp) : Prop where
  v : t.vals = s.vals
  c : t.cnts = s.cnts
  h : ∀ p q, p < n → q < n → chOf t.chs (p * n + q) = plainL (chOf s.chs (p * n + q))
theorem Uns.start (n : Nat) (vs : List Int) : Uns n (newS vs) (newS vs) := by
  refine ⟨rfl, rfl, fun p q hp hq => ?_⟩
  have : ∀ k, chOf (newS vs).chs k = [] := fun k => by
    simp only [newS, chOf, List.getD_eq_getElem?_getD, List.getElem?_replicate]; split <;> rfl
  rw [this]; rfl
section
variable {n b c : Nat} {s t : Snp} {m : Mv}
theorem Uns.recS (h : SnOk n b s) (hu : Uns n s t) {p : Nat} (hp : p < n) : Uns n (recS s p) t := by
  by_cases hc : nth s.cut p < 0
  · rw [recS_eq h hc]
    refine ⟨hu.v, hu.c, fun a d ha hd => ?_⟩
    rw [recR_ch h hp ha hd, hu.h a d ha hd]
    split
    · rw [plainL_append]; simp [plainL]
    · rfl
  · rw [recS_same hc]; exact hu
theorem Uns.send (h : SnOk n b s) (ht : SnOk n c t) (hu : Uns n s t) {p q : Nat} (hp : p < n) (hq : q < n) (v : Int) : Uns n (sendS s p q v) (sendS t p q v) := by
  refine ⟨by simp only [sendS, hu.v], by simp only [sendS, hu.c], fun a d ha hd => ?_⟩
  simp only [sendS, h.lv, ht.lv]
  rw [set_ch ht.lh hp hq hd, set_ch h.lh hp hq hd, hu.h a d ha hd, hu.h p q hp hq]
  split
  · rw [plainL_append]; rfl
  · rfl
theorem Uns.take (h : SnOk n b s) (ht : SnOk n c t) (hu : Uns n s t) {p q : Nat} (hp : p < n) (hq : q < n) {x : Pcl} {l : List Pcl} (hx : chOf s.chs (p * n + q) = x :: l) (hm : ¬ x.1 = true) : chOf t.chs (p * n + q) = x :: plainL l ∧ Uns n (takeS s (p * n + q) q x.2) (takeS t (p * n + q) q x.2) := by
  have hb : x.1 = false := by simpa using hm
  have h1 : chOf t.chs (p * n + q) = x :: plainL l := by
    rw [hu.h p q hp hq, hx]
    simp [plainL, hb]
  refine ⟨h1, by simp only [takeS, hu.v], by simp only [takeS, hu.c], fun a d ha hd => ?_⟩
  simp only [takeS, popS]
  rw [set_ch ht.lh hp hq hd, set_ch h.lh hp hq hd, hu.h a d ha hd, h1, hx, List.tail_cons, List.tail_cons]
  split <;> rfl
theorem Uns.mark (h : SnOk n b s) (hu : Uns n s t) {p q : Nat} (hp : p < n) (hq : q < n) {x : Pcl} {l : List Pcl} (hx : chOf s.chs (p * n + q) = x :: l) (hm : x.1 = true) : Uns n (markS s (p * n + q) q) t := by
  have h1 : Uns n (popS s (p * n + q)) t := by
    refine ⟨hu.v, hu.c, fun a d ha hd => ?_⟩
    simp only [popS]
    rw [set_ch h.lh hp hq hd, hx, List.tail_cons]
    split
    · rename_i e
      obtain ⟨rfl, rfl⟩ := e
      rw [hu.h p q hp hq, hx]
      simp [plainL, hm]
    · exact hu.h a d ha hd
  have h2 := Uns.recS (popS_ok h (ch_lt hp hq)) h1 hq
  exact ⟨h2.v, h2.c, h2.h⟩
/-- the move carries no marker -/
def plainM (n : Nat) (s : Snp) (m : Mv) : Bool := decide (m.kind = 1) || (decide (m.kind = 2) && match chOf s.chs (m.fr.toNat * n + m.to.toNat) with | [] => false | x :: _ => !x.1)
theorem Uns.go (h : SnOk n b s) (ht : SnOk n c t) (hu : Uns n s t) (hr : refS s m = 0) :
    (plainM n s m = true ∧ refS t m = 0 ∧ Uns n (goS s m) (goS t m)) ∨ (plainM n s m = false ∧ Uns n (goS s m) t) := by
  have hd := goS_do h hr
  generalize hg : goS s m = s' at hd
  cases hd with
  | begin p hp e ef => exact .inr ⟨by simp [plainM, e], Uns.recS h hu hp⟩
  | send p q hp hq hne e ef et hl =>
    have h1 : refS t m = 0 := refS_intro ht.lv hp hq hne ef et (.inl ⟨e, by
      rw [hu.h p q hp hq]
      exact Nat.lt_of_le_of_lt (List.length_filter_le _ _) hl⟩)
    refine .inl ⟨by simp [plainM, e], h1, ?_⟩
    have h2 : goS t m = sendS t p q m.val := by
      unfold goS
      rw [if_neg (by omega), if_pos e, ef, et]
      simp only [Int.toNat_natCast]
    rw [h2]
    exact hu.send h ht hp hq _
  | mark p q hp hq hne e ef et x l hx hm =>
    refine .inr ⟨?_, hu.mark h hp hq hx hm⟩
    unfold plainM
    rw [e, ef, et]
    simp only [Int.toNat_natCast, hx, hm]
    rfl
  | take p q hp hq hne e ef et x l hx hm =>
    obtain ⟨h1, h2⟩ := hu.take h ht hp hq hx hm
    have hb : x.1 = false := by simpa using hm
    refine .inl ⟨?_, refS_intro ht.lv hp hq hne ef et (.inr ⟨e, by rw [h1]; simp⟩), ?_⟩
    · unfold plainM
      rw [e, ef, et]
      simp only [Int.toNat_natCast, hx, hb]
      rfl
    · have h3 : goS t m = takeS t (p * n + q) q x.2 := by
        unfold goS
        rw [if_neg (by omega), if_neg (by omega), ef, et, ht.lv]
        simp only [Int.toNat_natCast, h1, hb]
        rfl
      rw [h3]; exact h2
end
end Go.Proofs.Ytombhhhaidmpeaa
