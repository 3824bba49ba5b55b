/- Cutting a pattern: twice, at its lengths; messages sent, received, in transit. No condition. -/
import Derived.Test.YtjclgbkfnliiaaaPatLaw2
namespace Go.Proofs.Ytjclgbkfnliiaaa
set_option linter.unusedVariables false
set_option linter.unusedSimpArgs false

theorem pat_ext {p q : Pat} (h1 : p.len = q.len) (h2 : p.ck = q.ck) (h3 : p.arcs = q.arcs) : p = q := by
  obtain ⟨a, b, c⟩ := p; obtain ⟨d, e, f⟩ := q; simp only at *; subst h1 h2 h3; rfl
theorem rows_range (ls : List (List Int)) : (List.range ls.length).map (rowOf ls) = ls := by
  apply List.ext_getElem
  · simp
  · intro i h1 h2
    simp [rowOf_eq h2]
theorem filterMap_eq {α β : Type} {f g : α → Option β} : ∀ {l : List α}, (∀ a ∈ l, f a = g a) → l.filterMap f = l.filterMap g
  | [], _ => rfl
  | a :: l, h => by
    rw [List.filterMap_cons, List.filterMap_cons, h a (by simp), filterMap_eq (fun b hb => h b (by simp [hb]))]
theorem restr_restr {p : Pat} (h : Good p) {x y : List Int} (hx : validB p.len x = true) (hy : validB x y = true) : restr (restr p x) y = restr p y := by
  obtain ⟨hl, hb⟩ := valid_iff.1 hx
  obtain ⟨kl, kb⟩ := valid_iff.1 hy
  have hcl : (restr p x).ck.length = p.ck.length := by simp [restr]
  refine pat_ext rfl ?_ ?_
  · show (List.range (restr p x).ck.length).map _ = (List.range p.ck.length).map _
    rw [hcl]
    refine List.map_congr_left fun q hq => ?_
    have hq := List.mem_range.1 hq
    rw [restr_row hq, List.filter_filter]
    refine List.filter_congr fun k _ => ?_
    have := (kb q (by have := h.ckl; omega)).2
    by_cases hk : k ≤ nth y q
    · simp [hk]; omega
    · simp [hk]
  · show (p.arcs.filterMap (cutArc x)).filterMap (cutArc y) = p.arcs.filterMap (cutArc y)
    rw [List.filterMap_filterMap]
    refine filterMap_eq fun a ha => ?_
    have ho := h.arc a ha
    have h1 := kb a.fr (by have := ho.fr; omega)
    have h2 := kb a.to (by have := ho.to; omega)
    unfold cutArc
    by_cases c1 : nth x a.fr < a.ix
    · rw [if_pos c1, Option.bind_none, if_pos (by omega)]
    · rw [if_neg c1, Option.bind_some]
      by_cases c2 : nth x a.to < a.at_
      · rw [if_pos c2]
        by_cases c3 : nth y a.fr < a.ix
        · rw [if_pos c3, if_pos c3]
        · rw [if_neg c3, if_neg c3, if_pos (show nth y a.to < a.at_ by omega), if_neg (show ¬ nth y a.to < 0 by omega)]
      · rw [if_neg c2]
theorem restr_len {p : Pat} (h : Good p) : restr p p.len = p := by
  refine pat_ext rfl ?_ ?_
  · have : (List.range p.ck.length).map (fun q => (rowOf p.ck q).filter (fun k => decide (k ≤ nth p.len q))) = (List.range p.ck.length).map (rowOf p.ck) := by
      refine List.map_congr_left fun q hq => ?_
      have hq := List.mem_range.1 hq
      rw [List.filter_eq_self]
      intro k hk
      have := (h.row q (by have := h.ckl; omega)).le k hk
      simpa using this
    show (List.range p.ck.length).map _ = _
    rw [this, rows_range]
  · show p.arcs.filterMap (cutArc p.len) = p.arcs
    have h1 : p.arcs.filterMap (cutArc p.len) = p.arcs.filterMap some := filterMap_eq fun a ha => by
      have ho := h.arc a ha
      have := ho.ix1
      have := ho.at1
      unfold cutArc
      rw [if_neg (by omega), if_neg (by omega)]
    rw [h1]; simp
/-- was a message sent up to a cut; was it received, too -/
def sentB (x : List Int) (a : Arc) : Bool := decide (a.ix ≤ nth x a.fr)
def gotB (x : List Int) (a : Arc) : Bool := sentB x a && (decide (0 < a.at_) && decide (a.at_ ≤ nth x a.to))
theorem restr_sent (x : List Int) : ∀ (l : List Arc), (l.filterMap (cutArc x)).length = l.countP (sentB x)
  | [] => rfl
  | a :: l => by
    have ih := restr_sent x l
    by_cases h : nth x a.fr < a.ix
    · have h1 : cutArc x a = none := if_pos h
      have h2 : sentB x a = false := by simp [sentB]; omega
      rw [List.filterMap_cons, h1, List.countP_cons, h2]
      simpa using ih
    · obtain ⟨b, h1⟩ : ∃ b, cutArc x a = some b := ⟨_, if_neg h⟩
      have h2 : sentB x a = true := by simp [sentB]; omega
      rw [List.filterMap_cons, h1, List.countP_cons, h2]
      simpa using ih
theorem idxs_count (f : Arc → Bool) (l : List Arc) : ∀ k, k ≤ l.length → (idxs f l k).length = (l.take k).countP f
  | 0, _ => by simp [idxs]
  | k + 1, h => by
    rw [idxs_succ f l (by omega), List.take_succ_eq_append_getElem (by omega), List.countP_append, ← idxs_count f l k (by omega)]
    by_cases hf : f l[k] <;> simp [hf]
theorem transit_count {x : List Int} : ∀ {l : List Arc}, (∀ a ∈ l, 0 ≤ a.at_) → l.countP (transit x) + l.countP (gotB x) = l.countP (sentB x)
  | [], _ => rfl
  | a :: l, h => by
    have ih := transit_count (x := x) (l := l) (fun a ha => h a (by simp [ha]))
    have h0 := h a (by simp)
    rw [List.countP_cons, List.countP_cons, List.countP_cons]
    unfold transit gotB sentB at *
    by_cases h1 : a.ix ≤ nth x a.fr
    · by_cases h2 : a.at_ = 0
      · simp only [h1, h2] at *; simp; omega
      · by_cases h3 : nth x a.to < a.at_
        · have : ¬ a.at_ ≤ nth x a.to := by omega
          simp [h1, h2, h3, this] at *; omega
        · have h4 : a.at_ ≤ nth x a.to := by omega
          have h5 : 0 < a.at_ := by omega
          simp [h1, h2, h3, h4, h5] at *; omega
    · simp [h1] at *; omega
theorem countP_take_succ (f : Arc → Bool) {l : List Arc} {k : Nat} (hk : k < l.length) : (l.take (k + 1)).countP f = (l.take k).countP f + if f l[k] then 1 else 0 := by
  rw [List.take_succ_eq_append_getElem hk, List.countP_append]
  by_cases hf : f l[k] <;> simp [hf]
/-- a new message, cut off again: sent, and not received -/
theorem restr_recv {p : Pat} (h : Good p) {s q : Nat} {k : Int} (hq : q < p.len.length) (hk' : k ≤ nth p.len s) :
    restr ((p.more q).send ⟨s, k, q, nth p.len q + 1⟩) p.len = ⟨p.len, p.ck, p.arcs ++ [⟨s, k, q, 0⟩]⟩ := by
  have h0 := restr_len h
  refine pat_ext rfl ?_ ?_
  · show (restr p p.len).ck = p.ck
    rw [h0]
  · show (p.arcs ++ [_]).filterMap (cutArc p.len) = _
    rw [List.filterMap_append]
    have h1 : p.arcs.filterMap (cutArc p.len) = p.arcs := congrArg Pat.arcs h0
    rw [h1]
    congr 1
    have : cutArc p.len ⟨s, k, q, nth p.len q + 1⟩ = some ⟨s, k, q, 0⟩ := by
      unfold cutArc
      rw [if_neg (by simpa using hk'), if_pos (by simp; omega)]
    simp [this]
theorem valid_recv {p : Pat} (h : Good p) {q : Nat} {a : Arc} (hq : q < p.len.length) : validB ((p.more q).send a).len p.len = true := by
  refine valid_iff.2 ⟨by simp [Pat.more, Pat.send], fun j hj => ?_⟩
  have hj' : j < p.len.length := by simpa [Pat.more, Pat.send] using hj
  have := h.lo j hj'
  show 0 ≤ nth p.len j ∧ nth p.len j ≤ nth (p.more q).len j
  rw [nth_more hq]
  split
  · rename_i e; subst e; omega
  · omega
theorem mark_mem {p : Pat} (h : Good p) {q : Nat} (hq : q < p.len.length) : nth p.len q ∈ rowOf (p.mark q).ck q := by
  by_cases hm : nth p.len q ∈ rowOf p.ck q
  · rw [Pat.mark_same hm]; exact hm
  · rw [Pat.mark_new hm]
    have hq' : q < p.ck.length := by rw [h.ckl]; exact hq
    show nth p.len q ∈ rowOf (p.ck.set q _) q
    rw [rowOf_eq (by simpa using hq')]
    simp
theorem mark_again {p : Pat} (h : Good p) {q : Nat} (hq : q < p.len.length) : markI (p.mark q) (q : Int) = p.mark q := by
  unfold markI
  split
  · rw [Int.toNat_natCast]
    exact Pat.mark_same (by rw [Pat.mark_len]; exact mark_mem h hq)
  · rfl
theorem mark_last {p : Pat} (h : Good p) {q : Nat} (hq : q < p.len.length) : 0 < (rowOf (p.mark q).ck q).length ∧ nth (rowOf (p.mark q).ck q) ((rowOf (p.mark q).ck q).length - 1) = nth p.len q := by
  have hg := h.mark hq
  have hr := hg.row q (by rw [Pat.mark_len]; exact hq)
  rw [Pat.mark_len] at hr
  have hm := mark_mem h hq
  exact ⟨List.length_pos_of_mem hm, (last_mem hr).2 hm⟩
theorem app_stays {p : Pat} {m : Nat} (h : Small p m) (hm : m ≤ 24) {q s : Nat} {k : Int} (hq : q < p.len.length) (hs : s < p.len.length) (h0 : 0 ≤ k) (hk : k ≤ nth p.len s) :
    appRes p q s k = if q = s then (noPat, false) else ((p.more q).send ⟨s, k, q, nth p.len q + 1⟩, true) := by
  have h1 := h.ev q hq
  have h2 := h.few
  by_cases e : q = s
  · rw [if_pos e, appRes_no (fun hh => hh.2.2.elim (fun h => by omega) (fun h => h.2.1 (by omega)))]
  · rw [if_neg e, appRes_ok ⟨by omega, by simp; omega, .inr ⟨by omega, by omega, h0, by simpa using hk, by omega⟩⟩]
    rw [appPat, if_neg (by omega)]
    simp
theorem RA.front {S : Nat → Prop} {w : World} {A : Option Addr} {az bz : List Arc} (h : RA S w A (az ++ bz)) : RA S w A az := by
  have h1 := h.rv.take (az.length * 4)
  rw [List.flatMap_append, List.take_append_of_le_length (by rw [flat_length]; exact Nat.le_refl _), List.take_of_length_le (by rw [flat_length]; exact Nat.le_refl _)] at h1
  exact ⟨_, h1, reps_arcs w az⟩
theorem PatAt.cutBack {S : Nat → Prop} {w : World} {v : PV} {p rp : Pat} {bz : List Arc} (h : PatAt S w v rp) (he : rp.len = p.len ∧ rp.ck = p.ck ∧ rp.arcs = p.arcs ++ bz) (hc : p.arcs.length ≤ v.c3) : PatAt S w v p := by
  obtain ⟨e1, e2, e3⟩ := he
  have h1 := h.len
  have h2 := h.ck
  have h3 := h.arcs
  have h4 := h.l1
  have h5 := h.l2
  rw [e1] at h1 h4
  rw [e2] at h2 h5
  rw [e3] at h3
  exact ⟨h1, h2, h3.front, h4, h.m1, h5, h.m2, hc, h.m3⟩
end Go.Proofs.Ytjclgbkfnliiaaa
