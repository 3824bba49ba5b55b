/- What really happened in a run of the snapshot machine: the messages as a pattern, and what a snapshot records of it. Plain law. No condition. -/
import Derived.Test.YtombhhhaidmpeaaSnEnd
import Derived.Test.YtombhhhaidmpeaaGa
namespace Go.Proofs.Ytombhhhaidmpeaa
open Go.RowKit
set_option linter.unusedVariables false
set_option linter.unusedSimpArgs false

/-- the numbers of the messages of a kind -/
def sel (az : List Arc) (P : Arc → Bool) : List Nat := (List.range az.length).filter fun i => P (arcOf az i)
theorem sel_mem {az : List Arc} {P : Arc → Bool} {i : Nat} : i ∈ sel az P ↔ i < az.length ∧ P (arcOf az i) = true := by simp [sel]
theorem sel_sorted (az : List Arc) (P : Arc → Bool) : (sel az P).Pairwise (· < ·) := List.Pairwise.filter _ List.pairwise_lt_range
theorem sorted_ext : ∀ {l m : List Nat}, l.Pairwise (· < ·) → m.Pairwise (· < ·) → (∀ x, x ∈ l ↔ x ∈ m) → l = m
  | [], [], _, _, _ => rfl
  | [], y :: m, _, _, h => absurd ((h y).2 (by simp)) (by simp)
  | x :: l, [], _, _, h => absurd ((h x).1 (by simp)) (by simp)
  | x :: l, y :: m, h1, h2, h => by
    rw [List.pairwise_cons] at h1 h2
    have e : x = y := by
      have hx := (h x).1 (by simp)
      have hy := (h y).2 (by simp)
      rcases List.mem_cons.1 hx with e | hx
      · exact e
      · rcases List.mem_cons.1 hy with e | hy
        · exact e.symm
        · have := h1.1 y hy; have := h2.1 x hx; omega
    subst e
    refine congrArg _ (sorted_ext h1.2 h2.2 fun z => ?_)
    constructor
    · intro hz
      have h3 := h1.1 z hz
      rcases List.mem_cons.1 ((h z).1 (by simp [hz])) with e | h4
      · omega
      · exact h4
    · intro hz
      have h3 := h2.1 z hz
      rcases List.mem_cons.1 ((h z).2 (by simp [hz])) with e | h4
      · omega
      · exact h4
theorem sel_eq {az : List Arc} {P : Arc → Bool} {l : List Nat} (hl : l.Pairwise (· < ·)) (h : ∀ i, i ∈ l ↔ i < az.length ∧ P (arcOf az i) = true) : sel az P = l :=
  sorted_ext (sel_sorted _ _) hl (fun i => sel_mem.trans (h i).symm)
theorem sel_congr {az bz : List Arc} {P Q : Arc → Bool} (hl : az.length = bz.length) (h : ∀ i, i < az.length → P (arcOf az i) = Q (arcOf bz i)) : sel az P = sel bz Q :=
  sel_eq (sel_sorted _ _) (fun i => by rw [sel_mem, ← hl]; constructor <;> rintro ⟨h1, h2⟩ <;> exact ⟨h1, by rw [← h2, h i h1]⟩)
theorem arcOf_app {az : List Arc} {x : Arc} {i : Nat} : arcOf (az ++ [x]) i = if i < az.length then arcOf az i else if i = az.length then x else arc0 := by
  simp only [arcOf, List.getD_eq_getElem?_getD, List.getElem?_append]
  split
  · rfl
  · split
    · rename_i e; subst e; simp
    · rw [List.getElem?_eq_none (by simp; omega)]; rfl
theorem arcOf_set {az : List Arc} {k i : Nat} (hk : k < az.length) (x : Arc) : arcOf (az.set k x) i = if k = i then x else arcOf az i := by
  simp only [arcOf, List.getD_eq_getElem?_getD]
  split
  · rename_i e; subst e; simp [hk]
  · rename_i e; rw [List.getElem?_set_ne e]
theorem arcOf_in {az : List Arc} {i : Nat} (h : i < az.length) : arcOf az i ∈ az := by simp [arcOf, h]
theorem sel_app (az : List Arc) (x : Arc) (P : Arc → Bool) : sel (az ++ [x]) P = sel az P ++ if P x = true then [az.length] else [] := by
  refine sel_eq ?_ fun i => ?_
  · rw [List.pairwise_append]
    refine ⟨sel_sorted _ _, by split <;> simp, fun a ha b hb => ?_⟩
    have h1 := (sel_mem.1 ha).1
    split at hb
    · rw [List.mem_singleton.1 hb]; exact h1
    · cases hb
  · rw [List.mem_append, sel_mem, arcOf_app, List.length_append, List.length_singleton]
    by_cases h1 : i < az.length
    · rw [if_pos h1]
      constructor
      · rintro (h | h)
        · exact ⟨by omega, h.2⟩
        · split at h
          · have := List.mem_singleton.1 h; omega
          · cases h
      · rintro ⟨_, h⟩; exact .inl ⟨h1, h⟩
    · rw [if_neg h1]
      by_cases h2 : i = az.length
      · rw [if_pos h2]
        constructor
        · rintro (h | h)
          · omega
          · split at h
            · rename_i hp; exact ⟨by omega, hp⟩
            · cases h
        · rintro ⟨_, h⟩; right; rw [if_pos h]; simp [h2]
      · constructor
        · rintro (h | h)
          · omega
          · split at h
            · have := List.mem_singleton.1 h; omega
            · cases h
        · rintro ⟨h, _⟩; omega
/-- channel a to c -/
def chB (a c : Nat) (x : Arc) : Bool := decide (x.fr = a) && decide (x.to = c)
theorem chB_iff {a c : Nat} {x : Arc} : chB a c x = true ↔ x.fr = a ∧ x.to = c := by simp [chB]
def waitB (a c : Nat) (x : Arc) : Bool := chB a c x && decide (x.at_ = 0)
theorem waitB_iff {a c : Nat} {x : Arc} : waitB a c x = true ↔ (x.fr = a ∧ x.to = c) ∧ x.at_ = 0 := by simp [waitB, chB_iff]
/-- received behind the cut cc, sent up to the cut ca -/
def recB (a c : Nat) (ca cc : Int) (x : Arc) : Bool := chB a c x && (decide (0 < x.at_) && decide (cc < x.at_)) && (decide (ca < 0) || decide (x.ix ≤ ca))
theorem recB_iff {a c : Nat} {ca cc : Int} {x : Arc} : recB a c ca cc x = true ↔ (x.fr = a ∧ x.to = c) ∧ (0 < x.at_ ∧ cc < x.at_) ∧ (ca < 0 ∨ x.ix ≤ ca) := by
  simp [recB, chB_iff, and_assoc]
def qOf (qs : List (List Nat)) (k : Nat) : List Nat := qs.getD k []
theorem qOf_set {qs : List (List Nat)} {k j : Nat} (h : k < qs.length) (l : List Nat) : qOf (qs.set k l) j = if k = j then l else qOf qs j := by
  by_cases e : k = j
  · subst e; simp [qOf, h]
  · rw [if_neg e]; simp only [qOf, List.getD_eq_getElem?_getD, List.getElem?_set_ne e]
theorem qset {n : Nat} {qs : List (List Nat)} (hl : qs.length = n * n) {p q a c : Nat} (hp : p < n) (hq : q < n) (hc : c < n) (l : List Nat) : qOf (qs.set (p * n + q) l) (a * n + c) = if p = a ∧ q = c then l else qOf qs (a * n + c) := by
  rw [qOf_set (by rw [hl]; exact ch_lt hp hq)]
  simp only [ch_inj hq hc]
/-- where the marker stands in a channel -/
def MkAt (az : List Arc) (vs : List Int) (ca : Int) (Q : List Nat) (L : List Pcl) : Prop :=
  ∃ Q1 Q2 L1 L2, Q = Q1 ++ Q2 ∧ L = L1 ++ (true, 0) :: L2 ∧ Q1.map (nth vs) = pvals L1 ∧ Q2.map (nth vs) = pvals L2 ∧ marks L1 = 0 ∧ (∀ i ∈ Q1, (arcOf az i).ix ≤ ca) ∧ ∀ i ∈ Q2, ca < (arcOf az i).ix
/-- the pattern p, the values vs, the queues qs are what happened up to the state s -/
structure TrOk (n : Nat) (s : Snp) (p : Pat) (vs : List Int) (qs : List (List Nat)) : Prop where
  len : p.len = s.cnts
  ck : p.ck = List.replicate n [0]
  vl : vs.length = p.arcs.length
  ql : qs.length = n * n
  good : Good p
  cc : ∀ q, q < n → nth s.cut q ≤ nth s.cnts q
  ixs : ∀ i j, i < j → j < p.arcs.length → (arcOf p.arcs i).fr = (arcOf p.arcs j).fr → (arcOf p.arcs i).ix < (arcOf p.arcs j).ix
  fifo : ∀ i j, i < j → j < p.arcs.length → (arcOf p.arcs i).fr = (arcOf p.arcs j).fr → (arcOf p.arcs i).to = (arcOf p.arcs j).to → (arcOf p.arcs j).at_ ≠ 0 → (arcOf p.arcs i).at_ ≠ 0
  q : ∀ a c, a < n → c < n → qOf qs (a * n + c) = sel p.arcs (waitB a c)
  w : ∀ a c, a < n → c < n → (qOf qs (a * n + c)).map (nth vs) = pvals (chOf s.chs (a * n + c))
  mkr : ∀ a c, a < n → c < n → a ≠ c → 0 ≤ nth s.cut a → marks (chOf s.chs (a * n + c)) = 1 → MkAt p.arcs vs (nth s.cut a) (qOf qs (a * n + c)) (chOf s.chs (a * n + c)) ∧ ∀ i, i < p.arcs.length → (arcOf p.arcs i).fr = a → (arcOf p.arcs i).to = c → (arcOf p.arcs i).at_ ≠ 0 → (arcOf p.arcs i).ix ≤ nth s.cut a
  dn : ∀ a c, a < n → c < n → a ≠ c → 0 ≤ nth s.cut a → marks (chOf s.chs (a * n + c)) = 0 → ∀ i, i < p.arcs.length → (arcOf p.arcs i).fr = a → (arcOf p.arcs i).to = c → ((arcOf p.arcs i).ix ≤ nth s.cut a → (arcOf p.arcs i).at_ ≠ 0) ∧ (nth s.cut a < (arcOf p.arcs i).ix → (arcOf p.arcs i).at_ ≠ 0 → nth s.cut c < (arcOf p.arcs i).at_)
  rc : ∀ a c, a < n → c < n → a ≠ c → 0 ≤ nth s.cut c → rowOf s.recs (a * n + c) = (sel p.arcs (recB a c (nth s.cut a) (nth s.cut c))).map (nth vs)
section
variable {n b : Nat} {s : Snp} {p : Pat} {vs : List Int} {qs : List (List Nat)}
theorem TrOk.arc (h : TrOk n s p vs qs) (hok : SnOk n b s) {i : Nat} (hi : i < p.arcs.length) : (arcOf p.arcs i).fr < n ∧ (arcOf p.arcs i).to < n ∧ (arcOf p.arcs i).fr ≠ (arcOf p.arcs i).to ∧ (arcOf p.arcs i).ix ≤ nth s.cnts (arcOf p.arcs i).fr ∧ 0 ≤ (arcOf p.arcs i).at_ ∧ (arcOf p.arcs i).at_ ≤ nth s.cnts (arcOf p.arcs i).to := by
  have h1 := h.good.arc _ (arcOf_in hi)
  have hl : p.len.length = n := by rw [h.len]; exact hok.lc
  rw [hl] at h1
  refine ⟨h1.fr, h1.to, h1.ne, ?_, h1.at0, ?_⟩
  · rw [← h.len]; exact h1.ix1
  · rw [← h.len]; exact h1.at1
/-- a process records its state -/
theorem TrOk.recd (h : TrOk n s p vs qs) (hok : SnOk n b s) {q : Nat} (hq : q < n) (hu : nth s.cut q < 0) (hun : ∀ c, c < n → c ≠ q → marks (chOf s.chs (q * n + c)) = 0)
    (hcl : ∀ a, a < n → a ≠ q → rowOf s.recs (a * n + q) = []) (hx : ∀ a, a < n → a ≠ q → 0 ≤ nth s.cut a → marks (chOf s.chs (a * n + q)) = 0 → ∀ i, i < p.arcs.length → (arcOf p.arcs i).fr = a → (arcOf p.arcs i).to = q → (arcOf p.arcs i).at_ ≠ 0 → (arcOf p.arcs i).ix ≤ nth s.cut a) :
    TrOk n (recR s q n) p vs qs := by
  have hcn0 := (hok.cb q hq).1
  have hch : ∀ a c, a < n → c < n → chOf (recR s q n).chs (a * n + c) = if a = q ∧ c ≠ q then chOf s.chs (a * n + c) ++ [(true, 0)] else chOf s.chs (a * n + c) := fun a c ha hc => recR_ch hok hq ha hc
  have hcut : ∀ a, nth (recR s q n).cut a = if q = a then nth s.cnts q else nth s.cut a := fun a => recR_cut hok hq
  refine { len := h.len, ck := h.ck, vl := h.vl, ql := h.ql, good := h.good, ixs := h.ixs, fifo := h.fifo, q := h.q, cc := ?_, w := ?_, mkr := ?_, dn := ?_, rc := ?_ }
  · intro a ha
    rw [hcut]
    show _ ≤ nth s.cnts a
    split
    · rename_i e; subst e; omega
    · exact h.cc a ha
  · intro a c ha hc
    rw [hch a c ha hc, h.w a c ha hc]
    split
    · rw [pvals_append, pvals_mark, List.append_nil]
    · rfl
  · intro a c ha hc hne h0 hm
    rw [hcut] at h0 ⊢
    rw [hch a c ha hc] at hm ⊢
    by_cases e : q = a
    · subst e
      have e2 : q = q ∧ c ≠ q := ⟨rfl, fun h => hne h.symm⟩
      rw [if_pos e2, if_pos rfl]
      refine ⟨⟨qOf qs (q * n + c), [], chOf s.chs (q * n + c), [], by simp, rfl, h.w q c hq hc, rfl, hun c hc e2.2, fun i hi => ?_, by simp⟩, fun i hi hf ht _ => ?_⟩
      · rw [h.q q c hq hc, sel_mem, waitB_iff] at hi
        have h2 := h.arc hok hi.1
        rw [hi.2.1.1] at h2
        exact h2.2.2.2.1
      · have h2 := h.arc hok hi
        rw [hf] at h2
        exact h2.2.2.2.1
    · have e2 : ¬ (a = q ∧ c ≠ q) := fun h => e h.1.symm
      rw [if_neg e2] at hm ⊢
      rw [if_neg e] at h0 ⊢
      exact h.mkr a c ha hc hne h0 hm
  · intro a c ha hc hne h0 hm i hi hf ht
    rw [hcut] at h0 ⊢
    rw [hcut]
    rw [hch a c ha hc] at hm
    by_cases e : q = a
    · subst e
      have e2 : q = q ∧ c ≠ q := ⟨rfl, fun h => hne h.symm⟩
      rw [if_pos e2, marks_append, marks_mark] at hm
      omega
    · have e2 : ¬ (a = q ∧ c ≠ q) := fun h => e h.1.symm
      rw [if_neg e2] at hm
      rw [if_neg e] at h0 ⊢
      obtain ⟨d1, d2⟩ := h.dn a c ha hc hne h0 hm i hi hf ht
      refine ⟨d1, fun h1 h2 => ?_⟩
      split
      · rename_i e3
        subst e3
        have := hx a ha hne h0 hm i hi hf ht h2
        omega
      · exact d2 h1 h2
  · intro a c ha hc hne h0
    rw [hcut] at h0 ⊢
    rw [hcut]
    show rowOf s.recs (a * n + c) = _
    by_cases e : q = c
    · subst e
      rw [if_pos rfl, hcl a ha hne, if_neg (Ne.symm hne)]
      rw [show sel p.arcs (recB a q (nth s.cut a) (nth s.cnts q)) = [] from sel_eq List.Pairwise.nil (fun i => by
        constructor
        · intro hh; cases hh
        · rintro ⟨hi, h1⟩
          rw [recB_iff] at h1
          have h2 := h.arc hok hi
          rw [h1.1.2] at h2
          have := h1.2.1.2
          omega)]
      rfl
    · rw [if_neg e] at h0 ⊢
      rw [h.rc a c ha hc hne h0]
      congr 1
      refine sel_congr rfl fun i hi => ?_
      rw [Bool.eq_iff_iff, recB_iff, recB_iff]
      by_cases e2 : q = a
      · subst e2
        rw [if_pos rfl]
        constructor
        · rintro ⟨h1, h2, _⟩
          have h3 := h.arc hok hi
          rw [h1.1] at h3
          exact ⟨h1, h2, .inr h3.2.2.2.1⟩
        · rintro ⟨h1, h2, _⟩; exact ⟨h1, h2, .inl hu⟩
      · rw [if_neg e2]
/-- the marker at the head of a channel is taken out -/
theorem TrOk.pop (h : TrOk n s p vs qs) (hok : SnOk n b s) (hi : SnInv n s) {a0 q : Nat} (hp : a0 < n) (hq : q < n) (hne : a0 ≠ q) {x : Pcl} {l : List Pcl} (hx : chOf s.chs (a0 * n + q) = x :: l) (hm : x.1 = true) :
    TrOk n (popS s (a0 * n + q)) p vs qs ∧ ∀ i, i < p.arcs.length → (arcOf p.arcs i).fr = a0 → (arcOf p.arcs i).to = q → (arcOf p.arcs i).at_ ≠ 0 → (arcOf p.arcs i).ix ≤ nth s.cut a0 := by
  obtain ⟨hc0, hml⟩ := hi.sent hp hq hne hx hm
  have hch : ∀ a c, a < n → c < n → chOf (popS s (a0 * n + q)).chs (a * n + c) = if a0 = a ∧ q = c then l else chOf s.chs (a * n + c) := fun a c ha hc => by
    simp only [popS]; rw [set_ch hok.lh hp hq hc, hx, List.tail_cons]
  have hm1 : marks (chOf s.chs (a0 * n + q)) = 1 := by rw [hx, marks_cons, if_pos hm, hml]
  obtain ⟨⟨Q1, Q2, L1, L2, e1, e2, e3, e4, e5, e6, e7⟩, hrc⟩ := h.mkr a0 q hp hq hne hc0 hm1
  have hL1 : L1 = [] := by
    cases L1 with
    | nil => rfl
    | cons y L1 =>
      rw [hx, List.cons_append] at e2
      injection e2 with e2 _
      subst e2
      rw [marks_cons, if_pos hm] at e5
      omega
  have hQ1 : Q1 = [] := by
    rw [hL1] at e3
    simpa [pvals] using e3
  rw [hQ1, List.nil_append] at e1
  refine ⟨{ len := h.len, ck := h.ck, vl := h.vl, ql := h.ql, good := h.good, cc := h.cc, ixs := h.ixs, fifo := h.fifo, q := h.q, w := ?_, mkr := ?_, dn := ?_, rc := h.rc }, hrc⟩
  · intro a c ha hc
    rw [hch a c ha hc, h.w a c ha hc]
    split
    · rename_i e; obtain ⟨rfl, rfl⟩ := e; rw [hx, pvals_cons, if_pos hm]
    · rfl
  · intro a c ha hc hn h0 hmm
    rw [hch a c ha hc] at hmm ⊢
    by_cases e : a0 = a ∧ q = c
    · rw [if_pos e, hml] at hmm; cases hmm
    · rw [if_neg e] at hmm ⊢
      exact h.mkr a c ha hc hn h0 hmm
  · intro a c ha hc hn h0 hmm i hi2 hf ht
    rw [hch a c ha hc] at hmm
    by_cases e : a0 = a ∧ q = c
    · obtain ⟨rfl, rfl⟩ := e
      refine ⟨fun h1 h2 => ?_, fun h1 h2 => ?_⟩
      · have h3 : i ∈ qOf qs (a0 * n + q) := by rw [h.q a0 q hp hq, sel_mem, waitB_iff]; exact ⟨hi2, ⟨hf, ht⟩, h2⟩
        rw [e1] at h3
        have h4 := e7 i h3
        have h5 : (arcOf p.arcs i).ix ≤ nth s.cut a0 := h1
        omega
      · have h4 := hrc i hi2 hf ht h2
        have h5 : nth s.cut a0 < (arcOf p.arcs i).ix := h1
        omega
    · rw [if_neg e] at hmm
      exact h.dn a c ha hc hn h0 hmm i hi2 hf ht
theorem TrOk.opn (h : TrOk n s p vs qs) (o : List Bool) : TrOk n { s with opn := o } p vs qs :=
  { len := h.len, ck := h.ck, vl := h.vl, ql := h.ql, good := h.good, cc := h.cc, ixs := h.ixs, fifo := h.fifo, q := h.q, w := h.w, mkr := h.mkr, dn := h.dn, rc := h.rc }
theorem TrOk.begin (h : TrOk n s p vs qs) (hok : SnOk n b s) (hi : SnInv n s) {q : Nat} (hq : q < n) : TrOk n (recS s q) p vs qs := by
  by_cases hu : nth s.cut q < 0
  · rw [recS_eq hok hu]
    refine h.recd hok hq hu (fun c hc hne => hi.un q c hq hc (by omega) hu) (fun a ha hne => (hi.cl a q ha hq hne hu).2) (fun a ha hne h0 hm => ?_)
    rcases hi.re a q ha hq hne h0 with h1 | ⟨_, h1, _⟩ <;> omega
  · rw [recS_same hu]; exact h
theorem TrOk.mark (h : TrOk n s p vs qs) (hok : SnOk n b s) (hi : SnInv n s) {a0 q : Nat} (hp : a0 < n) (hq : q < n) (hne : a0 ≠ q) {x : Pcl} {l : List Pcl} (hx : chOf s.chs (a0 * n + q) = x :: l) (hm : x.1 = true) : TrOk n (markS s (a0 * n + q) q) p vs qs := by
  obtain ⟨h1, h2⟩ := h.pop hok hi hp hq hne hx hm
  have hpok := popS_ok (k := a0 * n + q) hok (ch_lt hp hq)
  have hch : ∀ a c, a < n → c < n → ¬ (a0 = a ∧ q = c) → chOf (popS s (a0 * n + q)).chs (a * n + c) = chOf s.chs (a * n + c) := fun a c ha hc hn => by
    simp only [popS]; rw [set_ch hok.lh hp hq hc, if_neg hn]
  have key : TrOk n (recS (popS s (a0 * n + q)) q) p vs qs := by
    by_cases hu : nth s.cut q < 0
    · rw [recS_eq hpok hu]
      refine h1.recd hpok hq hu (fun c hc hcq => ?_) (fun a ha haq => (hi.cl a q ha hq haq hu).2) (fun a ha haq h0 hmm => ?_)
      · rw [hch q c hq hc (fun e => hne e.1)]
        exact hi.un q c hq hc (by omega) hu
      · by_cases e : a0 = a
        · subst e; exact h2
        · rw [hch a q ha hq (fun h => e h.1)] at hmm
          rcases hi.re a q ha hq haq h0 with h3 | ⟨_, h3, _⟩ <;> omega
    · rw [recS_same (s := popS s (a0 * n + q)) hu]; exact h1
  exact key.opn _
/-- the pattern with one more message sent -/
def sendP (p : Pat) (a c : Nat) : Pat := { p with len := p.len.set a (nth p.len a + 1), arcs := p.arcs ++ [⟨a, nth p.len a + 1, c, 0⟩] }
/-- the pattern with message i received -/
def takeP (p : Pat) (i c : Nat) : Pat := { p with len := p.len.set c (nth p.len c + 1), arcs := p.arcs.set i { arcOf p.arcs i with at_ := nth p.len c + 1 } }
theorem Good.sendP {p : Pat} (h : Good p) {a c : Nat} (ha : a < p.len.length) (hc : c < p.len.length) (hne : a ≠ c) (hl : nth p.len a < 64) (hf : p.arcs.length < 256) : Good (sendP p a c) := by
  obtain ⟨rk, N, hr1, hr2⟩ := h.rank
  obtain ⟨k1, k2⟩ := h.rankMore ha hr1 hr2
  have hlo := h.lo a ha
  have hmono : ∀ q, q < p.len.length → nth p.len q ≤ nth (p.len.set a (nth p.len a + 1)) q := fun q hq => by
    rw [nth_set ha]; split
    · rename_i e; subst e; omega
    · omega
  have hln : (p.len.set a (nth p.len a + 1)).length = p.len.length := List.length_set
  refine { n2 := by simp only [Proofs.Ytombhhhaidmpeaa.sendP, hln]; exact h.n2, n5 := by simp only [Proofs.Ytombhhhaidmpeaa.sendP, hln]; exact h.n5, ckl := by simp only [Proofs.Ytombhhhaidmpeaa.sendP, hln]; exact h.ckl, lo := ?_, hi := ?_, row := ?_, arc := ?_, uniq := ?_, few := by simp only [Proofs.Ytombhhhaidmpeaa.sendP, List.length_append, List.length_singleton]; omega, rank := ⟨rkMore rk a (nth p.len a + 1) (N + 1), N + 1, ⟨?_, ?_⟩, ?_⟩ }
  · intro q hq
    simp only [Proofs.Ytombhhhaidmpeaa.sendP, hln] at hq ⊢
    have := hmono q hq; have := h.lo q hq; omega
  · intro q hq
    simp only [Proofs.Ytombhhhaidmpeaa.sendP, hln] at hq ⊢
    rw [nth_set ha]; split
    · omega
    · exact h.hi q hq
  · intro q hq
    simp only [Proofs.Ytombhhhaidmpeaa.sendP, hln] at hq ⊢
    exact (h.row q hq).mono (hmono q hq)
  · intro x hx
    simp only [Proofs.Ytombhhhaidmpeaa.sendP, hln] at hx ⊢
    rcases List.mem_append.1 hx with hx | hx
    · exact (h.arc x hx).mono hmono
    · rw [List.mem_singleton.1 hx]
      exact ⟨ha, hc, hne, by simp only; omega, by simp only; rw [nth_set_same ha]; exact Int.le_refl _, by simp only; omega, by simp only; have := hmono c hc; have := h.lo c hc; omega⟩
  · intro i j hi hj hij ht hat
    simp only [Proofs.Ytombhhhaidmpeaa.sendP] at hi hj ht hat ⊢
    have hi' : i < p.arcs.length := by simp at hj; omega
    rw [List.getElem_append_left hi'] at ht hat ⊢
    by_cases e : j < p.arcs.length
    · rw [List.getElem_append_left e] at ht hat
      exact h.uniq i j hi' e hij ht hat
    · rw [List.getElem_append_right (by omega)] at hat
      simpa using hat
  · intro q hq k hk hlt
    have e : (Proofs.Ytombhhhaidmpeaa.sendP p a c).len = (p.more a).len := rfl
    rw [e] at hq hlt
    have hq2 : q < p.len.length := by simpa [Pat.more] using hq
    exact k1.1 q hq2 k hk hlt
  · intro x hx hn
    rcases List.mem_append.1 hx with hx | hx
    · exact k1.2 x hx hn
    · rw [List.mem_singleton.1 hx] at hn
      exact absurd rfl hn
  · intro q hq k hk hle
    have e : (Proofs.Ytombhhhaidmpeaa.sendP p a c).len = (p.more a).len := rfl
    rw [e] at hq hle
    have hq2 : q < p.len.length := by simpa [Pat.more] using hq
    exact k2 q hq2 k hk hle
theorem Good.takeP {p : Pat} (h : Good p) {i c : Nat} (hi : i < p.arcs.length) (hto : (arcOf p.arcs i).to = c) (h0 : (arcOf p.arcs i).at_ = 0) (hl : nth p.len c < 64) : Good (takeP p i c) := by
  obtain ⟨rk, N, hr1, hr2⟩ := h.rank
  have hai := h.arc _ (arcOf_in hi)
  have hc : c < p.len.length := by rw [← hto]; exact hai.to
  obtain ⟨k1, k2⟩ := h.rankMore hc hr1 hr2
  have hlo := h.lo c hc
  have hmono : ∀ q, q < p.len.length → nth p.len q ≤ nth (p.len.set c (nth p.len c + 1)) q := fun q hq => by
    rw [nth_set hc]; split
    · rename_i e; subst e; omega
    · omega
  have hln : (p.len.set c (nth p.len c + 1)).length = p.len.length := List.length_set
  have hmem : ∀ x, x ∈ p.arcs.set i { arcOf p.arcs i with at_ := nth p.len c + 1 } → x ∈ p.arcs ∨ x = { arcOf p.arcs i with at_ := nth p.len c + 1 } := fun x hx => List.mem_or_eq_of_mem_set hx
  have hget : ∀ j (hj : j < p.arcs.length), p.arcs[j] = arcOf p.arcs j := fun j hj => by simp [arcOf, hj]
  refine { n2 := by simp only [Proofs.Ytombhhhaidmpeaa.takeP, hln]; exact h.n2, n5 := by simp only [Proofs.Ytombhhhaidmpeaa.takeP, hln]; exact h.n5, ckl := by simp only [Proofs.Ytombhhhaidmpeaa.takeP, hln]; exact h.ckl, lo := ?_, hi := ?_, row := ?_, arc := ?_, uniq := ?_, few := by simp only [Proofs.Ytombhhhaidmpeaa.takeP, List.length_set]; exact h.few, rank := ⟨rkMore rk c (nth p.len c + 1) (N + 1), N + 1, ⟨?_, ?_⟩, ?_⟩ }
  · intro q hq
    simp only [Proofs.Ytombhhhaidmpeaa.takeP, hln] at hq ⊢
    have := hmono q hq; have := h.lo q hq; omega
  · intro q hq
    simp only [Proofs.Ytombhhhaidmpeaa.takeP, hln] at hq ⊢
    rw [nth_set hc]; split
    · omega
    · exact h.hi q hq
  · intro q hq
    simp only [Proofs.Ytombhhhaidmpeaa.takeP, hln] at hq ⊢
    exact (h.row q hq).mono (hmono q hq)
  · intro x hx
    simp only [Proofs.Ytombhhhaidmpeaa.takeP, hln] at hx ⊢
    rcases hmem x hx with hx | rfl
    · exact (h.arc x hx).mono hmono
    · have h2 := hai.mono hmono
      exact ⟨h2.fr, h2.to, h2.ne, h2.ix0, h2.ix1, by simp only; omega, by simp only; rw [hto, nth_set_same hc]; exact Int.le_refl _⟩
  · have key : ∀ j k, j < p.arcs.length → k < p.arcs.length → j < k → (arcOf (p.arcs.set i { arcOf p.arcs i with at_ := nth p.len c + 1 }) j).to = (arcOf (p.arcs.set i { arcOf p.arcs i with at_ := nth p.len c + 1 }) k).to → (arcOf (p.arcs.set i { arcOf p.arcs i with at_ := nth p.len c + 1 }) j).at_ = (arcOf (p.arcs.set i { arcOf p.arcs i with at_ := nth p.len c + 1 }) k).at_ → (arcOf (p.arcs.set i { arcOf p.arcs i with at_ := nth p.len c + 1 }) j).at_ = 0 := by
      intro j k hj hk hjk ht hat
      rw [arcOf_set hi, arcOf_set hi] at ht hat
      rw [arcOf_set hi]
      have hbd : ∀ m, m < p.arcs.length → (arcOf p.arcs m).at_ ≤ nth p.len (arcOf p.arcs m).to := fun m hm => (h.arc _ (arcOf_in hm)).at1
      by_cases e1 : i = j
      · subst e1
        rw [if_pos rfl] at ht hat
        rw [if_neg (by omega)] at ht hat
        simp only at ht hat
        have := hbd k hk
        rw [← ht, hto] at this
        omega
      · rw [if_neg e1] at ht hat ⊢
        by_cases e2 : i = k
        · subst e2
          rw [if_pos rfl] at ht hat
          simp only at ht hat
          have := hbd j hj
          rw [ht, hto] at this
          omega
        · rw [if_neg e2] at ht hat
          have := h.uniq j k hj hk hjk (by rw [hget j hj, hget k hk]; exact ht) (by rw [hget j hj, hget k hk]; exact hat)
          rw [hget j hj] at this
          exact this
    intro j k hj hk hjk ht hat
    have hj2 : j < p.arcs.length := by simpa [Proofs.Ytombhhhaidmpeaa.takeP] using hj
    have hk2 : k < p.arcs.length := by simpa [Proofs.Ytombhhhaidmpeaa.takeP] using hk
    have hg2 : ∀ m (hm : m < (Proofs.Ytombhhhaidmpeaa.takeP p i c).arcs.length), (Proofs.Ytombhhhaidmpeaa.takeP p i c).arcs[m] = arcOf (p.arcs.set i { arcOf p.arcs i with at_ := nth p.len c + 1 }) m := fun m hm => by
      have hm2 : m < (p.arcs.set i { arcOf p.arcs i with at_ := nth p.len c + 1 }).length := hm
      exact (arcOf_eq hm2).symm
    rw [hg2 j hj, hg2 k hk] at ht hat
    rw [hg2 j hj]
    exact key j k hj2 hk2 hjk ht hat
  · intro q hq k hk hlt
    have e : (Proofs.Ytombhhhaidmpeaa.takeP p i c).len = (p.more c).len := rfl
    rw [e] at hq hlt
    have hq2 : q < p.len.length := by simpa [Pat.more] using hq
    exact k1.1 q hq2 k hk hlt
  · intro x hx hn
    rcases hmem x hx with hx | rfl
    · exact k1.2 x hx hn
    · simp only
      rw [hto, rkMore_new, rkMore_old _ _ (fun h => hai.ne (h.1.trans hto.symm))]
      have := hr2 _ hai.fr _ hai.ix0 hai.ix1
      omega
  · intro q hq k hk hle
    have e : (Proofs.Ytombhhhaidmpeaa.takeP p i c).len = (p.more c).len := rfl
    rw [e] at hq hle
    have hq2 : q < p.len.length := by simpa [Pat.more] using hq
    exact k2 q hq2 k hk hle
/-- a value is sent -/
theorem TrOk.send (h : TrOk n s p vs qs) (hok : SnOk n b s) (hb : b ≤ 50) {a0 q : Nat} (hp : a0 < n) (hq : q < n) (hne : a0 ≠ q) (hal : p.arcs.length ≤ b) (v : Int) :
    TrOk n (sendS s a0 q v) (sendP p a0 q) (vs ++ [v]) (qs.set (a0 * n + q) (qOf qs (a0 * n + q) ++ [p.arcs.length])) := by
  have hpl : p.len.length = n := by rw [h.len]; exact hok.lc
  have hcb := hok.cb a0 hp
  have hlen : nth p.len a0 = nth s.cnts a0 := by rw [h.len]
  have hold : ∀ i, i < p.arcs.length → arcOf (p.arcs ++ [⟨a0, nth p.len a0 + 1, q, 0⟩]) i = arcOf p.arcs i := fun i hi => by rw [arcOf_app, if_pos hi]
  have hnew : arcOf (p.arcs ++ [⟨a0, nth p.len a0 + 1, q, 0⟩]) p.arcs.length = ⟨a0, nth p.len a0 + 1, q, 0⟩ := by rw [arcOf_app, if_neg (Nat.lt_irrefl _), if_pos rfl]
  have hvs : ∀ l : List Nat, (∀ i ∈ l, i < p.arcs.length) → l.map (nth (vs ++ [v])) = l.map (nth vs) := fun l hl => by
    refine List.map_congr_left fun i hi => ?_
    have := hl i hi
    simp only [nth, List.getD_eq_getElem?_getD]
    rw [List.getElem?_append_left (by rw [h.vl]; exact this)]
  have hvn : nth (vs ++ [v]) p.arcs.length = v := by
    rw [nth_eq (by simp [h.vl]), List.getElem_append_right (by rw [h.vl]; exact Nat.le_refl _)]
    simp
  have hch : ∀ a c, a < n → c < n → chOf (sendS s a0 q v).chs (a * n + c) = if a0 = a ∧ q = c then chOf s.chs (a * n + c) ++ [(false, v)] else chOf s.chs (a * n + c) := fun a c ha hc => by
    simp only [sendS, hok.lv]
    rw [set_ch hok.lh hp hq hc]
    split
    · rename_i e; obtain ⟨rfl, rfl⟩ := e; rfl
    · rfl
  have hqq : ∀ a c, a < n → c < n → qOf (qs.set (a0 * n + q) (qOf qs (a0 * n + q) ++ [p.arcs.length])) (a * n + c) = if a0 = a ∧ q = c then qOf qs (a * n + c) ++ [p.arcs.length] else qOf qs (a * n + c) := fun a c ha hc => by
    rw [qset h.ql hp hq hc]
    split
    · rename_i e; obtain ⟨rfl, rfl⟩ := e; rfl
    · rfl
  have hqlt : ∀ a c, a < n → c < n → ∀ i ∈ qOf qs (a * n + c), i < p.arcs.length := fun a c ha hc i hi => by
    rw [h.q a c ha hc] at hi; exact (sel_mem.1 hi).1
  have hml : ∀ a c, a < n → c < n → marks (chOf (sendS s a0 q v).chs (a * n + c)) = marks (chOf s.chs (a * n + c)) := fun a c ha hc => by
    rw [hch a c ha hc]; split
    · rw [marks_append, marks_val]; rfl
    · rfl
  refine { len := by simp only [sendP, sendS, h.len], ck := h.ck, vl := by simp [sendP, h.vl], ql := by rw [List.length_set]; exact h.ql, good := h.good.sendP (by rw [hpl]; exact hp) (by rw [hpl]; exact hq) hne (by rw [hlen]; omega) (by omega), cc := ?_, ixs := ?_, fifo := ?_, q := ?_, w := ?_, mkr := ?_, dn := ?_, rc := ?_ }
  · intro a ha
    have h1 := h.cc a ha
    show nth s.cut a ≤ nth (s.cnts.set a0 (nth s.cnts a0 + 1)) a
    rw [nth_set (by rw [hok.lc]; exact hp)]
    split
    · rename_i e; subst e; omega
    · exact h1
  · intro i j hij hj hf
    simp only [sendP, List.length_append, List.length_singleton] at hj hf ⊢
    have hi : i < p.arcs.length := by omega
    rw [hold i hi] at hf ⊢
    by_cases e : j < p.arcs.length
    · rw [hold j e] at hf ⊢; exact h.ixs i j hij e hf
    · obtain rfl : j = p.arcs.length := by omega
      rw [hnew] at hf ⊢
      have := (h.arc hok hi).2.2.2.1
      rw [hf] at this
      simp only at this ⊢
      omega
  · intro i j hij hj hf ht hat
    simp only [sendP, List.length_append, List.length_singleton] at hj hf ht hat ⊢
    have hi : i < p.arcs.length := by omega
    rw [hold i hi] at hf ht ⊢
    by_cases e : j < p.arcs.length
    · rw [hold j e] at hf ht hat; exact h.fifo i j hij e hf ht hat
    · obtain rfl : j = p.arcs.length := by omega
      rw [hnew] at hat
      exact absurd rfl hat
  · intro a c ha hc
    rw [hqq a c ha hc]
    simp only [sendP]
    rw [sel_app, ← h.q a c ha hc]
    by_cases e : a0 = a ∧ q = c
    · rw [if_pos e, if_pos (waitB_iff.2 ⟨e, rfl⟩)]
    · rw [if_neg e, if_neg (fun hw => e (waitB_iff.1 hw).1), List.append_nil]
  · intro a c ha hc
    rw [hqq a c ha hc, hch a c ha hc]
    split
    · rw [List.map_append, hvs _ (hqlt a c ha hc), pvals_append, pvals_val, h.w a c ha hc]
      simp [hvn]
    · rw [hvs _ (hqlt a c ha hc), h.w a c ha hc]
  · intro a c ha hc hn h0 hm
    rw [hml a c ha hc] at hm
    have h0' : 0 ≤ nth s.cut a := h0
    obtain ⟨⟨Q1, Q2, L1, L2, e1, e2, e3, e4, e5, e6, e7⟩, hrc⟩ := h.mkr a c ha hc hn h0' hm
    have hl1 : ∀ i ∈ Q1, i < p.arcs.length := fun i hi => hqlt a c ha hc i (by rw [e1]; simp [hi])
    have hl2 : ∀ i ∈ Q2, i < p.arcs.length := fun i hi => hqlt a c ha hc i (by rw [e1]; simp [hi])
    refine ⟨?_, fun i hi hf ht hat => ?_⟩
    · rw [hqq a c ha hc, hch a c ha hc]
      by_cases e : a0 = a ∧ q = c
      · rw [if_pos e, if_pos e]
        obtain ⟨rfl, rfl⟩ := e
        refine ⟨Q1, Q2 ++ [p.arcs.length], L1, L2 ++ [(false, v)], by rw [e1, List.append_assoc], by rw [e2, List.append_assoc]; rfl, by rw [hvs _ hl1]; exact e3, ?_, e5, fun i hi => ?_, fun i hi => ?_⟩
        · rw [List.map_append, hvs _ hl2, pvals_append, pvals_val, e4]; simp [hvn]
        · simp only [sendP]; rw [hold i (hl1 i hi)]; exact e6 i hi
        · simp only [sendP]
          rcases List.mem_append.1 hi with hi | hi
          · rw [hold i (hl2 i hi)]; exact e7 i hi
          · rw [List.mem_singleton.1 hi, hnew]
            have := h.cc a0 hp
            show nth s.cut a0 < nth p.len a0 + 1
            omega
      · rw [if_neg e, if_neg e]
        exact ⟨Q1, Q2, L1, L2, e1, e2, by rw [hvs _ hl1]; exact e3, by rw [hvs _ hl2]; exact e4, e5, fun i hi => by simp only [sendP]; rw [hold i (hl1 i hi)]; exact e6 i hi, fun i hi => by simp only [sendP]; rw [hold i (hl2 i hi)]; exact e7 i hi⟩
    · simp only [sendP, List.length_append, List.length_singleton] at hi hf ht hat ⊢
      by_cases e : i < p.arcs.length
      · rw [hold i e] at hf ht hat ⊢; exact hrc i e hf ht hat
      · obtain rfl : i = p.arcs.length := by omega
        rw [hnew] at hat; exact absurd rfl hat
  · intro a c ha hc hn h0 hm i hi hf ht
    rw [hml a c ha hc] at hm
    simp only [sendP, List.length_append, List.length_singleton] at hi hf ht ⊢
    by_cases e : i < p.arcs.length
    · rw [hold i e] at hf ht ⊢; exact h.dn a c ha hc hn h0 hm i e hf ht
    · obtain rfl : i = p.arcs.length := by omega
      rw [hnew] at hf ht ⊢
      simp only at hf
      subst hf
      refine ⟨fun h1 => ?_, fun _ h2 => absurd rfl h2⟩
      have h2 := h.cc a0 hp
      have h3 : nth p.len a0 + 1 ≤ nth s.cut a0 := h1
      omega
  · intro a c ha hc hn h0
    have h1 := h.rc a c ha hc hn h0
    show rowOf s.recs (a * n + c) = (sel (sendP p a0 q).arcs (recB a c (nth s.cut a) (nth s.cut c))).map (nth (vs ++ [v]))
    simp only [sendP]
    rw [sel_app, if_neg (fun hr => by have := (recB_iff.1 hr).2.1.1; simp only at this; omega), List.append_nil, hvs _ (fun i hi => (sel_mem.1 hi).1), h1]
end
end Go.Proofs.Ytombhhhaidmpeaa
