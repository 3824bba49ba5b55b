/- What really happened in a run of the snapshot machine: a value is received; what a complete snapshot records. Plain law. No condition. -/
import Derived.Test.YtombhhhaidmpeaaTrc
namespace Go.Proofs.Ytombhhhaidmpeaa
open Go.RowKit
set_option linter.unusedVariables false
set_option linter.unusedSimpArgs false

section
variable {n b : Nat} {s : Snp} {p : Pat} {vs : List Int} {qs : List (List Nat)}
/-- the first message that waits in a channel with a value -/
theorem TrOk.headQ (h : TrOk n s p vs qs) {a0 q : Nat} (hp : a0 < n) (hq : q < n) {x : Pcl} {l : List Pcl} (hx : chOf s.chs (a0 * n + q) = x :: l) (hm : ¬ x.1 = true) :
    ∃ i Q, qOf qs (a0 * n + q) = i :: Q ∧ nth vs i = x.2 ∧ Q.map (nth vs) = pvals l ∧ i < p.arcs.length ∧ (arcOf p.arcs i).fr = a0 ∧ (arcOf p.arcs i).to = q ∧ (arcOf p.arcs i).at_ = 0 := by
  have h1 := h.w a0 q hp hq
  rw [hx, pvals_cons, if_neg hm] at h1
  cases hQ : qOf qs (a0 * n + q) with
  | nil => rw [hQ] at h1; cases h1
  | cons i Q =>
    rw [hQ, List.map_cons] at h1
    injection h1 with h2 h3
    have h4 : i ∈ qOf qs (a0 * n + q) := by rw [hQ]; simp
    rw [h.q a0 q hp hq, sel_mem, waitB_iff] at h4
    exact ⟨i, Q, rfl, h2, h3, h4.1, h4.2.1.1, h4.2.1.2, h4.2.2⟩
/-- a value is received -/
theorem TrOk.take (h : TrOk n s p vs qs) (hok : SnOk n b s) (hi : SnInv n s) (hb : b ≤ 50) {a0 q : Nat} (hp : a0 < n) (hq : q < n) (hne : a0 ≠ q) {x : Pcl} {l : List Pcl} (hx : chOf s.chs (a0 * n + q) = x :: l) (hm : ¬ x.1 = true)
    {i : Nat} {Q : List Nat} (hQ : qOf qs (a0 * n + q) = i :: Q) (hv : nth vs i = x.2) (hQv : Q.map (nth vs) = pvals l) (hil : i < p.arcs.length) (hf : (arcOf p.arcs i).fr = a0) (ht : (arcOf p.arcs i).to = q) (h0 : (arcOf p.arcs i).at_ = 0) :
    TrOk n (takeS s (a0 * n + q) q x.2) (takeP p i q) vs (qs.set (a0 * n + q) Q) := by
  have hpl : p.len.length = n := by rw [h.len]; exact hok.lc
  have hcb := hok.cb q hq
  have hlen : nth p.len q = nth s.cnts q := by rw [h.len]
  have hcut : (takeS s (a0 * n + q) q x.2).cut = s.cut := rfl
  have hnew : arcOf (takeP p i q).arcs i = { arcOf p.arcs i with at_ := nth p.len q + 1 } := by simp only [takeP]; rw [arcOf_set hil, if_pos rfl]
  have hold : ∀ j, j ≠ i → arcOf (takeP p i q).arcs j = arcOf p.arcs j := fun j hj => by simp only [takeP]; rw [arcOf_set hil, if_neg (Ne.symm hj)]
  have hfr : ∀ j, (arcOf (takeP p i q).arcs j).fr = (arcOf p.arcs j).fr := fun j => by
    by_cases e : j = i
    · subst e; rw [hnew]
    · rw [hold j e]
  have hto : ∀ j, (arcOf (takeP p i q).arcs j).to = (arcOf p.arcs j).to := fun j => by
    by_cases e : j = i
    · subst e; rw [hnew]
    · rw [hold j e]
  have hix : ∀ j, (arcOf (takeP p i q).arcs j).ix = (arcOf p.arcs j).ix := fun j => by
    by_cases e : j = i
    · subst e; rw [hnew]
    · rw [hold j e]
  have hnl : (takeP p i q).arcs.length = p.arcs.length := by simp [takeP]
  have hch : ∀ a c, a < n → c < n → chOf (takeS s (a0 * n + q) q x.2).chs (a * n + c) = if a0 = a ∧ q = c then l else chOf s.chs (a * n + c) := fun a c ha hc => by
    simp only [takeS, popS]; rw [set_ch hok.lh hp hq hc, hx, List.tail_cons]
  have hml : ∀ a c, a < n → c < n → marks (chOf (takeS s (a0 * n + q) q x.2).chs (a * n + c)) = marks (chOf s.chs (a * n + c)) := fun a c ha hc => by
    rw [hch a c ha hc]; split
    · rename_i e; obtain ⟨rfl, rfl⟩ := e; rw [hx, marks_cons, if_neg hm]; rfl
    · rfl
  have hqq : ∀ a c, a < n → c < n → qOf (qs.set (a0 * n + q) Q) (a * n + c) = if a0 = a ∧ q = c then Q else qOf qs (a * n + c) := fun a c ha hc => qset h.ql hp hq hc Q
  have hiQ : ∀ j ∈ Q, i < j := fun j hj => by
    have h1 := sel_sorted p.arcs (waitB a0 q)
    rw [← h.q a0 q hp hq, hQ, List.pairwise_cons] at h1
    exact h1.1 j hj
  -- all received messages of the channel came before number i
  have hbefore : ∀ j, j < p.arcs.length → (arcOf p.arcs j).fr = a0 → (arcOf p.arcs j).to = q → (arcOf p.arcs j).at_ ≠ 0 → j < i := fun j hj h1 h2 h3 => by
    rcases Nat.lt_trichotomy j i with h4 | h4 | h4
    · exact h4
    · subst h4; exact absurd h0 h3
    · exact absurd h0 (h.fifo i j h4 hj (by rw [hf, h1]) (by rw [ht, h2]) h3)
  refine { len := by simp only [takeP, takeS, h.len], ck := h.ck, vl := by rw [hnl]; exact h.vl, ql := by rw [List.length_set]; exact h.ql, good := h.good.takeP hil ht h0 (by rw [hlen]; omega), cc := ?_, ixs := ?_, fifo := ?_, q := ?_, w := ?_, mkr := ?_, dn := ?_, rc := ?_ }
  · intro a ha
    have h1 := h.cc a ha
    show nth s.cut a ≤ nth (s.cnts.set q (nth s.cnts q + 1)) a
    rw [nth_set (by rw [hok.lc]; exact hq)]
    split
    · rename_i e; subst e; omega
    · exact h1
  · intro j k hjk hk h1
    rw [hfr, hfr] at h1
    rw [hix, hix]
    rw [hnl] at hk
    exact h.ixs j k hjk hk h1
  · intro j k hjk hk h1 h2 h3
    rw [hfr, hfr] at h1
    rw [hto, hto] at h2
    rw [hnl] at hk
    by_cases e : j = i
    · subst e; rw [hnew]; simp only; omega
    · rw [hold j e]
      by_cases e2 : k = i
      · subst e2
        intro h4
        have h5 : j ∈ qOf qs (a0 * n + q) := by rw [h.q a0 q hp hq, sel_mem, waitB_iff]; exact ⟨by omega, ⟨by rw [h1, hf], by rw [h2, ht]⟩, h4⟩
        rw [hQ] at h5
        rcases List.mem_cons.1 h5 with h5 | h5
        · omega
        · have := hiQ j h5; omega
      · rw [hold k e2] at h3
        exact h.fifo j k hjk hk h1 h2 h3
  · intro a c ha hc
    rw [hqq a c ha hc]
    symm
    by_cases e : a0 = a ∧ q = c
    · rw [if_pos e]
      obtain ⟨rfl, rfl⟩ := e
      have h1 := sel_sorted p.arcs (waitB a0 q)
      have h2 := h.q a0 q hp hq
      rw [← h2, hQ, List.pairwise_cons] at h1
      refine sel_eq h1.2 fun j => ?_
      rw [hnl]
      have h3 : j ∈ i :: Q ↔ j < p.arcs.length ∧ waitB a0 q (arcOf p.arcs j) = true := by rw [← hQ, h2, sel_mem]
      by_cases ej : j = i
      · subst ej
        constructor
        · intro hj; have := hiQ j hj; omega
        · rintro ⟨_, hw⟩
          rw [hnew, waitB_iff] at hw
          have := hw.2
          simp only at this
          omega
      · rw [hold j ej, ← h3, List.mem_cons]
        constructor
        · exact .inr
        · rintro (h4 | h4)
          · exact absurd h4 ej
          · exact h4
    · rw [if_neg e, h.q a c ha hc]
      refine sel_congr hnl fun j hj => ?_
      rw [Bool.eq_iff_iff, waitB_iff, waitB_iff, hfr, hto]
      by_cases ej : j = i
      · subst ej
        constructor
        · rintro ⟨⟨h1, h2⟩, _⟩; exact absurd ⟨by rw [← h1, hf], by rw [← h2, ht]⟩ e
        · rintro ⟨⟨h1, h2⟩, _⟩; exact absurd ⟨by rw [← h1, hf], by rw [← h2, ht]⟩ e
      · rw [hold j ej]
  · intro a c ha hc
    rw [hqq a c ha hc, hch a c ha hc]
    split
    · exact hQv
    · exact h.w a c ha hc
  · intro a c ha hc hn hc0 hmm
    rw [hml a c ha hc] at hmm
    have hc0' : 0 ≤ nth s.cut a := hc0
    obtain ⟨⟨Q1, Q2, L1, L2, e1, e2, e3, e4, e5, e6, e7⟩, hrc⟩ := h.mkr a c ha hc hn hc0' hmm
    have h6 : ∀ {K : List Nat}, (∀ j ∈ K, (arcOf p.arcs j).ix ≤ nth s.cut a) → ∀ j ∈ K, (arcOf (takeP p i q).arcs j).ix ≤ nth s.cut a := fun hK j hj => by rw [hix]; exact hK j hj
    have h7 : ∀ {K : List Nat}, (∀ j ∈ K, nth s.cut a < (arcOf p.arcs j).ix) → ∀ j ∈ K, nth s.cut a < (arcOf (takeP p i q).arcs j).ix := fun hK j hj => by rw [hix]; exact hK j hj
    by_cases e : a0 = a ∧ q = c
    · obtain ⟨rfl, rfl⟩ := e
      -- the head is ahead of the marker
      cases L1 with
      | nil =>
        rw [hx, List.nil_append] at e2
        injection e2 with e2 _
        subst e2
        exact absurd rfl hm
      | cons y L1 =>
        rw [hx, List.cons_append] at e2
        injection e2 with e2 e2'
        subst e2
        cases Q1 with
        | nil => rw [pvals_cons, if_neg hm] at e3; cases e3
        | cons j Q1 =>
          rw [hQ, List.cons_append] at e1
          injection e1 with e1 e1'
          subst e1
          rw [pvals_cons, if_neg hm, List.map_cons] at e3
          injection e3 with _ e3
          have hixi := e6 i (by simp)
          refine ⟨?_, fun j hj h1 h2 h3 => ?_⟩
          · rw [hqq a0 q ha hc, hch a0 q ha hc, if_pos ⟨rfl, rfl⟩, if_pos ⟨rfl, rfl⟩]
            exact ⟨Q1, Q2, L1, L2, e1', e2', e3, e4, by rw [marks_cons, if_neg hm] at e5; exact e5, h6 (fun j hj => e6 j (by simp [hj])), h7 e7⟩
          · rw [hfr] at h1
            rw [hto] at h2
            rw [hix]
            rw [hnl] at hj
            by_cases ej : j = i
            · subst ej; exact hixi
            · rw [hold j ej] at h3; exact hrc j hj h1 h2 h3
    · refine ⟨?_, fun j hj h1 h2 h3 => ?_⟩
      · rw [hqq a c ha hc, hch a c ha hc, if_neg e, if_neg e]
        exact ⟨Q1, Q2, L1, L2, e1, e2, e3, e4, e5, h6 e6, h7 e7⟩
      · rw [hfr] at h1
        rw [hto] at h2
        rw [hix]
        rw [hnl] at hj
        by_cases ej : j = i
        · subst ej; exact absurd ⟨by rw [← h1, hf], by rw [← h2, ht]⟩ e
        · rw [hold j ej] at h3; exact hrc j hj h1 h2 h3
  · intro a c ha hc hn hc0 hmm j hj h1 h2
    rw [hml a c ha hc] at hmm
    rw [hfr] at h1
    rw [hto] at h2
    rw [hnl] at hj
    rw [hix]
    obtain ⟨d1, d2⟩ := h.dn a c ha hc hn hc0 hmm j hj h1 h2
    by_cases ej : j = i
    · subst ej
      rw [hnew]
      refine ⟨fun _ => by simp only; omega, fun _ _ => ?_⟩
      have h3 : c = q := by rw [← h2, ht]
      subst h3
      have := h.cc c hc
      show nth s.cut c < nth p.len c + 1
      omega
    · rw [hold j ej]; exact ⟨d1, d2⟩
  · intro a c ha hc hn hc0
    have hc0' : 0 ≤ nth s.cut c := hc0
    have h1 := h.rc a c ha hc hn hc0'
    show rowOf (takeS s (a0 * n + q) q x.2).recs (a * n + c) = (sel (takeP p i q).arcs (recB a c (nth s.cut a) (nth s.cut c))).map (nth vs)
    have hsame : (¬ (a0 = a ∧ q = c) ∨ ¬ (nth s.cut a < 0 ∨ (arcOf p.arcs i).ix ≤ nth s.cut a)) → sel (takeP p i q).arcs (recB a c (nth s.cut a) (nth s.cut c)) = sel p.arcs (recB a c (nth s.cut a) (nth s.cut c)) := fun hh => by
      refine sel_congr hnl fun j hj => ?_
      rw [Bool.eq_iff_iff, recB_iff, recB_iff, hfr, hto, hix]
      by_cases ej : j = i
      · subst ej
        constructor
        · rintro ⟨⟨k1, k2⟩, _, k3⟩
          rcases hh with hh | hh
          · exact absurd ⟨by rw [← k1, hf], by rw [← k2, ht]⟩ hh
          · exact absurd k3 hh
        · rintro ⟨⟨k1, k2⟩, _, k3⟩
          rcases hh with hh | hh
          · exact absurd ⟨by rw [← k1, hf], by rw [← k2, ht]⟩ hh
          · exact absurd k3 hh
      · rw [hold j ej]
    by_cases e : a0 = a ∧ q = c
    · obtain ⟨rfl, rfl⟩ := e
      by_cases hop : opOf s.opn (a0 * n + q) = true
      · have hrec : rowOf (takeS s (a0 * n + q) q x.2).recs (a0 * n + q) = rowOf s.recs (a0 * n + q) ++ [x.2] := by
          simp only [takeS, hop, if_true]
          rw [set_rec hok.lr hp hq hq, if_pos ⟨rfl, rfl⟩]
        rw [hrec, h1]
        have hmo : nth s.cut a0 < 0 ∨ (arcOf p.arcs i).ix ≤ nth s.cut a0 := by
          rcases Int.lt_or_le (nth s.cut a0) 0 with h2 | h2
          · exact .inl h2
          · right
            rcases hi.re a0 q hp hq hne h2 with h3 | ⟨_, _, h3⟩
            · obtain ⟨⟨Q1, Q2, L1, L2, e1, e2, e3, e4, e5, e6, e7⟩, _⟩ := h.mkr a0 q hp hq hne h2 h3
              cases L1 with
              | nil =>
                rw [hx, List.nil_append] at e2
                injection e2 with e2 _
                subst e2
                exact absurd rfl hm
              | cons y L1 =>
                rw [hx, List.cons_append] at e2
                injection e2 with e2 e2'
                subst e2
                cases Q1 with
                | nil => rw [pvals_cons, if_neg hm] at e3; cases e3
                | cons j Q1 =>
                  rw [hQ, List.cons_append] at e1
                  injection e1 with e1 e1'
                  subst e1
                  exact e6 i (by simp)
            · rw [h3] at hop; cases hop
        have hs2 : sel (takeP p i q).arcs (recB a0 q (nth s.cut a0) (nth s.cut q)) = sel p.arcs (recB a0 q (nth s.cut a0) (nth s.cut q)) ++ [i] := by
          refine sel_eq ?_ fun j => ?_
          · rw [List.pairwise_append]
            refine ⟨sel_sorted _ _, by simp, fun j hj k hk => ?_⟩
            rw [List.mem_singleton.1 hk]
            have h2 := sel_mem.1 hj
            rw [recB_iff] at h2
            exact hbefore j h2.1 h2.2.1.1 h2.2.1.2 (by omega)
          · rw [List.mem_append, sel_mem, hnl, List.mem_singleton, recB_iff, recB_iff, hfr, hto, hix]
            by_cases ej : j = i
            · subst ej
              refine ⟨fun _ => ⟨hil, ⟨hf, ht⟩, ?_, hmo⟩, fun _ => .inr rfl⟩
              rw [hnew]
              have := h.cc q hq
              refine ⟨?_, ?_⟩
              · show 0 < nth p.len q + 1; omega
              · show nth s.cut q < nth p.len q + 1; omega
            · rw [hold j ej]
              constructor
              · rintro (h2 | h2)
                · exact h2
                · exact absurd h2 ej
              · exact .inl
        rw [hs2, List.map_append]
        simp [hv]
      · have hrec : rowOf (takeS s (a0 * n + q) q x.2).recs (a0 * n + q) = rowOf s.recs (a0 * n + q) := by
          simp only [takeS]
          rw [if_neg hop]
        rw [hrec, h1, hsame (.inr fun h2 => ?_)]
        apply hop
        refine hi.op a0 q hp hq hne hc0' ?_
        rcases h2 with h2 | h2
        · exact .inl h2
        · by_cases h3 : nth s.cut a0 < 0
          · exact .inl h3
          · right
            rcases hi.re a0 q hp hq hne (by omega) with h4 | ⟨h4, _⟩
            · exact h4
            · have := (h.dn a0 q hp hq hne (by omega) h4 i hil hf ht).1 h2
              exact absurd h0 this
    · have hrec : rowOf (takeS s (a0 * n + q) q x.2).recs (a * n + c) = rowOf s.recs (a * n + c) := by
        simp only [takeS]
        split
        · rw [set_rec hok.lr hp hq hc, if_neg e]
        · rfl
      rw [hrec, h1, hsame (.inl e)]
/-- at the beginning -/
theorem TrOk.start {vs0 : List Int} (hn2 : 2 ≤ vs0.length) (hn5 : vs0.length ≤ 5) : TrOk vs0.length (newS vs0) (Pat.none vs0.length) [] (List.replicate (vs0.length * vs0.length) []) := by
  have hch : ∀ k, chOf (newS vs0).chs k = [] := fun k => by
    simp only [newS, chOf, List.getD_eq_getElem?_getD, List.getElem?_replicate]; split <;> rfl
  have hq : ∀ k, qOf (List.replicate (vs0.length * vs0.length) ([] : List Nat)) k = [] := fun k => by
    simp only [qOf, List.getD_eq_getElem?_getD, List.getElem?_replicate]; split <;> rfl
  have hcut : ∀ q, q < vs0.length → nth (newS vs0).cut q = -1 := fun q hq => nth_rep_any hq
  have hcn : ∀ q, q < vs0.length → nth (newS vs0).cnts q = 0 := fun q hq => nth_rep_any hq
  refine { len := rfl, ck := rfl, vl := rfl, ql := by simp, good := Good.none hn2 hn5, cc := fun q hq => by rw [hcut q hq, hcn q hq]; omega, ixs := fun i j _ hj => absurd hj (by simp [Pat.none]), fifo := fun i j _ hj => absurd hj (by simp [Pat.none]), q := fun a c _ _ => by rw [hq]; rfl, w := fun a c _ _ => by rw [hq, hch]; rfl, mkr := fun a c ha _ _ h0 => ?_, dn := fun a c ha _ _ h0 => ?_, rc := fun a c _ hc _ h0 => ?_ }
  · rw [hcut a ha] at h0; omega
  · rw [hcut a ha] at h0; omega
  · rw [hcut c hc] at h0; omega
/-- all have recorded: the recorded states are a consistent cut -/
theorem TrOk.valid (h : TrOk n s p vs qs) (hok : SnOk n b s) (hall : ∀ q, q < n → 0 ≤ nth s.cut q) : s.cut.length = p.len.length ∧ ∀ q, q < p.len.length → 0 ≤ nth s.cut q ∧ nth s.cut q ≤ nth p.len q := by
  have hpl : p.len.length = n := by rw [h.len]; exact hok.lc
  refine ⟨by rw [hpl]; exact hok.lk, fun q hq => ?_⟩
  rw [hpl] at hq
  exact ⟨hall q hq, by rw [h.len]; exact h.cc q hq⟩
theorem TrOk.cons (h : TrOk n s p vs qs) (hok : SnOk n b s) (hi : SnInv n s) (hall : ∀ q, q < n → 0 ≤ nth s.cut q) : ∀ a ∈ p.arcs, 0 < a.at_ → a.at_ ≤ nth s.cut a.to → a.ix ≤ nth s.cut a.fr := by
  intro a ha h1 h2
  obtain ⟨i, hil, rfl⟩ := List.getElem_of_mem ha
  rw [← arcOf_eq hil] at h1 h2 ⊢
  obtain ⟨k1, k2, k3, _⟩ := h.arc hok hil
  rcases hi.re _ _ k1 k2 k3 (hall _ k1) with h3 | ⟨h3, _⟩
  · exact (h.mkr _ _ k1 k2 k3 (hall _ k1) h3).2 i hil rfl rfl (by omega)
  · rcases Int.lt_or_le (nth s.cut (arcOf p.arcs i).fr) (arcOf p.arcs i).ix with h4 | h4
    · have := (h.dn _ _ k1 k2 k3 (hall _ k1) h3 i hil rfl rfl).2 h4 (by omega)
      omega
    · exact h4
/-- in transit across the cut -/
def overB (x : List Int) (a : Arc) : Bool := decide (a.ix ≤ nth x a.fr) && (decide (a.at_ = 0) || decide (nth x a.to < a.at_))
/-- a complete snapshot has recorded what is in transit across it -/
theorem TrOk.whole (h : TrOk n s p vs qs) (hok : SnOk n b s) (hi : SnInv n s) (hd : Done s) {a c : Nat} (ha : a < n) (hc : c < n) :
    rowOf s.recs (a * n + c) = (sel p.arcs (fun x => chB a c x && overB s.cut x)).map (nth vs) := by
  have hall : ∀ q, q < n → 0 ≤ nth s.cut q := fun q hq => by
    have hql : q < s.cut.length := by rw [hok.lk]; exact hq
    rw [nth_eq hql]; exact hd.1 _ (List.getElem_mem hql)
  by_cases e : a = c
  · subst e
    rw [(hi.diag a ha).2.2, sel_eq List.Pairwise.nil (fun i => ?_)]
    · rfl
    · constructor
      · intro hh; cases hh
      · rintro ⟨hil, hP⟩
        rw [Bool.and_eq_true, chB_iff] at hP
        have := h.arc hok hil
        exact absurd (hP.1.1.trans hP.1.2.symm) this.2.2.1
  · rw [h.rc a c ha hc e (hall c hc)]
    congr 1
    refine sel_congr rfl fun i hil => ?_
    rw [Bool.eq_iff_iff, recB_iff, Bool.and_eq_true, chB_iff]
    have hm0 : marks (chOf s.chs (a * n + c)) = 0 := by
      rcases hi.re a c ha hc e (hall a ha) with h3 | ⟨h3, _⟩
      · have h4 := hi.op a c ha hc e (hall c hc) (.inr h3)
        have hkl : a * n + c < s.opn.length := by rw [hok.lo]; exact ch_lt ha hc
        rw [opOf_eq hkl] at h4
        have := hd.2 _ (List.getElem_mem hkl)
        rw [h4] at this; cases this
      · exact h3
    have hat0 := (h.arc hok hil).2.2.2.2.1
    have ha0 := hall a ha
    constructor
    · rintro ⟨⟨h1, h2⟩, ⟨h3, h4⟩, h5⟩
      refine ⟨⟨h1, h2⟩, ?_⟩
      simp only [overB, Bool.and_eq_true, Bool.or_eq_true, decide_eq_true_eq]
      rw [h1, h2]
      exact ⟨by omega, .inr h4⟩
    · rintro ⟨⟨h1, h2⟩, h3⟩
      simp only [overB, Bool.and_eq_true, Bool.or_eq_true, decide_eq_true_eq] at h3
      rw [h1, h2] at h3
      have h4 := (h.dn a c ha hc e ha0 hm0 i hil h1 h2).1 h3.1
      exact ⟨⟨h1, h2⟩, by omega, .inr h3.1⟩
end
end Go.Proofs.Ytombhhhaidmpeaa
