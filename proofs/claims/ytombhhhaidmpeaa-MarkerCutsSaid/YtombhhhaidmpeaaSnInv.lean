/- What the moves of the snapshot machine keep: markers, open channels, the recorded total. No condition. -/
import Derived.Test.YtombhhhaidmpeaaSnSum
namespace Go.Proofs.Ytombhhhaidmpeaa
open Go.RowKit
set_option linter.unusedVariables false
set_option linter.unusedSimpArgs false

/-- the number of markers in a channel -/
def marks (l : List Pcl) : Nat := (l.filter fun x => x.1).length
theorem marks_nil : marks [] = 0 := rfl
theorem marks_append (l m : List Pcl) : marks (l ++ m) = marks l + marks m := by simp [marks]
theorem marks_val (v : Int) : marks [(false, v)] = 0 := rfl
theorem marks_mark (v : Int) : marks [(true, v)] = 1 := rfl
theorem marks_cons (x : Pcl) (l : List Pcl) : marks (x :: l) = marks l + if x.1 = true then 1 else 0 := by
  unfold marks
  rw [List.filter_cons]
  cases x.1 <;> simp
/-- the values ahead of the first marker -/
def ahead (l : List Pcl) : List Int := pvals (l.takeWhile fun x => !x.1)
theorem ahead_append {l : List Pcl} (m : List Pcl) (h : marks l ≠ 0) : ahead (l ++ m) = ahead l := by
  unfold ahead
  induction l with
  | nil => simp [marks] at h
  | cons x l ih =>
    rw [marks_cons] at h
    simp only [List.cons_append, List.takeWhile_cons]
    cases hx : x.1 with
    | true => simp
    | false =>
      rw [hx] at h
      simp only [Bool.not_false, if_true]
      rw [pvals_cons, pvals_cons, ih (by simpa using h)]
theorem ahead_mark {l : List Pcl} (v : Int) (h : marks l = 0) : ahead (l ++ [(true, v)]) = pvals l := by
  unfold ahead
  induction l with
  | nil => simp [pvals]
  | cons x l ih =>
    rw [marks_cons] at h
    have hx : x.1 = false := by
      cases hb : x.1 with
      | false => rfl
      | true => rw [hb] at h; simp at h
    simp only [List.cons_append, List.takeWhile_cons, hx]
    rw [if_pos (by simp), pvals_cons, pvals_cons, ih (by rw [hx] at h; simpa using h)]
theorem ahead_val {x : Pcl} {l : List Pcl} (hx : ¬ x.1 = true) : ahead (x :: l) = x.2 :: ahead l := by
  have : x.1 = false := by simpa using hx
  unfold ahead
  rw [List.takeWhile_cons, if_pos (by simp [this]), pvals_cons, if_neg hx]
theorem ahead_head {x : Pcl} {l : List Pcl} (hx : x.1 = true) : ahead (x :: l) = [] := by
  unfold ahead
  rw [List.takeWhile_cons, if_neg (by simp [hx])]; rfl
theorem ch_inj {n p q a b : Nat} (hq : q < n) (hb : b < n) : p * n + q = a * n + b ↔ p = a ∧ q = b := by
  constructor
  · intro h
    have h1 := ch_div (p := p) hq
    have h2 := ch_mod (p := p) hq
    rw [h, ch_div hb] at h1
    rw [h, ch_mod hb] at h2
    exact ⟨h1.symm, h2.symm⟩
  · rintro ⟨rfl, rfl⟩; rfl
/-- what is said of the channels -/
structure SnInv (n : Nat) (s : Snp) : Prop where
  diag : ∀ p, p < n → chOf s.chs (p * n + p) = [] ∧ opOf s.opn (p * n + p) = false ∧ rowOf s.recs (p * n + p) = []
  un : ∀ p q, p < n → q < n → p ≠ q → nth s.cut p < 0 → marks (chOf s.chs (p * n + q)) = 0
  re : ∀ p q, p < n → q < n → p ≠ q → 0 ≤ nth s.cut p → marks (chOf s.chs (p * n + q)) = 1 ∨ (marks (chOf s.chs (p * n + q)) = 0 ∧ 0 ≤ nth s.cut q ∧ opOf s.opn (p * n + q) = false)
  cl : ∀ p q, p < n → q < n → p ≠ q → nth s.cut q < 0 → opOf s.opn (p * n + q) = false ∧ rowOf s.recs (p * n + q) = []
  op : ∀ p q, p < n → q < n → p ≠ q → 0 ≤ nth s.cut q → (nth s.cut p < 0 ∨ marks (chOf s.chs (p * n + q)) = 1) → opOf s.opn (p * n + q) = true
section
variable {n b : Nat} {s : Snp}
/-! what the parts read behind a move -/
theorem recR_ch (h : SnOk n b s) {p a c : Nat} (hp : p < n) (ha : a < n) (hc : c < n) : chOf (recR s p n).chs (a * n + c) = if a = p ∧ c ≠ p then chOf s.chs (a * n + c) ++ [(true, 0)] else chOf s.chs (a * n + c) := by
  simp only [recR, h.lv]
  rw [markCh_at (by rw [h.lh]; exact ch_lt ha hc), ch_div hc, ch_mod hc]
  by_cases e : a = p ∧ c ≠ p
  · rw [if_pos e, if_pos ⟨e.1, hc, e.2⟩]
  · rw [if_neg e, if_neg (fun h => e ⟨h.1, h.2.2⟩)]
theorem recR_op (h : SnOk n b s) {p a c : Nat} (hp : p < n) (ha : a < n) (hc : c < n) : opOf (recR s p n).opn (a * n + c) = if c = p ∧ a ≠ p then true else opOf s.opn (a * n + c) := by
  simp only [recR, h.lv]
  rw [markOp_at (by rw [h.lo]; exact ch_lt ha hc), ch_div hc, ch_mod hc]
  by_cases e : c = p ∧ a ≠ p
  · rw [if_pos e, if_pos ⟨e.1, ha, e.2⟩]
  · rw [if_neg e, if_neg (fun h => e ⟨h.1, h.2.2⟩)]
theorem recR_cut (h : SnOk n b s) {p a : Nat} (hp : p < n) : nth (recR s p n).cut a = if p = a then nth s.cnts p else nth s.cut a := by
  simp only [recR]; exact nth_set (by rw [h.lk]; exact hp) _
theorem set_ch {ls : List (List Pcl)} (hl : ls.length = n * n) {p q a c : Nat} (hp : p < n) (hq : q < n) (hc : c < n) (l : List Pcl) : chOf (ls.set (p * n + q) l) (a * n + c) = if p = a ∧ q = c then l else chOf ls (a * n + c) := by
  rw [chOf_set (by rw [hl]; exact ch_lt hp hq)]
  simp only [ch_inj hq hc]
theorem set_op {ls : List Bool} (hl : ls.length = n * n) {p q a c : Nat} (hp : p < n) (hq : q < n) (hc : c < n) (l : Bool) : opOf (ls.set (p * n + q) l) (a * n + c) = if p = a ∧ q = c then l else opOf ls (a * n + c) := by
  rw [opOf_set (by rw [hl]; exact ch_lt hp hq)]
  simp only [ch_inj hq hc]
theorem set_rec {ls : List (List Int)} (hl : ls.length = n * n) {p q a c : Nat} (hp : p < n) (hq : q < n) (hc : c < n) (l : List Int) : rowOf (ls.set (p * n + q) l) (a * n + c) = if p = a ∧ q = c then l else rowOf ls (a * n + c) := by
  rw [rowOf_set (by rw [hl]; exact ch_lt hp hq)]
  simp only [ch_inj hq hc]
/-- a process records its value -/
theorem inv_recR (h : SnOk n b s) (hi : SnInv n s) {p : Nat} (hp : p < n) (hu : nth s.cut p < 0) : SnInv n (recR s p n) := by
  have hc0 := (h.cb p hp).1
  refine ⟨fun a ha => ?_, fun a c ha hc hne hk => ?_, fun a c ha hc hne hk => ?_, fun a c ha hc hne hk => ?_, fun a c ha hc hne hk hm => ?_⟩
  · rw [recR_ch h hp ha ha, recR_op h hp ha ha, if_neg (by omega), if_neg (by omega)]
    exact hi.diag a ha
  · rw [recR_cut h hp] at hk
    rw [recR_ch h hp ha hc]
    by_cases e : p = a
    · rw [if_pos e] at hk; omega
    · rw [if_neg e] at hk
      rw [if_neg (by omega)]
      exact hi.un a c ha hc hne hk
  · rw [recR_cut h hp] at hk
    rw [recR_ch h hp ha hc, recR_op h hp ha hc, recR_cut h hp]
    by_cases e : p = a
    · subst e
      rw [if_pos ⟨rfl, by omega⟩, marks_append, hi.un p c hp hc hne hu, marks_mark]
      exact .inl rfl
    · rw [if_neg e] at hk
      rw [if_neg (by omega)]
      rcases hi.re a c ha hc hne hk with h1 | ⟨h1, h2, h3⟩
      · exact .inl h1
      · have hpc : p ≠ c := fun e2 => by subst e2; omega
        rw [if_neg hpc, if_neg (by omega)]
        exact .inr ⟨h1, h2, h3⟩
  · rw [recR_cut h hp] at hk
    by_cases e : p = c
    · rw [if_pos e] at hk; omega
    · rw [if_neg e] at hk
      rw [recR_op h hp ha hc, if_neg (by omega)]
      exact hi.cl a c ha hc hne hk
  · rw [recR_cut h hp] at hk
    rw [recR_cut h hp, recR_ch h hp ha hc] at hm
    rw [recR_op h hp ha hc]
    by_cases e : p = c
    · rw [if_pos (by omega)]
    · rw [if_neg e] at hk
      rw [if_neg (by omega)]
      by_cases e2 : p = a
      · subst e2
        exact hi.op p c hp hc hne hk (.inl hu)
      · rw [if_neg e2, if_neg (by omega)] at hm
        exact hi.op a c ha hc hne hk hm
theorem recS_eq (h : SnOk n b s) {p : Nat} (hu : nth s.cut p < 0) : recS s p = recR s p n := by
  unfold recS; rw [if_pos hu, h.lv]
theorem recS_same {p : Nat} (hu : ¬ nth s.cut p < 0) : recS s p = s := by unfold recS; rw [if_neg hu]
theorem inv_recS (h : SnOk n b s) (hi : SnInv n s) {p : Nat} (hp : p < n) : SnInv n (recS s p) := by
  by_cases hu : nth s.cut p < 0
  · rw [recS_eq h hu]; exact inv_recR h hi hp hu
  · rw [recS_same hu]; exact hi
theorem inv_send (h : SnOk n b s) (hi : SnInv n s) {p q : Nat} (hp : p < n) (hq : q < n) (hne : p ≠ q) (v : Int) : SnInv n (sendS s p q v) := by
  have hch : ∀ a c, a < n → c < n → chOf (sendS s p q v).chs (a * n + c) = if p = a ∧ q = c then chOf s.chs (p * n + q) ++ [(false, v)] else chOf s.chs (a * n + c) := fun a c ha hc => by
    simp only [sendS, h.lv]; exact set_ch h.lh hp hq hc _
  have hmk : ∀ a c, a < n → c < n → marks (chOf (sendS s p q v).chs (a * n + c)) = marks (chOf s.chs (a * n + c)) := fun a c ha hc => by
    rw [hch a c ha hc]
    split
    · rename_i e; obtain ⟨rfl, rfl⟩ := e; rw [marks_append, marks_val]; rfl
    · rfl
  refine ⟨fun a ha => ?_, fun a c ha hc hn hk => ?_, fun a c ha hc hn hk => ?_, fun a c ha hc hn hk => ?_, fun a c ha hc hn hk hm => ?_⟩
  · rw [hch a a ha ha, if_neg (by omega)]; exact hi.diag a ha
  · rw [hmk a c ha hc]; exact hi.un a c ha hc hn hk
  · rw [hmk a c ha hc]; exact hi.re a c ha hc hn hk
  · exact hi.cl a c ha hc hn hk
  · rw [hmk a c ha hc] at hm; exact hi.op a c ha hc hn hk hm
theorem inv_take (h : SnOk n b s) (hi : SnInv n s) {p q : Nat} (hp : p < n) (hq : q < n) (hne : p ≠ q) {x : Pcl} {l : List Pcl} (hx : chOf s.chs (p * n + q) = x :: l) (hm : ¬ x.1 = true) : SnInv n (takeS s (p * n + q) q x.2) := by
  have hch : ∀ a c, a < n → c < n → chOf (takeS s (p * n + q) q x.2).chs (a * n + c) = if p = a ∧ q = c then l else chOf s.chs (a * n + c) := fun a c ha hc => by
    simp only [takeS, popS]; rw [set_ch h.lh hp hq hc, hx, List.tail_cons]
  have hmk : ∀ a c, a < n → c < n → marks (chOf (takeS s (p * n + q) q x.2).chs (a * n + c)) = marks (chOf s.chs (a * n + c)) := fun a c ha hc => by
    rw [hch a c ha hc]
    split
    · rename_i e; obtain ⟨rfl, rfl⟩ := e; rw [hx, marks_cons, if_neg hm]; rfl
    · rfl
  have hrec : ∀ a c, a < n → c < n → opOf s.opn (a * n + c) = false → rowOf (takeS s (p * n + q) q x.2).recs (a * n + c) = rowOf s.recs (a * n + c) := fun a c ha hc ho => by
    simp only [takeS]
    split
    · rename_i e
      rw [set_rec h.lr hp hq hc, if_neg]
      rintro ⟨rfl, rfl⟩
      rw [e] at ho; cases ho
    · rfl
  refine ⟨fun a ha => ?_, fun a c ha hc hn hk => ?_, fun a c ha hc hn hk => ?_, fun a c ha hc hn hk => ?_, fun a c ha hc hn hk hm => ?_⟩
  · rw [hch a a ha ha, if_neg (by omega), hrec a a ha ha (hi.diag a ha).2.1]; exact hi.diag a ha
  · rw [hmk a c ha hc]; exact hi.un a c ha hc hn hk
  · rw [hmk a c ha hc]; exact hi.re a c ha hc hn hk
  · have h1 := hi.cl a c ha hc hn hk
    rw [hrec a c ha hc h1.1]; exact h1
  · rw [hmk a c ha hc] at hm; exact hi.op a c ha hc hn hk hm
/-- a marker at the head of a channel: its sender has recorded -/
theorem SnInv.sent (hi : SnInv n s) {p q : Nat} (hp : p < n) (hq : q < n) (hne : p ≠ q) {x : Pcl} {l : List Pcl} (hx : chOf s.chs (p * n + q) = x :: l) (hm : x.1 = true) : 0 ≤ nth s.cut p ∧ marks l = 0 := by
  have h1 : marks (chOf s.chs (p * n + q)) = marks l + 1 := by rw [hx, marks_cons, if_pos hm]
  have h2 : 0 ≤ nth s.cut p := by
    by_cases h : nth s.cut p < 0
    · have := hi.un p q hp hq hne h; omega
    · omega
  refine ⟨h2, ?_⟩
  rcases hi.re p q hp hq hne h2 with h3 | ⟨h3, _⟩ <;> omega
theorem inv_mark (h : SnOk n b s) (hi : SnInv n s) {p q : Nat} (hp : p < n) (hq : q < n) (hne : p ≠ q) {x : Pcl} {l : List Pcl} (hx : chOf s.chs (p * n + q) = x :: l) (hm : x.1 = true) : SnInv n (markS s (p * n + q) q) := by
  obtain ⟨hcp, hml⟩ := hi.sent hp hq hne hx hm
  -- behind the marker's going, but for channel (p, q)
  have h1 : SnOk n b (popS s (p * n + q)) := popS_ok h (ch_lt hp hq)
  have hch : ∀ a c, a < n → c < n → chOf (popS s (p * n + q)).chs (a * n + c) = if p = a ∧ q = c then l else chOf s.chs (a * n + c) := fun a c ha hc => by
    simp only [popS]; rw [set_ch h.lh hp hq hc, hx, List.tail_cons]
  have h2 : SnOk n (b + 1) (recS (popS s (p * n + q)) q) := recS_ok h1 hq
  have hop : ∀ a c, a < n → c < n → opOf (markS s (p * n + q) q).opn (a * n + c) = if p = a ∧ q = c then false else opOf (recS (popS s (p * n + q)) q).opn (a * n + c) := fun a c ha hc => by
    simp only [markS]; exact set_op h2.lo hp hq hc _
  have ecut : (markS s (p * n + q) q).cut = (recS (popS s (p * n + q)) q).cut := rfl
  have echs : (markS s (p * n + q) q).chs = (recS (popS s (p * n + q)) q).chs := rfl
  have erec : (markS s (p * n + q) q).recs = s.recs := by by_cases hz : nth s.cut q < 0 <;> simp [markS, recS, popS, recR, hz]
  by_cases hu : nth s.cut q < 0
  · have er : recS (popS s (p * n + q)) q = recR (popS s (p * n + q)) q n := recS_eq h1 hu
    have hc0 := (h.cb q hq).1
    have kcut : ∀ a, nth (markS s (p * n + q) q).cut a = if q = a then nth s.cnts q else nth s.cut a := fun a => by rw [ecut, er, recR_cut h1 hq]; rfl
    have kch : ∀ a c, a < n → c < n → chOf (markS s (p * n + q) q).chs (a * n + c) = if a = q ∧ c ≠ q then chOf s.chs (a * n + c) ++ [(true, 0)] else if p = a ∧ q = c then l else chOf s.chs (a * n + c) := fun a c ha hc => by
      rw [echs, er, recR_ch h1 hq ha hc, hch a c ha hc]
      by_cases e : a = q ∧ c ≠ q
      · rw [if_pos e, if_pos e, if_neg (by omega)]
      · rw [if_neg e, if_neg e]
    have kop : ∀ a c, a < n → c < n → opOf (markS s (p * n + q) q).opn (a * n + c) = if p = a ∧ q = c then false else if c = q ∧ a ≠ q then true else opOf s.opn (a * n + c) := fun a c ha hc => by
      rw [hop a c ha hc, er, recR_op h1 hq ha hc]; rfl
    refine ⟨fun a ha => ?_, fun a c ha hc hn hk => ?_, fun a c ha hc hn hk => ?_, fun a c ha hc hn hk => ?_, fun a c ha hc hn hk hmm => ?_⟩
    · rw [kch a a ha ha, kop a a ha ha, if_neg (by omega), if_neg (by omega), if_neg (by omega), if_neg (by omega), erec]; exact hi.diag a ha
    · rw [kcut] at hk
      by_cases e : q = a
      · rw [if_pos e] at hk; omega
      · rw [if_neg e] at hk
        rw [kch a c ha hc, if_neg (by omega)]
        split
        · exact hml
        · exact hi.un a c ha hc hn hk
    · rw [kcut] at hk
      rw [kch a c ha hc, kop a c ha hc, kcut]
      by_cases e : q = a
      · subst e
        rw [if_pos ⟨rfl, by omega⟩, marks_append, hi.un q c hq hc hn hu, marks_mark]
        exact .inl rfl
      · rw [if_neg e] at hk
        rw [if_neg (by omega)]
        by_cases e2 : p = a ∧ q = c
        · rw [if_pos e2, if_pos e2, if_pos e2.2]
          exact .inr ⟨hml, hc0, rfl⟩
        · rw [if_neg e2, if_neg e2]
          rcases hi.re a c ha hc hn hk with h3 | ⟨h3, h4, h5⟩
          · exact .inl h3
          · have hqc : q ≠ c := fun e => by subst e; omega
            rw [if_neg hqc, if_neg (by omega)]
            exact .inr ⟨h3, h4, h5⟩
    · rw [kcut] at hk
      by_cases e : q = c
      · rw [if_pos e] at hk; omega
      · rw [if_neg e] at hk
        rw [kop a c ha hc, if_neg (by omega), if_neg (by omega), erec]
        exact hi.cl a c ha hc hn hk
    · rw [kcut] at hk
      rw [kcut, kch a c ha hc] at hmm
      rw [kop a c ha hc]
      by_cases e : p = a ∧ q = c
      · obtain ⟨rfl, rfl⟩ := e
        rw [if_neg (by omega), if_neg (by omega), if_pos ⟨rfl, rfl⟩] at hmm
        omega
      · rw [if_neg e]
        by_cases e2 : q = c
        · rw [if_pos (by omega)]
        · rw [if_neg e2] at hk
          rw [if_neg (by omega)]
          by_cases e3 : q = a
          · subst e3; exact hi.op q c hq hc hn hk (.inl hu)
          · rw [if_neg e3, if_neg (by omega), if_neg e] at hmm
            exact hi.op a c ha hc hn hk hmm
  · have er : recS (popS s (p * n + q)) q = popS s (p * n + q) := recS_same hu
    have kch : ∀ a c, a < n → c < n → chOf (markS s (p * n + q) q).chs (a * n + c) = if p = a ∧ q = c then l else chOf s.chs (a * n + c) := fun a c ha hc => by
      rw [echs, er, hch a c ha hc]
    have kop : ∀ a c, a < n → c < n → opOf (markS s (p * n + q) q).opn (a * n + c) = if p = a ∧ q = c then false else opOf s.opn (a * n + c) := fun a c ha hc => by
      rw [hop a c ha hc, er]; rfl
    have kcut : (markS s (p * n + q) q).cut = s.cut := by rw [ecut, er]; rfl
    refine ⟨fun a ha => ?_, fun a c ha hc hn hk => ?_, fun a c ha hc hn hk => ?_, fun a c ha hc hn hk => ?_, fun a c ha hc hn hk hmm => ?_⟩
    · rw [kch a a ha ha, kop a a ha ha, if_neg (by omega), if_neg (by omega), erec]; exact hi.diag a ha
    · rw [kcut] at hk
      rw [kch a c ha hc]
      split
      · exact hml
      · exact hi.un a c ha hc hn hk
    · rw [kcut] at hk
      rw [kch a c ha hc, kop a c ha hc, kcut]
      by_cases e : p = a ∧ q = c
      · obtain ⟨rfl, rfl⟩ := e
        rw [if_pos ⟨rfl, rfl⟩, if_pos ⟨rfl, rfl⟩]
        exact .inr ⟨hml, by omega, rfl⟩
      · rw [if_neg e, if_neg e]; exact hi.re a c ha hc hn hk
    · rw [kcut] at hk
      rw [kop a c ha hc, if_neg (by rintro ⟨rfl, rfl⟩; omega), erec]
      exact hi.cl a c ha hc hn hk
    · rw [kcut] at hk hmm
      rw [kch a c ha hc] at hmm
      rw [kop a c ha hc]
      by_cases e : p = a ∧ q = c
      · obtain ⟨rfl, rfl⟩ := e
        rw [if_pos ⟨rfl, rfl⟩] at hmm
        omega
      · rw [if_neg e] at hmm ⊢
        exact hi.op a c ha hc hn hk hmm
theorem inv_go (h : SnOk n b s) (hi : SnInv n s) {t : Snp} {m : Mv} (hd : MvDo n s m t) : SnInv n t := by
  cases hd with
  | begin p hp => exact inv_recS h hi hp
  | send p q hp hq hne => exact inv_send h hi hp hq hne _
  | mark p q hp hq hne e ef et x l hx hm => exact inv_mark h hi hp hq hne hx hm
  | take p q hp hq hne e ef et x l hx hm => exact inv_take h hi hp hq hne hx hm
end
theorem newS_inv {vs : List Int} : SnInv vs.length (newS vs) := by
  have hch : ∀ k, chOf (newS vs).chs k = [] := fun k => by
    simp only [newS, chOf, List.getD_eq_getElem?_getD, List.getElem?_replicate]; split <;> rfl
  have hop : ∀ k, opOf (newS vs).opn k = false := fun k => by
    simp only [newS, opOf, List.getD_eq_getElem?_getD, List.getElem?_replicate]; split <;> rfl
  have hre : ∀ k, rowOf (newS vs).recs k = [] := fun k => by
    simp only [newS, rowOf, List.getD_eq_getElem?_getD, List.getElem?_replicate]; split <;> rfl
  have hcut : ∀ p, p < vs.length → nth (newS vs).cut p = -1 := fun p hp => by simp only [newS]; exact nth_rep_any hp
  refine ⟨fun p hp => ⟨hch _, hop _, hre _⟩, fun p q hp hq hne hk => by rw [hch]; rfl, fun p q hp hq hne hk => ?_, fun p q hp hq hne hk => ⟨hop _, hre _⟩, fun p q hp hq hne hk => ?_⟩
  · rw [hcut p hp] at hk; omega
  · rw [hcut q hq] at hk; omega
end Go.Proofs.Ytombhhhaidmpeaa
