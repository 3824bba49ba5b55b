/- Composition of pages: the program's answer and the document's as plain lists, and what composing changes. No condition. -/
import Derived.Test.YtmjmdncdmmcmaaaImgE
namespace Go.Proofs.Ytmjmdncdmmcmaaa
open Go.RowKit
set_option linter.unusedVariables false
set_option linter.unusedSimpArgs false

/-- the last page with a number -/
def lastP (l : List Pg) (k : Int) : Option Pg := l.foldl (fun o p => if p.1 = k then some p else o) none
theorem lastP_nil (k : Int) : lastP [] k = none := rfl
theorem lastP_snoc (l : List Pg) (p : Pg) (k : Int) : lastP (l ++ [p]) k = if p.1 = k then some p else lastP l k := by simp [lastP]
theorem snocP {P : List Pg → Prop} (h0 : P []) (h1 : ∀ l p, P l → P (l ++ [p])) (l : List Pg) : P l := by
  have h : ∀ m : List Pg, P m.reverse := fun m => by
    induction m with
    | nil => exact h0
    | cons i m ih => rw [List.reverse_cons]; exact h1 _ _ ih
  have := h l.reverse
  rwa [List.reverse_reverse] at this
theorem lastP_app (l m : List Pg) (k : Int) : lastP (l ++ m) k = (lastP m k).or (lastP l k) := by
  refine snocP (P := fun m => lastP (l ++ m) k = (lastP m k).or (lastP l k)) ?_ ?_ m
  · simp [lastP_nil]
  · intro m p ih
    rw [← List.append_assoc, lastP_snoc, lastP_snoc, ih]
    split <;> simp
theorem lastP_some {l : List Pg} {k : Int} {p : Pg} : lastP l k = some p → p.1 = k ∧ p ∈ l := by
  refine snocP (P := fun l => lastP l k = some p → p.1 = k ∧ p ∈ l) ?_ ?_ l
  · intro h; cases h
  · intro l q ih h
    rw [lastP_snoc] at h
    split at h
    · injection h with h; subst h; exact ⟨by assumption, by simp⟩
    · have := ih h; exact ⟨this.1, by simp [this.2]⟩
/-- the numbers, each once -/
def nums (l : List Pg) : List Int := l.foldl (fun ns p => if p.1 ∈ ns then ns else ns ++ [p.1]) []
theorem nums_snoc (l : List Pg) (p : Pg) : nums (l ++ [p]) = if p.1 ∈ nums l then nums l else nums l ++ [p.1] := by
  unfold nums; rw [List.foldl_append]; rfl
theorem nums_mem (l : List Pg) (k : Int) : k ∈ nums l ↔ lastP l k ≠ none := by
  refine snocP (P := fun l => k ∈ nums l ↔ lastP l k ≠ none) ?_ ?_ l
  · simp [nums, lastP_nil]
  · intro l p ih
    rw [nums_snoc, lastP_snoc]
    by_cases e : p.1 = k
    · subst e
      by_cases h : p.1 ∈ nums l <;> simp [h]
    · rw [if_neg e, ← ih]
      split
      · exact Iff.rfl
      · simp only [List.mem_append, List.mem_singleton]
        exact ⟨fun h => h.resolve_right (fun e2 => e e2.symm), .inl⟩
theorem nums_nodup (l : List Pg) : (nums l).Nodup := by
  refine snocP (P := fun l => (nums l).Nodup) (by simp [nums]) ?_ l
  intro l p ih
  rw [nums_snoc]
  split
  · exact ih
  · rename_i h
    exact List.nodup_append.2 ⟨ih, by simp, fun a ha b hb => by
      rw [List.mem_singleton] at hb
      intro e; subst e; subst hb; exact h ha⟩
theorem nums_length (l : List Pg) : (nums l).length ≤ l.length := by
  refine snocP (P := fun l => (nums l).length ≤ l.length) (by simp [nums]) ?_ l
  intro l p ih
  rw [nums_snoc]
  split
  · simp; omega
  · simp; omega
def sortI (ns : List Int) : List Int := ns.mergeSort (fun x y => decide (x ≤ y))
theorem sortI_perm (ns : List Int) : (sortI ns).Perm ns := List.mergeSort_perm _ _
theorem sortI_le (ns : List Int) : (sortI ns).Pairwise (· ≤ ·) := by
  have h := List.pairwise_mergeSort (le := fun x y : Int => decide (x ≤ y)) (by intro a b c; simp; omega) (by intro a b; simp; omega) ns
  exact h.imp (fun h => by simpa using h)
theorem sortI_lt {ns : List Int} (hn : ns.Nodup) : (sortI ns).Pairwise (· < ·) := by
  have h1 := sortI_le ns
  have h2 : (sortI ns).Nodup := (sortI_perm ns).nodup_iff.2 hn
  exact (h1.and h2).imp (fun {a b} h => by omega)
def Srt (l : List Pg) : Prop := l.Pairwise (fun p q => p.1 < q.1)
/-- the program's answer -/
def pageAt (l : List Pg) (k : Int) : Pg := (lastP l k).getD (k, [])
theorem pageAt_num (l : List Pg) (k : Int) : (pageAt l k).1 = k := by
  unfold pageAt
  cases h : lastP l k with
  | none => rfl
  | some p => exact (lastP_some h).1
def compL (l : List Pg) : List Pg := (sortI (nums l)).map (pageAt l)
theorem compL_srt (l : List Pg) : Srt (compL l) := by
  unfold Srt compL
  rw [List.pairwise_map]
  exact (sortI_lt (nums_nodup l)).imp (fun h => by rw [pageAt_num, pageAt_num]; exact h)
theorem compL_mem (l : List Pg) (p : Pg) : p ∈ compL l ↔ lastP l p.1 = some p := by
  unfold compL
  rw [List.mem_map]
  constructor
  · rintro ⟨k, hk, rfl⟩
    rw [pageAt_num]
    have := (nums_mem l k).1 ((sortI_perm _).mem_iff.1 hk)
    unfold pageAt
    cases h : lastP l k with
    | none => exact absurd h this
    | some q => rfl
  · intro h
    refine ⟨p.1, (sortI_perm _).mem_iff.2 ((nums_mem l p.1).2 (by rw [h]; simp)), ?_⟩
    rw [pageAt, h]; rfl
theorem Srt.uniq {l m : List Pg} (hl : Srt l) (hm : Srt m) (h : ∀ p, p ∈ l ↔ p ∈ m) : l = m := by
  have h1 : l.Nodup := List.Pairwise.imp (fun {a b} h => by rintro rfl; exact absurd h (by omega)) hl
  have h2 : m.Nodup := List.Pairwise.imp (fun {a b} h => by rintro rfl; exact absurd h (by omega)) hm
  have hp := (List.perm_ext_iff_of_nodup h1 h2).2 h
  refine List.Perm.eq_of_pairwise (le := fun p q : Pg => p.1 < q.1) ?_ hl hm hp
  intro a b _ _ h3 h4
  omega
theorem Srt.inj {l : List Pg} (hl : Srt l) {p q : Pg} (hp : p ∈ l) (hq : q ∈ l) (e : p.1 = q.1) : p = q := by
  obtain ⟨i, hi, rfl⟩ := List.getElem_of_mem hp
  obtain ⟨j, hj, rfl⟩ := List.getElem_of_mem hq
  rcases Nat.lt_trichotomy i j with h | h | h
  · have := List.pairwise_iff_getElem.1 hl i j hi hj h; omega
  · subst h; rfl
  · have := List.pairwise_iff_getElem.1 hl j i hj hi h; omega
theorem Srt.lastP {l : List Pg} (hl : Srt l) {p : Pg} (hp : p ∈ l) : Go.Proofs.Ytmjmdncdmmcmaaa.lastP l p.1 = some p := by
  cases h : Go.Proofs.Ytmjmdncdmmcmaaa.lastP l p.1 with
  | none =>
    have h2 : ¬ p.1 ∈ nums l := fun h3 => (nums_mem l p.1).1 h3 h
    exact absurd (by
      refine (snocP (P := fun l => p ∈ l → p.1 ∈ nums l) (by simp) ?_ l) hp
      intro l q ih h
      rw [nums_snoc]
      rcases List.mem_append.1 h with h | h
      · split
        · exact ih h
        · simp [ih h]
      · rw [List.mem_singleton] at h
        subst h
        split
        · assumption
        · simp) h2
  | some q =>
    obtain ⟨h1, h2⟩ := lastP_some h
    rw [hl.inj h2 hp h1]

/-- where the document inserts -/
def posI (l : List Pg) (k : Int) : Nat → Nat
  | 0 => 0
  | n + 1 => if k < (l.getD n (0, [])).1 then posI l k n else n + 1
theorem posI_le (l : List Pg) (k : Int) (n : Nat) : posI l k n ≤ n := by
  induction n with
  | zero => exact Nat.le_refl _
  | succ n ih => unfold posI; split <;> omega
theorem posI_hi (l : List Pg) (k : Int) (n j : Nat) (h1 : posI l k n ≤ j) (h2 : j < n) : k < (l.getD j (0, [])).1 := by
  induction n with
  | zero => omega
  | succ n ih =>
    unfold posI at h1
    split at h1
    · rename_i h
      by_cases e : j = n
      · subst e; exact h
      · exact ih h1 (by omega)
    · omega
theorem posI_lo (l : List Pg) (k : Int) (n : Nat) (h : 0 < posI l k n) : ¬ k < (l.getD (posI l k n - 1) (0, [])).1 := by
  induction n with
  | zero => exact absurd h (by simp [posI])
  | succ n ih =>
    unfold posI at h ⊢
    split
    · rename_i h1
      rw [if_pos h1] at h
      exact ih h
    · rename_i h1
      simpa using h1
def insL (l : List Pg) (p : Pg) : List Pg := l.take (posI l p.1 l.length) ++ p :: l.drop (posI l p.1 l.length)
theorem insL_mem (l : List Pg) (p q : Pg) : q ∈ insL l p ↔ q = p ∨ q ∈ l := by
  have h : q ∈ l ↔ q ∈ l.take (posI l p.1 l.length) ∨ q ∈ l.drop (posI l p.1 l.length) := by
    rw [← List.mem_append, List.take_append_drop]
  rw [insL, List.mem_append, List.mem_cons, h]
  constructor
  · rintro (h | h | h)
    · exact .inr (.inl h)
    · exact .inl h
    · exact .inr (.inr h)
  · rintro (h | h | h)
    · exact .inr (.inl h)
    · exact .inl h
    · exact .inr (.inr h)
theorem insL_length (l : List Pg) (p : Pg) : (insL l p).length = l.length + 1 := by
  have := posI_le l p.1 l.length
  simp [insL]; omega
theorem insL_srt {l : List Pg} (hl : Srt l) {p : Pg} (hp : ∀ q ∈ l, q.1 ≠ p.1) : Srt (insL l p) := by
  have hle := posI_le l p.1 l.length
  unfold Srt insL
  rw [List.pairwise_append]
  refine ⟨hl.take, ?_, ?_⟩
  · rw [List.pairwise_cons]
    refine ⟨fun q hq => ?_, hl.drop⟩
    obtain ⟨j, hj, rfl⟩ := List.getElem_of_mem hq
    rw [List.getElem_drop]
    have hj2 : posI l p.1 l.length + j < l.length := by simp at hj; omega
    have := posI_hi l p.1 l.length (posI l p.1 l.length + j) (by omega) hj2
    simpa [hj2] using this
  · intro a ha b hb
    obtain ⟨j, hj, rfl⟩ := List.getElem_of_mem ha
    have hj2 : j < posI l p.1 l.length := by simp at hj; omega
    have hjl : j < l.length := by omega
    rw [List.getElem_take]
    have hlt : l[j].1 < p.1 := by
      have h1 := posI_lo l p.1 l.length (by omega)
      have hm : posI l p.1 l.length - 1 < l.length := by omega
      have h2 : (l[posI l p.1 l.length - 1]).1 ≤ p.1 := by
        simp [hm] at h1; omega
      have h3 := hp _ (List.getElem_mem hjl)
      by_cases e : j = posI l p.1 l.length - 1
      · subst e; omega
      · have := List.pairwise_iff_getElem.1 hl j (posI l p.1 l.length - 1) hjl hm (by omega)
        omega
    rcases List.mem_cons.1 hb with rfl | hb
    · exact hlt
    · obtain ⟨i, hi, rfl⟩ := List.getElem_of_mem hb
      rw [List.getElem_drop]
      have hi2 : posI l p.1 l.length + i < l.length := by simp at hi; omega
      have := posI_hi l p.1 l.length (posI l p.1 l.length + i) (by omega) hi2
      simp [hi2] at this
      omega
/-- the index of the last page with a number among the first n, -1 if there is none -/
def lastIx (l : List Pg) (k : Int) : Nat → Int
  | 0 => -1
  | n + 1 => if (l.getD n (0, [])).1 = k then (n : Int) else lastIx l k n
theorem lastIx_spec (l : List Pg) (k : Int) (n : Nat) (hn : n ≤ l.length) : (lastIx l k n = -1 ∧ lastP (l.take n) k = none) ∨ ∃ i : Nat, i < n ∧ lastIx l k n = i ∧ (l.getD i (0, [])).1 = k ∧ lastP (l.take n) k = some (l.getD i (0, [])) := by
  induction n with
  | zero => exact .inl ⟨rfl, by simp [lastP_nil]⟩
  | succ n ih =>
    have hlt : n < l.length := by omega
    have e : l.take (n + 1) = l.take n ++ [l.getD n (0, [])] := by
      rw [List.take_succ_eq_append_getElem hlt]; simp [hlt]
    rw [e, lastP_snoc]
    unfold lastIx
    by_cases h : (l.getD n (0, [])).1 = k
    · rw [if_pos h, if_pos h]
      exact .inr ⟨n, by omega, rfl, h, rfl⟩
    · rw [if_neg h, if_neg h]
      rcases ih (by omega) with h1 | ⟨i, h1, h2, h3, h4⟩
      · exact .inl h1
      · exact .inr ⟨i, by omega, h2, h3, h4⟩
theorem lastIx_neg (l : List Pg) (k : Int) : lastIx l k l.length < 0 ↔ lastP l k = none := by
  rcases lastIx_spec l k l.length (Nat.le_refl _) with ⟨h1, h2⟩ | ⟨i, h1, h2, h3, h4⟩
  · rw [List.take_length] at h2; rw [h1, h2]; simp
  · rw [List.take_length] at h4; rw [h2, h4]; simp
theorem lastIx_bd (l : List Pg) (k : Int) (n : Nat) (hn : n ≤ l.length) : -1 ≤ lastIx l k n ∧ lastIx l k n < n := by
  rcases lastIx_spec l k n hn with ⟨h1, h2⟩ | ⟨i, h1, h2, h3, h4⟩
  · rw [h1]; omega
  · rw [h2]; omega
/-- one round of the document's loops: those of list l that are the last with their number and meet a condition -/
def refStep (l : List Pg) (c : Int → Bool) (out : List Pg) (k : Nat) : List Pg :=
  let p := l.getD k (0, [])
  if lastIx l p.1 l.length = k ∧ c p.1 = true then insL out p else out
def refLoop (l : List Pg) (c : Int → Bool) (out : List Pg) : Nat → List Pg
  | 0 => out
  | k + 1 => refStep l c (refLoop l c out k) k
/-- the document's answer -/
def refL (x y : List Pg) : List Pg := refLoop x (fun k => (lastP y k).isNone) (refLoop y (fun _ => true) [] y.length) x.length
theorem refLoop_len (l : List Pg) (c : Int → Bool) (out : List Pg) (k : Nat) : (refLoop l c out k).length ≤ out.length + k := by
  induction k with
  | zero => exact Nat.le_refl _
  | succ k ih =>
    show (refStep l c (refLoop l c out k) k).length ≤ _
    unfold refStep
    simp only
    split
    · rw [insL_length]; omega
    · omega
theorem refLoop_ok (l : List Pg) (c : Int → Bool) {out : List Pg} (ho : Srt out) (hc : ∀ q ∈ out, c q.1 = false ∨ lastP l q.1 = none) (k : Nat) (hk : k ≤ l.length) :
    Srt (refLoop l c out k) ∧ ∀ q, q ∈ refLoop l c out k ↔ q ∈ out ∨ ∃ i, i < k ∧ l.getD i (0, []) = q ∧ lastIx l q.1 l.length = i ∧ c q.1 = true := by
  induction k with
  | zero => exact ⟨ho, fun q => by simp [refLoop]⟩
  | succ k ih =>
    obtain ⟨h1, h2⟩ := ih (by omega)
    show Srt (refStep l c (refLoop l c out k) k) ∧ ∀ q, q ∈ refStep l c (refLoop l c out k) k ↔ _
    unfold refStep
    simp only
    by_cases h : lastIx l (l.getD k (0, [])).1 l.length = k ∧ c (l.getD k (0, [])).1 = true
    · rw [if_pos h]
      refine ⟨insL_srt h1 fun q hq e => ?_, fun q => ?_⟩
      · rcases (h2 q).1 hq with h3 | ⟨i, h3, h4, h5, h6⟩
        · rcases hc q h3 with h4 | h4
          · rw [e, h.2] at h4; cases h4
          · rw [e, ← lastIx_neg] at h4; omega
        · rw [e, h.1] at h5; omega
      · rw [insL_mem, h2]
        constructor
        · rintro (rfl | h3 | ⟨i, h3, h4, h5, h6⟩)
          · exact .inr ⟨k, by omega, rfl, h.1, h.2⟩
          · exact .inl h3
          · exact .inr ⟨i, by omega, h4, h5, h6⟩
        · rintro (h3 | ⟨i, h3, h4, h5, h6⟩)
          · exact .inr (.inl h3)
          · by_cases e : i = k
            · subst e; exact .inl h4.symm
            · exact .inr (.inr ⟨i, by omega, h4, h5, h6⟩)
    · rw [if_neg h]
      refine ⟨h1, fun q => ?_⟩
      rw [h2]
      constructor
      · rintro (h3 | ⟨i, h3, h4, h5, h6⟩)
        · exact .inl h3
        · exact .inr ⟨i, by omega, h4, h5, h6⟩
      · rintro (h3 | ⟨i, h3, h4, h5, h6⟩)
        · exact .inl h3
        · by_cases e : i = k
          · subst e; subst h4; exact absurd ⟨h5, h6⟩ h
          · exact .inr ⟨i, by omega, h4, h5, h6⟩
theorem refLoop_last (l : List Pg) (q : Pg) : (∃ i, i < l.length ∧ l.getD i (0, []) = q ∧ lastIx l q.1 l.length = i) ↔ lastP l q.1 = some q := by
  rcases lastIx_spec l q.1 l.length (Nat.le_refl _) with ⟨h1, h2⟩ | ⟨i, h1, h2, h3, h4⟩
  · rw [List.take_length] at h2
    rw [h2]
    constructor
    · rintro ⟨i, _, _, h⟩; omega
    · intro h; cases h
  · rw [List.take_length] at h4
    rw [h4]
    constructor
    · rintro ⟨j, h5, h6, h7⟩
      have : j = i := by omega
      subst this
      rw [h6]
    · intro h
      injection h with h
      exact ⟨i, h1, h, h2⟩
/-- both answers are one -/
theorem comp_ref (x y : List Pg) : compL (x ++ y) = refL x y := by
  obtain ⟨h1, h2⟩ := refLoop_ok y (fun _ => true) (out := []) (by simp [Srt]) (by simp) y.length (Nat.le_refl _)
  have h2' : ∀ q, q ∈ refLoop y (fun _ => true) [] y.length ↔ lastP y q.1 = some q := fun q => by
    rw [h2, ← refLoop_last]; simp
  obtain ⟨h3, h4⟩ := refLoop_ok x (fun k => (lastP y k).isNone) (out := refLoop y (fun _ => true) [] y.length) h1 (fun q hq => .inl (by rw [(h2' q).1 hq]; rfl)) x.length (Nat.le_refl _)
  refine Srt.uniq (compL_srt _) h3 fun q => ?_
  rw [compL_mem, lastP_app, refL, h4, h2']
  cases hy : lastP y q.1 with
  | some p => simp
  | none =>
    rw [show (Option.none.or (lastP x q.1) = some q) = (lastP x q.1 = some q) by simp, ← refLoop_last]
    simp
/-- a page lies within n cells -/
def fitP (n : Nat) (p : Pg) : Prop := 0 ≤ p.1 ∧ p.1 < (cnt n : Int) ∧ p.2.length = min 4 (n - 4 * p.1.toNat)
theorem app1_iff {b y : List Int} {p : Pg} : app1 b p = .ok y ↔ fitP b.length p ∧ y = over b (4 * p.1.toNat) p.2 := by
  unfold app1 fitP
  rw [pg_length]
  by_cases h1 : p.1 < 0 ∨ (cnt b.length : Int) ≤ p.1
  · rw [if_pos h1]
    constructor
    · intro h; cases h
    · rintro ⟨⟨h2, h3, _⟩, _⟩; omega
  · rw [if_neg h1]
    by_cases h2 : p.2.length ≠ min 4 (b.length - 4 * p.1.toNat)
    · rw [if_pos h2]
      constructor
      · intro h; cases h
      · rintro ⟨⟨_, _, h3⟩, _⟩; exact absurd h3 h2
    · rw [if_neg h2]
      constructor
      · intro h; injection h with h; exact ⟨⟨by omega, by omega, by simpa using h2⟩, h.symm⟩
      · rintro ⟨_, rfl⟩; rfl
/-- what pages that fit make of cells -/
theorem appL_iff (b : List Int) (l : List Pg) : (∀ y, appL b l = .ok y → (∀ p ∈ l, fitP b.length p) ∧ y.length = b.length ∧ ∀ i, i < b.length → y[i]? = match lastP l ((i / 4 : Nat) : Int) with | some p => p.2[i % 4]? | none => b[i]?) ∧ ((∀ p ∈ l, fitP b.length p) → ∃ y, appL b l = .ok y) := by
  refine snocP (P := fun l => (∀ y, appL b l = .ok y → (∀ p ∈ l, fitP b.length p) ∧ y.length = b.length ∧ ∀ i, i < b.length → y[i]? = match lastP l ((i / 4 : Nat) : Int) with | some p => p.2[i % 4]? | none => b[i]?) ∧ ((∀ p ∈ l, fitP b.length p) → ∃ y, appL b l = .ok y)) ?_ ?_ l
  · refine ⟨fun y h => ?_, fun _ => ⟨b, rfl⟩⟩
    have : b = y := by simpa [appL, pure, Except.pure] using h
    subst this
    exact ⟨by simp, rfl, fun i hi => by simp [lastP_nil]⟩
  · intro l p ih
    refine ⟨fun y h => ?_, fun h => ?_⟩
    · rw [appL_snoc] at h
      cases hz : appL b l with
      | error e => rw [hz] at h; cases h
      | ok z =>
        rw [hz] at h
        have h2 : app1 z p = .ok y := h
        obtain ⟨h3, h4, h5⟩ := ih.1 z hz
        obtain ⟨h6, h7⟩ := app1_iff.1 h2
        have hyl := app1_length h2
        rw [h4] at h6 hyl
        refine ⟨fun q hq => ?_, hyl, fun i hi => ?_⟩
        · rcases List.mem_append.1 hq with h | h
          · exact h3 q h
          · rw [List.mem_singleton] at h; rw [h]; exact h6
        · obtain ⟨f1, f2, f3⟩ := h6
          rw [lastP_snoc, h7, over_get z (4 * p.1.toNat) p.2 (by rw [h4, f3]; unfold cnt at f2; omega)]
          by_cases e : p.1 = ((i / 4 : Nat) : Int)
          · rw [if_pos e, if_neg (by omega), if_pos (by rw [f3]; omega)]
            simp only
            congr 1
            omega
          · rw [if_neg e]
            by_cases e2 : i < 4 * p.1.toNat
            · rw [if_pos e2]; exact h5 i hi
            · rw [if_neg e2, if_neg (by rw [f3]; omega)]; exact h5 i hi
    · obtain ⟨z, hz⟩ := ih.2 (fun q hq => h q (by simp [hq]))
      have hzl := (ih.1 z hz).2.1
      refine ⟨over z (4 * p.1.toNat) p.2, ?_⟩
      rw [appL_snoc, hz]
      show app1 z p = _
      exact app1_iff.2 ⟨by rw [hzl]; exact h p (by simp), rfl⟩
theorem compL_last (l : List Pg) (k : Int) : lastP (compL l) k = lastP l k := by
  cases h : lastP l k with
  | some p =>
    obtain ⟨h1, _⟩ := lastP_some h
    subst h1
    exact (compL_srt l).lastP ((compL_mem l p).2 h)
  | none =>
    cases h2 : lastP (compL l) k with
    | none => rfl
    | some q =>
      obtain ⟨h3, h4⟩ := lastP_some h2
      subst h3
      rw [(compL_mem l q).1 h4] at h; cases h
/-- composing changes nothing -/
theorem appL_compL {b y : List Int} {l : List Pg} (h : appL b l = .ok y) : appL b (compL l) = .ok y := by
  obtain ⟨h1, h2, h3⟩ := (appL_iff b l).1 y h
  obtain ⟨z, hz⟩ := (appL_iff b (compL l)).2 (fun p hp => h1 p (lastP_some ((compL_mem l p).1 hp)).2)
  obtain ⟨_, h5, h6⟩ := (appL_iff b (compL l)).1 z hz
  rw [hz]
  congr 1
  refine List.ext_getElem? fun i => ?_
  by_cases hi : i < b.length
  · rw [h6 i hi, h3 i hi, compL_last]
  · rw [List.getElem?_eq_none (by omega), List.getElem?_eq_none (by omega)]
theorem appL_app (b : List Int) (l m : List Pg) : appL b (l ++ m) = (appL b l).bind (fun y => appL y m) := by
  rw [appL, List.foldlM_append]; rfl
/-- one more link of a chain -/
theorem chain_step {a last next : List Int} {all : List Pg} (h : appL a all = .ok last) (hl : next.length = last.length) : appL a (compL (all ++ diffL last next)) = .ok next := by
  apply appL_compL
  rw [appL_app, h]
  exact appL_diffL last next hl
end Go.Proofs.Ytmjmdncdmmcmaaa
