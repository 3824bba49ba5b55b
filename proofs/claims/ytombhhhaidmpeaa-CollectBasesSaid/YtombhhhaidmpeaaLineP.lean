/- Recovery lines as plain data: the greatest consistent cut of allowed indexes. No condition. -/
import Derived.Test.YtombhhhaidmpeaaGe
namespace Go.Proofs.Ytombhhhaidmpeaa
set_option linter.unusedVariables false
set_option linter.unusedSimpArgs false

/-- one more number is looked at: the greatest so far that is at most m -/
def belS (m : Int) (acc : Option Int) (k : Int) : Option Int := match acc with
  | none => if k ≤ m then some k else none
  | some b => if k ≤ m ∧ b < k then some k else some b
/-- the greatest of a list that is at most m -/
def bel (l : List Int) (m : Int) : Option Int := l.foldl (belS m) none
theorem belF_spec (m : Int) : ∀ (l : List Int) (acc : Option Int),
    (∀ v, l.foldl (belS m) acc = some v → (acc = some v ∨ (v ∈ l ∧ v ≤ m)) ∧ (∀ b, acc = some b → b ≤ v) ∧ ∀ k ∈ l, k ≤ m → k ≤ v) ∧
    (l.foldl (belS m) acc = none → acc = none ∧ ∀ k ∈ l, ¬ k ≤ m)
  | [], acc => ⟨fun v h => ⟨.inl h, fun b hb => by simp only [List.foldl_nil] at h; rw [h] at hb; injection hb with e; omega, by simp⟩, fun h => ⟨h, by simp⟩⟩
  | x :: l, acc => by
    rw [List.foldl_cons]
    obtain ⟨h1, h2⟩ := belF_spec m l (belS m acc x)
    have hs : ∀ b, belS m acc x = some b → (acc = some b ∨ (b = x ∧ x ≤ m)) ∧ (∀ c, acc = some c → c ≤ b) ∧ (x ≤ m → x ≤ b) := by
      intro b hb
      unfold belS at hb
      cases acc with
      | none =>
        simp only at hb
        split at hb
        · injection hb with e; exact ⟨.inr ⟨e.symm, by omega⟩, by simp, by omega⟩
        · cases hb
      | some c =>
        simp only at hb
        split at hb
        · injection hb with e; exact ⟨.inr ⟨e.symm, by omega⟩, fun d hd => by injection hd with hd; omega, by omega⟩
        · injection hb with e; exact ⟨.inl (by rw [e]), fun d hd => by injection hd with hd; omega, by omega⟩
    have hn : belS m acc x = none → acc = none ∧ ¬ x ≤ m := by
      intro hb
      unfold belS at hb
      cases acc with
      | none => simp only at hb; split at hb; cases hb; exact ⟨rfl, by assumption⟩
      | some c => simp only at hb; split at hb <;> cases hb
    refine ⟨fun v hv => ?_, fun hv => ?_⟩
    · obtain ⟨a1, a2, a3⟩ := h1 v hv
      refine ⟨?_, fun b hb => ?_, fun k hk hkm => ?_⟩
      · rcases a1 with a1 | a1
        · rcases (hs v a1).1 with h | ⟨rfl, h⟩
          · exact .inl h
          · exact .inr ⟨by simp, h⟩
        · exact .inr ⟨by simp [a1.1], a1.2⟩
      · cases hc : belS m acc x with
        | none => rw [(hn hc).1] at hb; cases hb
        | some d => have := (hs d hc).2.1 b hb; have := a2 d hc; omega
      · rcases List.mem_cons.1 hk with rfl | hk
        · cases hc : belS m acc k with
          | none => exact absurd hkm (hn hc).2
          | some d => have := (hs d hc).2.2 hkm; have := a2 d hc; omega
        · exact a3 k hk hkm
    · obtain ⟨a1, a2⟩ := h2 hv
      refine ⟨(hn a1).1, fun k hk => ?_⟩
      rcases List.mem_cons.1 hk with rfl | hk
      · exact (hn a1).2
      · exact a2 k hk
theorem bel_some {l : List Int} {m v : Int} (h : bel l m = some v) : v ∈ l ∧ v ≤ m ∧ ∀ k ∈ l, k ≤ m → k ≤ v := by
  obtain ⟨h1, h2, h3⟩ := (belF_spec m l none).1 v h
  rcases h1 with h1 | h1
  · cases h1
  · exact ⟨h1.1, h1.2, h3⟩
theorem bel_zero {l : List Int} {m : Int} (h0 : 0 ∈ l) (hm : 0 ≤ m) : ∃ v, bel l m = some v := by
  cases h : bel l m with
  | none => exact absurd hm (((belF_spec m l none).2 h).2 0 h0)
  | some v => exact ⟨v, rfl⟩
/-- the row of each process that may be restored -/
structure AlOk (len : List Int) (al : List (List Int)) : Prop where
  n : al.length = len.length
  z : ∀ q, q < len.length → 0 ∈ rowOf al q
  nn : ∀ q, q < len.length → ∀ k ∈ rowOf al q, 0 ≤ k ∧ k ≤ nth len q
def Allow (n : Nat) (al : List (List Int)) (x : List Int) : Prop := ∀ q, q < n → nth x q ∈ rowOf al q
/-- what process a.to goes back to -/
def lineStep (al : List (List Int)) (a : Arc) (x : List Int) : List Int := x.set a.to ((bel (rowOf al a.to) (a.at_ - 1)).getD 0)
/-- the greatest allowed indexes -/
def topOf (al : List (List Int)) (len : List Int) : List Int := (List.range len.length).map fun q => (bel (rowOf al q) (nth len q)).getD 0
theorem topOf_len (al : List (List Int)) (len : List Int) : (topOf al len).length = len.length := by simp [topOf]
theorem topOf_nth {al : List (List Int)} {len : List Int} {q : Nat} (hq : q < len.length) : nth (topOf al len) q = (bel (rowOf al q) (nth len q)).getD 0 := by
  rw [nth_eq (by rw [topOf_len]; exact hq)]; simp [topOf]
/-- the greatest consistent cut of allowed indexes -/
structure IsLine (p : Pat) (al : List (List Int)) (y : List Int) : Prop where
  v : validB p.len y = true
  c : consB p.arcs y = true
  a : Allow p.len.length al y
  g : ∀ z, validB p.len z = true → consB p.arcs z = true → Allow p.len.length al z → Le p.len.length z y
theorem le_antisymm {n : Nat} {x y : List Int} (hx : x.length = n) (hy : y.length = n) (h1 : Le n x y) (h2 : Le n y x) : x = y := by
  apply List.ext_getElem (by omega)
  intro k hk hk'
  have := h1 k (by omega)
  have := h2 k (by omega)
  rw [nth_eq hk, nth_eq hk'] at *
  omega
section
variable {p : Pat} {al : List (List Int)} {x y z : List Int} {a : Arc}
theorem IsLine.unique (h : IsLine p al x) (k : IsLine p al y) : x = y :=
  le_antisymm (valid_iff.1 h.v).1 (valid_iff.1 k.v).1 (k.g x h.v h.c h.a) (h.g y k.v k.c k.a)
theorem top_ok (hal : AlOk p.len al) (hg : Good p) : validB p.len (topOf al p.len) = true ∧ Allow p.len.length al (topOf al p.len) ∧ ∀ z, validB p.len z = true → Allow p.len.length al z → Le p.len.length z (topOf al p.len) := by
  have hb : ∀ q, q < p.len.length → ∃ v, nth (topOf al p.len) q = v ∧ v ∈ rowOf al q ∧ v ≤ nth p.len q ∧ ∀ k ∈ rowOf al q, k ≤ nth p.len q → k ≤ v := fun q hq => by
    obtain ⟨v, hv⟩ := bel_zero (hal.z q hq) (hg.lo q hq)
    exact ⟨v, by rw [topOf_nth hq, hv]; rfl, bel_some hv⟩
  refine ⟨valid_iff.2 ⟨topOf_len _ _, fun k hk => ?_⟩, fun q hq => ?_, fun z hz hza q hq => ?_⟩
  · obtain ⟨v, e, h1, h2, _⟩ := hb k hk
    rw [e]; exact hal.nn k hk v h1
  · obtain ⟨v, e, h1, h2, _⟩ := hb q hq
    rw [e]; exact h1
  · obtain ⟨v, e, h1, h2, h3⟩ := hb q hq
    rw [e]; exact h3 _ (hza q hq) ((valid_iff.1 hz).2 q hq).2
theorem lstep_ok (hal : AlOk p.len al) (hg : Good p) (ha : a ∈ p.arcs) (hv : validB p.len x = true) (hA : Allow p.len.length al x) (ho : orph a x = true) :
    validB p.len (lineStep al a x) = true ∧ Allow p.len.length al (lineStep al a x) ∧ sumN (lineStep al a x) < sumN x ∧ ∀ z, consB p.arcs z = true → Allow p.len.length al z → Le p.len.length z x → Le p.len.length z (lineStep al a x) := by
  obtain ⟨h1, h2⟩ := valid_iff.1 hv
  have hok := hg.arc a ha
  obtain ⟨o1, o2, o3⟩ := orph_iff.1 ho
  obtain ⟨v, hb⟩ := bel_zero (hal.z _ hok.to) (show 0 ≤ a.at_ - 1 by omega)
  obtain ⟨b1, b2, b3⟩ := bel_some hb
  have e : lineStep al a x = x.set a.to v := by rw [lineStep, hb]; rfl
  rw [e]
  have hto : a.to < x.length := by rw [h1]; exact hok.to
  have hv0 := hal.nn _ hok.to v b1
  refine ⟨valid_iff.2 ⟨by rw [List.length_set]; exact h1, fun k hk => ?_⟩, fun q hq => ?_, sumN_set hto (by omega), fun z hc hz hle k hk => ?_⟩
  · rw [nth_set hto]
    split
    · rename_i e2; subst e2; exact hv0
    · exact h2 k hk
  · rw [nth_set hto]
    split
    · rename_i e2; subst e2; exact b1
    · exact hA q hq
  · rw [nth_set hto]
    split
    · rename_i e2; subst e2
      refine b3 _ (hz _ hk) ?_
      rcases Int.lt_or_le (nth z a.to) a.at_ with h | h
      · omega
      · have h5 := cons_iff.1 hc a ha o1 h
        have := hle _ hok.fr
        omega
    · exact hle k hk
theorem line_fin (hal : AlOk p.len al) (hg : Good p) (h : Fin (lineStep al) p.arcs (topOf al p.len) y) : IsLine p al y := by
  obtain ⟨t1, t2, t3⟩ := top_ok hal hg
  have h0 := run_inv (P := fun y => validB p.len y = true ∧ Allow p.len.length al y ∧ ∀ z, validB p.len z = true → consB p.arcs z = true → Allow p.len.length al z → Le p.len.length z y)
    (fun z a ⟨k1, k2, k3⟩ ha ho => by
      obtain ⟨s1, s2, _, s4⟩ := lstep_ok hal hg ha k1 k2 ho
      exact ⟨s1, s2, fun u hu hc hu2 => s4 u hc hu2 (k3 u hu hc hu2)⟩) ⟨t1, t2, fun z hz _ hz2 => t3 z hz hz2⟩ h.1
  exact ⟨h0.1, h.2, h0.2.1, h0.2.2⟩
theorem fin_ex (hal : AlOk p.len al) (hg : Good p) : ∀ (N : Nat) (x : List Int), sumN x ≤ N → validB p.len x = true → Allow p.len.length al x → ∃ y, Fin (lineStep al) p.arcs x y
  | N, x, hN, hv, hA => by
    cases hc : p.arcs.find? (orph · x) with
    | none => exact ⟨x, Run.refl _ _ _, find_none.1 hc⟩
    | some a =>
      have ha := List.mem_of_find?_eq_some hc
      have ho : orph a x = true := by simpa using List.find?_some hc
      obtain ⟨s1, s2, s3, _⟩ := lstep_ok hal hg ha hv hA ho
      match N, hN with
      | 0, hN => omega
      | N + 1, hN =>
        obtain ⟨y, ⟨k, hk⟩, h2⟩ := fin_ex hal hg N (lineStep al a x) (by omega) s1 s2
        exact ⟨y, ⟨k + 1, by rw [iter, mend, hc]; exact hk⟩, h2⟩
theorem line_ex (hal : AlOk p.len al) (hg : Good p) : ∃ y, IsLine p al y := by
  obtain ⟨t1, t2, _⟩ := top_ok hal hg
  obtain ⟨y, hy⟩ := fin_ex hal hg _ _ (Nat.le_refl _) t1 t2
  exact ⟨y, line_fin hal hg hy⟩
end
/-- what may be restored when the processes of F fail -/
def alRow (p : Pat) (F : List Nat) (q : Nat) : List Int := if q ∈ F ∨ nth p.len q ∈ rowOf p.ck q then rowOf p.ck q else rowOf p.ck q ++ [nth p.len q]
def alF (p : Pat) (F : List Nat) : List (List Int) := (List.range p.len.length).map (alRow p F)
theorem alF_len (p : Pat) (F : List Nat) : (alF p F).length = p.len.length := by simp [alF]
theorem alF_row {p : Pat} {F : List Nat} {q : Nat} (hq : q < p.len.length) : rowOf (alF p F) q = alRow p F q := by
  rw [rowOf_eq (by rw [alF_len]; exact hq)]; simp [alF]
section
variable {p r : Pat} {F : List Nat} {x y z : List Int} {q : Nat}
theorem alRow_ck {k : Int} (h : k ∈ rowOf p.ck q) : k ∈ alRow p F q := by
  unfold alRow; split
  · exact h
  · simp [h]
theorem alRow_or {k : Int} (h : k ∈ alRow p F q) : k ∈ rowOf p.ck q ∨ (k = nth p.len q ∧ q ∉ F) := by
  unfold alRow at h; split at h
  · exact .inl h
  · rename_i hn
    rcases List.mem_append.1 h with h | h
    · exact .inl h
    · exact .inr ⟨by simpa using h, fun hq => hn (.inl hq)⟩
theorem alRow_len (h : q ∉ F ∨ nth p.len q ∈ rowOf p.ck q) : nth p.len q ∈ alRow p F q := by
  unfold alRow; split
  · rename_i hc
    rcases hc with hc | hc
    · exact h.resolve_left (fun h => h hc)
    · exact hc
  · simp
theorem alF_ok (hg : Good p) (F : List Nat) : AlOk p.len (alF p F) := by
  refine ⟨alF_len _ _, fun q hq => ?_, fun q hq k hk => ?_⟩
  · rw [alF_row hq]
    obtain ⟨s, hs⟩ := (hg.row q hq).head
    exact alRow_ck (by rw [hs]; simp)
  · rw [alF_row hq] at hk
    rcases alRow_or hk with h | ⟨rfl, _⟩
    · exact ⟨(hg.row q hq).nonneg k h, (hg.row q hq).le k h⟩
    · exact ⟨hg.lo q hq, Int.le_refl _⟩
theorem line_len (hg : Good p) (h : ∀ q, q < p.len.length → q ∉ F ∨ nth p.len q ∈ rowOf p.ck q) : IsLine p (alF p F) p.len :=
  ⟨valid_len hg, cons_len hg, fun q hq => by rw [alF_row hq]; exact alRow_len (h q hq), fun z hz _ _ k hk => ((valid_iff.1 hz).2 k hk).2⟩
/-- the minimum of the lines of single failures -/
def mins (ys : Nat → List Int) : List Nat → List Int
  | [] => []
  | [f] => ys f
  | f :: g :: s => zipI min (ys f) (mins ys (g :: s))
theorem mins_ok (hg : Good p) {ys : Nat → List Int} (hv : ∀ f, validB p.len (ys f) = true) (hc : ∀ f, consB p.arcs (ys f) = true) : ∀ (F : List Nat), F ≠ [] →
    validB p.len (mins ys F) = true ∧ consB p.arcs (mins ys F) = true ∧ (∀ f ∈ F, Le p.len.length (mins ys F) (ys f)) ∧ ∀ q, q < p.len.length → ∃ f ∈ F, nth (mins ys F) q = nth (ys f) q
  | [], h => absurd rfl h
  | [f], _ => ⟨hv f, hc f, fun g hg => by rw [List.mem_singleton.1 hg]; exact Le.refl _ _, fun q _ => ⟨f, by simp, rfl⟩⟩
  | f :: g :: s, _ => by
    obtain ⟨h1, h2, h3, h4⟩ := mins_ok hg hv hc (g :: s) (by simp)
    obtain ⟨m1, m2, m3, m4⟩ := meet_good hg (hv f) h1 (hc f) h2
    have hl : (ys f).length = (mins ys (g :: s)).length := by rw [(valid_iff.1 (hv f)).1, (valid_iff.1 h1).1]
    have hln := (valid_iff.1 h1).1
    have hn : ∀ q, q < p.len.length → nth (mins ys (f :: g :: s)) q = min (nth (ys f) q) (nth (mins ys (g :: s)) q) := fun q hq => zipI_nth hl (by omega)
    refine ⟨m1, m2, fun e he q hq => ?_, fun q hq => ?_⟩
    · rw [hn q hq]
      rcases List.mem_cons.1 he with rfl | he
      · omega
      · have := h3 e he q hq; omega
    · rw [hn q hq]
      obtain ⟨e, he, h5⟩ := h4 q hq
      rcases Int.le_total (nth (ys f) q) (nth (mins ys (g :: s)) q) with h | h
      · exact ⟨f, by simp, by omega⟩
      · exact ⟨e, by simp [List.mem_cons.1 he], by omega⟩
/-- the line of a failure is the minimum of the lines of single failures -/
theorem line_min (hg : Good p) (hF : F ≠ []) (h : IsLine p (alF p F) y) (hq : q < p.len.length) : ∃ f ∈ F, ∃ yf, IsLine p (alF p [f]) yf ∧ nth yf q = nth y q := by
  have hex : ∀ f : Nat, ∃ yf, IsLine p (alF p [f]) yf := fun f => line_ex (alF_ok hg _) hg
  obtain ⟨ys, hys⟩ := Classical.axiomOfChoice hex
  obtain ⟨m1, m2, m3, m4⟩ := mins_ok hg (fun f => (hys f).v) (fun f => (hys f).c) F hF
  have hA : Allow p.len.length (alF p F) (mins ys F) := fun s hs => by
    rw [alF_row hs]
    obtain ⟨f, hf, e⟩ := m4 s hs
    have h1 := (hys f).a s hs
    rw [alF_row hs] at h1
    rcases alRow_or h1 with h2 | ⟨h2, h3⟩
    · rw [e]; exact alRow_ck h2
    · rw [e, h2]
      refine alRow_len ?_
      by_cases hsF : s ∈ F
      · right
        have h4 := m3 s hsF s hs
        have h5 := (hys s).a s hs
        rw [alF_row hs] at h5
        rcases alRow_or h5 with h6 | ⟨_, h6⟩
        · have h7 := ((valid_iff.1 (hys s).v).2 s hs).2
          have h8 : nth (ys s) s = nth p.len s := by omega
          rw [← h8]; exact h6
        · exact absurd (by simp) h6
      · exact .inl hsF
  have hle := h.g _ m1 m2 hA
  obtain ⟨f, hf, e⟩ := m4 q hq
  refine ⟨f, hf, ys f, hys f, ?_⟩
  have hB : ∀ g ∈ F, Allow p.len.length (alF p [g]) y := fun g hgF s hs => by
    have h1 := h.a s hs
    rw [alF_row hs] at h1 ⊢
    rcases alRow_or h1 with h2 | ⟨h2, h3⟩
    · exact alRow_ck h2
    · rw [h2]
      exact alRow_len (.inl (fun h4 => h3 (by rw [List.mem_singleton.1 h4]; exact hgF)))
  have h6 := (hys f).g y h.v h.c (hB f hf) q hq
  have h7 := hle q hq
  omega
/-- checkpoint k of process q is an element of the line of a single failure -/
def Need (p : Pat) (q : Nat) (k : Int) : Prop := ∃ f, f < p.len.length ∧ ∃ yf, IsLine p (alF p [f]) yf ∧ nth yf q = k
theorem line_covers (hg : Good p) (hF : ∀ f ∈ F, f < p.len.length) (h : IsLine p (alF p F) y) (hq : q < p.len.length) : nth y q = nth p.len q ∨ (nth y q ∈ rowOf p.ck q ∧ Need p q (nth y q)) := by
  cases hc : F with
  | nil =>
    left
    have h1 : IsLine p (alF p F) p.len := line_len hg (fun q _ => .inl (by rw [hc]; simp))
    rw [h.unique h1]
  | cons f s =>
    have h1 := h.a q hq
    rw [alF_row hq] at h1
    rcases alRow_or h1 with h2 | ⟨h2, _⟩
    · right
      obtain ⟨f, hf, yf, h3, h4⟩ := line_min hg (by rw [hc]; simp) h hq
      exact ⟨h2, f, hF f hf, yf, h3, h4⟩
    · exact .inl h2
/-- r is p with more events, messages and checkpoints -/
structure Later (p r : Pat) : Prop where
  n : r.len.length = p.len.length
  len : ∀ q, q < p.len.length → nth p.len q ≤ nth r.len q
  ck : ∀ q, q < p.len.length → ∀ k ∈ rowOf p.ck q, k ∈ rowOf r.ck q
  old : ∀ q, q < p.len.length → ∀ k ∈ rowOf r.ck q, k < nth p.len q → k ∈ rowOf p.ck q
  arc : ∀ a ∈ p.arcs, a ∈ r.arcs
  arn : ∀ a ∈ r.arcs, 0 < a.at_ → a.at_ ≤ nth p.len a.to → a ∈ p.arcs
theorem Later.refl (p : Pat) : Later p p := ⟨rfl, fun _ _ => Int.le_refl _, fun _ _ _ h => h, fun _ _ _ h _ => h, fun _ h => h, fun _ h _ _ => h⟩
theorem forever (hg : Good p) (hr : Good r) (hl : Later p r) (hF : ∀ f ∈ F, f < p.len.length) (h : IsLine r (alF r F) x) (hq : q < p.len.length) (hk : nth x q ∈ rowOf p.ck q) : Need p q (nth x q) := by
  have hkl := (hg.row q hq).le _ hk
  have hfull : nth x q = nth p.len q → Need p q (nth x q) := fun e => by
    refine ⟨q, hq, p.len, line_len hg (fun s hs => ?_), e.symm⟩
    by_cases e2 : s = q
    · subst e2; right; rw [← e]; exact hk
    · left; simp [e2]
  by_cases hfl : nth x q = nth p.len q
  · exact hfull hfl
  cases hc : F with
  | nil =>
    have h1 : IsLine r (alF r F) r.len := line_len hr (fun q _ => .inl (by rw [hc]; simp))
    have h2 := h.unique h1
    have := hl.len q hq
    rw [h2] at hkl hfl
    omega
  | cons f0 s0 =>
    obtain ⟨f, hf, y, hy, e⟩ := line_min hr (by rw [hc]; simp) h (by rw [hl.n]; exact hq)
    rw [← e] at hk hkl hfl ⊢
    clear e h
    obtain ⟨yl, yb⟩ := valid_iff.1 hy.v
    rw [hl.n] at yl yb
    -- what of y lies within p
    have hzl : y.length = p.len.length := yl
    have hzn : ∀ s, s < p.len.length → nth (zipI min y p.len) s = min (nth y s) (nth p.len s) := fun s hs => zipI_nth hzl hs
    have hzv : validB p.len (zipI min y p.len) = true := valid_iff.2 ⟨by rw [zipI_len hzl], fun s hs => by rw [hzn s hs]; have := yb s hs; have := hg.lo s hs; omega⟩
    have hzc : consB p.arcs (zipI min y p.len) = true := cons_iff.2 fun a ha h1 h2 => by
      have hok := hg.arc a ha
      rw [hzn _ hok.to] at h2
      rw [hzn _ hok.fr]
      have := cons_iff.1 hy.c a (hl.arc a ha) h1 (by omega)
      have := hok.ix1
      omega
    -- the processes that lie behind
    have hG : ∀ g, g ∈ (List.range p.len.length).filter (fun s => decide (nth y s < nth p.len s)) ↔ g < p.len.length ∧ nth y g < nth p.len g := fun g => by simp
    generalize hGG : (List.range p.len.length).filter (fun s => decide (nth y s < nth p.len s)) = G at hG
    have hqG : q ∈ G := (hG q).2 ⟨hq, by omega⟩
    have hyck : ∀ s, s < p.len.length → nth y s < nth p.len s → nth y s ∈ rowOf p.ck s := fun s hs hlt => by
      have h1 := hy.a s (by rw [hl.n]; exact hs)
      rw [alF_row (by rw [hl.n]; exact hs)] at h1
      rcases alRow_or h1 with h2 | ⟨h2, _⟩
      · exact hl.old s hs _ h2 hlt
      · have := hl.len s hs; omega
    have hzA : Allow p.len.length (alF p G) (zipI min y p.len) := fun s hs => by
      rw [alF_row hs, hzn s hs]
      by_cases hlt : nth y s < nth p.len s
      · rw [show min (nth y s) (nth p.len s) = nth y s by omega]
        exact alRow_ck (hyck s hs hlt)
      · rw [show min (nth y s) (nth p.len s) = nth p.len s by omega]
        exact alRow_len (.inl (fun h => hlt ((hG s).1 h).2))
    obtain ⟨w, hw⟩ := line_ex (alF_ok hg G) hg
    have hzw := hw.g _ hzv hzc hzA
    obtain ⟨wl, wb⟩ := valid_iff.1 hw.v
    -- w within r
    have hwv : validB r.len w = true := valid_iff.2 ⟨by rw [wl, hl.n], fun s hs => by rw [hl.n] at hs; have := wb s hs; have := hl.len s hs; omega⟩
    have hwc : consB r.arcs w = true := cons_iff.2 fun a ha h1 h2 => by
      have hok := hr.arc a ha
      have hto : a.to < p.len.length := by have := hok.to; rw [hl.n] at this; exact this
      exact cons_iff.1 hw.c a (hl.arn a ha h1 (by have := (wb _ hto).2; omega)) h1 h2
    obtain ⟨j1, j2, _, _⟩ := join_good hr hy.v hwv hy.c hwc
    have hyw : y.length = w.length := by omega
    have hjn : ∀ s, s < p.len.length → nth (zipI max y w) s = max (nth y s) (nth w s) := fun s hs => zipI_nth hyw (by omega)
    have hjA : Allow r.len.length (alF r [f]) (zipI max y w) := fun s hs => by
      have hs' : s < p.len.length := by rw [← hl.n]; exact hs
      rw [hjn s hs']
      by_cases hle : nth w s ≤ nth y s
      · rw [show max (nth y s) (nth w s) = nth y s by omega]; exact hy.a s hs
      · rw [show max (nth y s) (nth w s) = nth w s by omega, alF_row hs]
        have h1 := hw.a s hs'
        rw [alF_row hs'] at h1
        have h3 := (wb s hs').2
        have hsG : s ∈ G := (hG s).2 ⟨hs', by omega⟩
        rcases alRow_or h1 with h2 | ⟨_, h2⟩
        · exact alRow_ck (hl.ck s hs' _ h2)
        · exact absurd hsG h2
    have hjy := hy.g _ j1 j2 hjA q (by rw [hl.n]; exact hq)
    rw [hjn q hq] at hjy
    have hzq := hzw q hq
    rw [hzn q hq] at hzq
    have hwq : nth w q = nth y q := by omega
    obtain ⟨g, hgG, yg, h1, h2⟩ := line_min hg (by intro e; rw [e] at hqG; cases hqG) hw hq
    exact ⟨g, ((hG g).1 hgG).1, yg, h1, by rw [h2, hwq]⟩
end
end Go.Proofs.Ytombhhhaidmpeaa
