/- Happened before, plain: edges, what is reached by them, and clocks. No condition. -/
import Derived.Test.YtmjmdncdmmcmaaaGf
namespace Go.Proofs.Ytmjmdncdmmcmaaa
set_option linter.unusedVariables false
set_option linter.unusedSimpArgs false
set_option linter.unusedSectionVars false

/-- the key of a point -/
abbrev key (a : Nat × Int) : Int × Int := ((a.1 : Int), a.2)
theorem key_inj {a b : Nat × Int} (h : key a = key b) : a = b := by
  obtain ⟨a1, a2⟩ := a
  obtain ⟨b1, b2⟩ := b
  simp only [key, Prod.mk.injEq] at h
  have : a1 = b1 := by omega
  rw [this, h.2]
/-- an edge, backwards: the event before it in its process, or the one that sent what it received -/
def Pred (p : Pat) (x y : Nat × Int) : Prop := (0 < x.2 ∧ y = (x.1, x.2 - 1)) ∨ srcF p.arcs (key x) = some y
inductive Reach (p : Pat) (x : Nat × Int) : Nat × Int → Prop
  | refl : Reach p x x
  | step {y z : Nat × Int} : Reach p x y → Pred p y z → Reach p x z
section
variable {p : Pat} {x y z a b : Nat × Int}
theorem Reach.trans (h : Reach p x y) (k : Reach p y z) : Reach p x z := by
  induction k with
  | refl => exact h
  | step _ hp ih => exact ih.step hp
theorem src_arc (h : srcF p.arcs (key x) = some y) : ∃ r ∈ p.arcs, r.to = x.1 ∧ r.at_ = x.2 ∧ x.2 ≠ 0 ∧ y = (r.fr, r.ix) := srcF_some h
theorem srcF_zero (az : List Arc) (q : Int) : srcF az (q, 0) = none := by
  unfold srcF
  rw [Option.map_eq_none_iff, List.find?_eq_none]
  intro a _ h
  simp only [Bool.and_eq_true, decide_eq_true_eq, Prod.mk.injEq] at h
  exact h.1 h.2.2
theorem arc_src (hg : Good p) {r : Arc} (hr : r ∈ p.arcs) (h0 : r.at_ ≠ 0) : srcF p.arcs (key (r.to, r.at_)) = some (r.fr, r.ix) := by
  cases hs : srcF p.arcs (key (r.to, r.at_)) with
  | none => exact absurd rfl (srcF_none (q := r.to) (k := r.at_) hs h0 r hr rfl)
  | some s =>
    obtain ⟨t, ht, hto, hat, _, rfl⟩ := srcF_some (q := r.to) (k := r.at_) hs
    obtain ⟨i, hi, rfl⟩ := List.getElem_of_mem hr
    obtain ⟨j, hj, rfl⟩ := List.getElem_of_mem ht
    rcases Nat.lt_trichotomy i j with hlt | rfl | hlt
    · exact absurd (hg.uniq i j hi hj hlt hto.symm hat.symm) h0
    · rfl
    · exact absurd (hg.uniq j i hj hi hlt hto hat) (by rw [hat]; exact h0)
theorem Pred.ok (hg : Good p) (hx : PtOk p x) (h : Pred p x y) : PtOk p y := by
  obtain ⟨h1, h2, h3⟩ := hx
  rcases h with ⟨h0, rfl⟩ | h
  · exact ⟨h1, by simp only; omega, by simp only; omega⟩
  · obtain ⟨r, hr, hto, hat, h0, rfl⟩ := src_arc h
    have ho := hg.arc r hr
    exact ⟨ho.fr, ho.ix0, ho.ix1⟩
theorem Reach.ok (hg : Good p) (hx : PtOk p x) (h : Reach p x y) : PtOk p y := by
  induction h with
  | refl => exact hx
  | step _ hp ih => exact hp.ok hg ih
theorem Pred.rank {rk : Nat → Int → Nat} (hr : Ranked p.len.length p.len p.arcs rk) (hx : PtOk p x) (h : Pred p x y) : rk y.1 y.2 < rk x.1 x.2 := by
  obtain ⟨h1, h2, h3⟩ := hx
  rcases h with ⟨h0, rfl⟩ | h
  · have := hr.1 x.1 h1 (x.2 - 1) (by omega) (by omega)
    rw [show x.2 - 1 + 1 = x.2 by omega] at this
    exact this
  · obtain ⟨r, hm, hto, hat, h0, rfl⟩ := src_arc h
    have := hr.2 r hm (by rw [hat]; exact h0)
    rw [hto, hat] at this
    exact this
theorem Reach.rank {rk : Nat → Int → Nat} (hg : Good p) (hr : Ranked p.len.length p.len p.arcs rk) (hx : PtOk p x) (h : Reach p x y) : x = y ∨ rk y.1 y.2 < rk x.1 x.2 := by
  induction h with
  | refl => exact .inl rfl
  | step h1 hp ih =>
    have h2 := hp.rank hr (h1.ok hg hx)
    rcases ih with rfl | ih
    · exact .inr h2
    · exact .inr (by omega)
theorem Reach.anti (hg : Good p) (hx : PtOk p x) (h : Reach p x y) (k : Reach p y x) : x = y := by
  obtain ⟨rk, _, hr, _⟩ := hg.rank
  rcases h.rank hg hr hx with h1 | h1
  · exact h1
  · rcases k.rank hg hr (h.ok hg hx) with h2 | h2
    · exact h2.symm
    · omega
theorem Reach.down (h : Reach p x (y.1, y.2)) : ∀ (n : Nat), (n : Int) ≤ y.2 → Reach p x (y.1, y.2 - n)
  | 0, _ => by simpa using h
  | n + 1, hn => by
    have ih := h.down n (by omega)
    have h1 : Pred p (y.1, y.2 - n) (y.1, y.2 - n - 1) := .inl ⟨by simp only; omega, rfl⟩
    have := ih.step h1
    rw [show y.2 - n - 1 = y.2 - ((n + 1 : Nat) : Int) by omega] at this
    exact this
theorem Reach.downTo {q : Nat} {k j : Int} (h : Reach p x (q, k)) (h0 : 0 ≤ j) (hj : j ≤ k) : Reach p x (q, j) := by
  have := Reach.down (y := (q, k)) h (k - j).toNat (by simp only; omega)
  simp only at this
  rw [show k - ((k - j).toNat : Int) = j by omega] at this
  exact this
/-- what is reached lies in the clock -/
theorem reach_clk (hg : Good p) {c : List Int} (hc : IsClk p b.1 b.2 c) (h : Reach p b a) : a.2 ≤ nth c a.1 := by
  induction h with
  | refl => rw [hc.e]; exact Int.le_refl _
  | @step y z h1 hp ih =>
    rcases hp with ⟨h0, rfl⟩ | h
    · simp only; omega
    · obtain ⟨r, hr, hto, hat, h0, rfl⟩ := src_arc h
      have := (hg.arc r hr).at0
      exact cons_iff.1 hc.s r hr (by omega) (by rw [hto, hat]; exact ih)
/-- the cut of what is reached -/
theorem reachCut (hg : Good p) (b : Nat × Int) : ∃ z : List Int, z.length = p.len.length ∧ (∀ q, q < p.len.length → 0 ≤ nth z q ∧ nth z q ≤ nth p.len q) ∧ ∀ q, q < p.len.length → ∀ k : Int, 1 ≤ k → k ≤ nth p.len q → (k ≤ nth z q ↔ Reach p b (q, k)) := by
  classical
  refine ⟨(List.range p.len.length).map fun q => (((List.range (nth p.len q).toNat).filter fun (j : Nat) => decide (Reach p b (q, (j : Int) + 1))).length : Int), by simp, ?_⟩
  have hn : ∀ q, q < p.len.length → nth ((List.range p.len.length).map fun q => (((List.range (nth p.len q).toNat).filter fun (j : Nat) => decide (Reach p b (q, (j : Int) + 1))).length : Int)) q = (((List.range (nth p.len q).toNat).filter fun (j : Nat) => decide (Reach p b (q, (j : Int) + 1))).length : Int) := fun q hq => by
    rw [nth_eq (by simpa using hq)]
    simp
  refine ⟨fun q hq => ?_, fun q hq k h1 hk => ?_⟩
  · rw [hn q hq]
    have := List.length_filter_le (fun (j : Nat) => decide (Reach p b (q, (j : Int) + 1))) (List.range (nth p.len q).toNat)
    have h0 := hg.lo q hq
    simp only [List.length_range] at this
    omega
  · rw [hn q hq]
    have hd := filter_down (P := fun (j : Nat) => decide (Reach p b (q, (j : Int) + 1))) (nth p.len q).toNat (fun i j h2 h3 h4 => by
      simp only [decide_eq_true_eq] at h4 ⊢
      exact h4.downTo (by omega) (by omega)) (k - 1).toNat (by omega)
    simp only [decide_eq_true_eq] at hd
    rw [show (((k - 1).toNat : Int)) + 1 = k by omega] at hd
    rw [hd]
    omega
theorem clk_reach (hg : Good p) (hb : PtOk p b) {c : List Int} (hc : IsClk p b.1 b.2 c) (ha : PtOk p a) (h0 : 0 < a.2) (h : a.2 ≤ nth c a.1) : Reach p b a := by
  obtain ⟨z, hzl, hzb, hzi⟩ := reachCut hg b
  have hv : validB p.len z = true := valid_iff.2 ⟨hzl, hzb⟩
  have hs : consB p.arcs z = true := cons_iff.2 fun r hr h1 h2 => by
    have ho := hg.arc r hr
    have h3 := (hzi r.to ho.to r.at_ (by omega) ho.at1).1 h2
    have h4 := h3.step (.inr (arc_src hg hr (by omega)))
    by_cases h5 : 1 ≤ r.ix
    · exact (hzi r.fr ho.fr r.ix h5 ho.ix1).2 h4
    · have := (hzb r.fr ho.fr).1
      omega
  have hbz : b.2 ≤ nth z b.1 := by
    by_cases h5 : 1 ≤ b.2
    · exact (hzi b.1 hb.1 b.2 h5 hb.2.2).2 .refl
    · have := (hzb b.1 hb.1).1
      omega
  have h6 := hc.l _ hv hs hbz a.1 ha.1
  exact (hzi a.1 ha.1 a.2 (by omega) ha.2.2).1 (by omega)
theorem reach_iff (hg : Good p) (hb : PtOk p b) {c : List Int} (hc : IsClk p b.1 b.2 c) (ha : PtOk p a) (h0 : 0 < a.2) : Reach p b a ↔ a.2 ≤ nth c a.1 := ⟨reach_clk hg hc, clk_reach hg hb hc ha h0⟩
theorem reach_via (h : Reach p b a) : a.1 = b.1 ∨ ∃ r ∈ p.arcs, r.fr = a.1 ∧ r.at_ ≠ 0 ∧ Reach p b (r.to, r.at_) := by
  induction h with
  | refl => exact .inl rfl
  | @step y z h1 hp ih =>
    rcases hp with ⟨h0, rfl⟩ | h
    · exact ih
    · obtain ⟨r, hr, hto, hat, h0, rfl⟩ := src_arc h
      exact .inr ⟨r, hr, rfl, by rw [hat]; exact h0, by rw [hto, hat]; exact h1⟩
/-- a start: some message of its process must have come -/
theorem reach_zero (hg : Good p) (hb : PtOk p b) {c : List Int} (hc : IsClk p b.1 b.2 c) {q : Nat} (hq : q < p.len.length) (hne : q ≠ b.1) : Reach p b (q, 0) ↔ ∃ r ∈ p.arcs, r.fr = q ∧ 0 < r.at_ ∧ r.at_ ≤ nth c r.to := by
  constructor
  · intro h
    rcases reach_via h with h1 | ⟨r, hr, h1, h2, h3⟩
    · exact absurd h1 hne
    · have ho := hg.arc r hr
      have h4 := ho.at0
      exact ⟨r, hr, h1, by omega, reach_clk hg hc h3⟩
  · rintro ⟨r, hr, rfl, h1, h2⟩
    have ho := hg.arc r hr
    have h3 : Reach p b (r.to, r.at_) := clk_reach hg hb hc ⟨ho.to, ho.at0, ho.at1⟩ h1 h2
    exact (h3.step (.inr (arc_src hg hr (by omega)))).downTo (Int.le_refl _) ho.ix0
end

/-- all points of a pattern -/
def allPts (p : Pat) : List (Nat × Int) := (List.range p.len.length).flatMap fun q => (List.range ((nth p.len q).toNat + 1)).map fun (k : Nat) => (q, (k : Int))
theorem mem_allPts {p : Pat} (hg : Good p) {a : Nat × Int} : a ∈ allPts p ↔ PtOk p a := by
  obtain ⟨q, k⟩ := a
  simp only [allPts, List.mem_flatMap, List.mem_map, List.mem_range, Prod.mk.injEq]
  constructor
  · rintro ⟨q', h1, j, h2, rfl, rfl⟩
    have := hg.lo q' h1
    exact ⟨h1, by simp only; omega, by simp only; omega⟩
  · rintro ⟨h1, h2, h3⟩
    simp only at h1 h2 h3
    exact ⟨q, h1, k.toNat, by omega, rfl, by omega⟩
theorem countP_lt {α : Type} {P P' : α → Bool} : ∀ {l : List α} {y : α}, (∀ a, P' a = true → P a = true) → y ∈ l → P y = true → P' y = false → l.countP P' < l.countP P
  | [], y, _, h, _, _ => by simp at h
  | x :: l, y, hi, hm, h1, h2 => by
    have hle : l.countP P' ≤ l.countP P := List.countP_mono_left (fun a _ h => hi a h)
    rw [List.countP_cons, List.countP_cons]
    rcases List.mem_cons.1 hm with rfl | hm
    · rw [h1, h2]; simp; omega
    · have := countP_lt hi hm h1 h2
      by_cases hx : P' x = true
      · rw [hx, hi x hx]; simp; omega
      · have hx' : P' x = false := by simpa using hx
        rw [hx']
        split <;> simp_all <;> omega
/-- the points not seen yet -/
def unseen (p : Pat) (s : Int × Int → Bool) : Nat := (allPts p).countP fun a => !s (key a)
def seeS (s : Int × Int → Bool) (y : Int × Int) : Int × Int → Bool := fun l => decide (l = y) || s l
theorem unseen_lt {p : Pat} (hg : Good p) {s : Int × Int → Bool} {y : Nat × Int} (hy : PtOk p y) (h : s (key y) = false) : unseen p (seeS s (key y)) < unseen p s := by
  refine countP_lt (y := y) (fun a ha => ?_) ((mem_allPts hg).2 hy) (by simp [h]) (by simp [seeS])
  simp only [seeS, Bool.not_eq_true', Bool.or_eq_false_iff] at ha ⊢
  exact ha.2
/-- the search: s is seen, l is to be looked at; e is being looked at -/
structure Dfs (p : Pat) (b : Nat × Int) (s : Int × Int → Bool) (l : List (Nat × Int)) (e : Option (Nat × Int)) : Prop where
  ok : ∀ x ∈ l, PtOk p x ∧ Reach p b x
  sb : s (key b) = true
  re : ∀ x : Nat × Int, s (key x) = true → Reach p b x
  cl : ∀ x : Nat × Int, s (key x) = true → x ∉ l → some x ≠ e → ∀ y, Pred p x y → s (key y) = true
theorem Dfs.start (p : Pat) {b : Nat × Int} (hb : PtOk p b) : Dfs p b (seeS (fun _ => false) (key b)) [b] none :=
  ⟨fun x hx => by rw [List.mem_singleton.1 hx]; exact ⟨hb, .refl⟩, by simp [seeS], fun x hx => by
    have : key x = key b := by simpa [seeS] using hx
    rw [key_inj this]; exact .refl, fun x hx hn => by
    have : key x = key b := by simpa [seeS] using hx
    rw [key_inj this] at hn
    simp at hn⟩
theorem Dfs.pop {p : Pat} {b x : Nat × Int} {s : Int × Int → Bool} {l : List (Nat × Int)} (h : Dfs p b s (l ++ [x]) none) : Dfs p b s l (some x) :=
  ⟨fun y hy => h.ok y (by simp [hy]), h.sb, h.re, fun z hz hn hne => h.cl z hz (fun hm => by
    rcases List.mem_append.1 hm with hm | hm
    · exact hn hm
    · exact hne (by rw [List.mem_singleton.1 hm])) (by simp)⟩
theorem Dfs.visit {p : Pat} {b x y : Nat × Int} {s : Int × Int → Bool} {l : List (Nat × Int)} (h : Dfs p b s l (some x)) (hy : PtOk p y) (hr : Reach p b y) : Dfs p b (seeS s (key y)) (l ++ [y]) (some x) := by
  refine ⟨fun z hz => ?_, by simp [seeS, h.sb], fun z hz => ?_, fun z hz hn hne v hv => ?_⟩
  · rcases List.mem_append.1 hz with hz | hz
    · exact h.ok z hz
    · rw [List.mem_singleton.1 hz]; exact ⟨hy, hr⟩
  · simp only [seeS, Bool.or_eq_true, decide_eq_true_eq] at hz
    rcases hz with hz | hz
    · rw [key_inj hz]; exact hr
    · exact h.re z hz
  · simp only [seeS, Bool.or_eq_true, decide_eq_true_eq] at hz ⊢
    rcases hz with hz | hz
    · exact absurd (show z ∈ l ++ [y] by rw [key_inj hz]; simp) hn
    · exact .inr (h.cl z hz (fun hm => hn (by simp [hm])) hne v hv)
theorem Dfs.done {p : Pat} {b x : Nat × Int} {s : Int × Int → Bool} {l : List (Nat × Int)} (h : Dfs p b s l (some x)) (hx : ∀ y, Pred p x y → s (key y) = true) : Dfs p b s l none :=
  ⟨h.ok, h.sb, h.re, fun z hz hn _ v hv => by
    by_cases e : z = x
    · subst e; exact hx v hv
    · exact h.cl z hz hn (fun h => e (by injection h)) v hv⟩
theorem Dfs.fin {p : Pat} {b a : Nat × Int} {s : Int × Int → Bool} (h : Dfs p b s [] none) : s (key a) = true ↔ Reach p b a := by
  refine ⟨h.re a, fun hr => ?_⟩
  induction hr with
  | refl => exact h.sb
  | step _ hp ih => exact h.cl _ ih (by simp) (by simp) _ hp
end Go.Proofs.Ytmjmdncdmmcmaaa
