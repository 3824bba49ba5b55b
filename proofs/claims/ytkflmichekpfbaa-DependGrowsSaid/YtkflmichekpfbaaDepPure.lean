/- Dependency vectors, plain: clocks exist; global checkpoints and consistent cuts; how vectors grow. No condition. -/
import Derived.Test.YtkflmichekpfbaaDepD
namespace Go.Proofs.Ytkflmichekpfbaa
set_option linter.unusedVariables false
set_option linter.unusedSimpArgs false
set_option linter.unusedSectionVars false

theorem below_cons' (y : Int) (l : List Int) (x : Int) : below (y :: l) x = (if y < x then 1 else 0) + below l x := by
  simp only [below, List.filter_cons]
  by_cases h : y < x <;> simp [h]; omega
theorem below_mono' (l : List Int) {x y : Int} (h : x ≤ y) : below l x ≤ below l y := by
  induction l with
  | nil => simp [below]
  | cons a l ih =>
    rw [below_cons', below_cons']
    split
    · rw [if_pos (by omega)]; omega
    · split <;> omega
theorem below_max' (l : List Int) (x y : Int) : (below l (max x y) : Int) = max (below l x : Int) (below l y : Int) := by
  rcases Int.le_total x y with h | h
  · have := below_mono' l h
    rw [Int.max_eq_right h]; omega
  · have := below_mono' l h
    rw [Int.max_eq_left h]; omega
theorem below_asc {l : List Int} (h : l.Pairwise (· < ·)) (y : Int) : ∀ i (hi : i < l.length), l[i] < y ↔ i < below l y := by
  induction l with
  | nil => intro i hi; simp at hi
  | cons a l ih =>
    have hp := List.pairwise_cons.1 h
    intro i hi
    rw [below_cons']
    match i with
    | 0 =>
      simp only [List.getElem_cons_zero]
      by_cases ha : a < y
      · rw [if_pos ha]; constructor
        · intro; omega
        · intro; exact ha
      · rw [if_neg ha]
        constructor
        · intro h; exact absurd h ha
        · intro h0
          have : 0 < below l y := by omega
          have hl : 0 < l.length := Nat.lt_of_lt_of_le this (below_le l y)
          have h1 := (ih hp.2 0 hl).2 this
          have h2 := hp.1 _ (List.getElem_mem hl)
          omega
    | i + 1 =>
      have hil : i < l.length := by simpa using hi
      have h1 := ih hp.2 i hil
      have h2 := hp.1 _ (List.getElem_mem hil)
      simp only [List.getElem_cons_succ]
      by_cases ha : a < y
      · rw [if_pos ha, h1]; omega
      · rw [if_neg ha]
        constructor
        · intro h; omega
        · intro h0
          have h3 := h1.2 (by omega)
          omega
theorem below_ck {p : Pat} (hg : Good p) {s : Nat} (hs : s < p.len.length) {y n : Int} (hy : y ≤ nth p.len s) (hn : 0 ≤ n) : (below (rowOf p.ck s) y : Int) ≤ n ↔ y ≤ ckIx p s n := by
  have hr := hg.row s hs
  unfold ckIx
  generalize rowOf p.ck s = l at *
  have hle := below_le l y
  split
  · rename_i hlt
    have hl : n.toNat < l.length := by omega
    have := below_asc hr.asc y n.toNat hl
    rw [nth_eq hl]
    omega
  · exact ⟨fun _ => hy, fun _ => by omega⟩
section
variable {p : Pat}
theorem clk_exists (hg : Good p) : ∀ {q : Nat} {k : Int}, PtOk p (q, k) → ∃ c, IsClk p q k c := by
  obtain ⟨rk, _, hr, _⟩ := hg.rank
  have main : ∀ (f : Nat) (q : Nat) (k : Int), rk q k < f → PtOk p (q, k) → ∃ c, IsClk p q k c := by
    intro f
    induction f with
    | zero => intro q k h; omega
    | succ f ih =>
      intro q k hf hpt
      obtain ⟨hq, hk0, hkl⟩ := hpt
      simp only at hq hk0 hkl
      by_cases h0 : k = 0
      · subst h0; exact ⟨_, clk_zero hg hq⟩
      · have hrk : rk q (k - 1) < f := by
          have := hr.1 q hq (k - 1) (by omega) (by omega)
          rw [show k - 1 + 1 = k by omega] at this; omega
        obtain ⟨c, hc⟩ := ih q (k - 1) hrk ⟨hq, by simp only; omega, by simp only; omega⟩
        cases hsrc : srcF p.arcs ((q : Int), k) with
        | none => exact ⟨_, clk_step hg hq (by omega) hkl hc (srcF_none hsrc h0)⟩
        | some s =>
          obtain ⟨a, ha, hto, hat, _, rfl⟩ := srcF_some hsrc
          have ho := hg.arc a ha
          have h1 := hr.2 a ha (by rw [hat]; exact h0)
          rw [hto, hat] at h1
          obtain ⟨d, hd⟩ := ih a.fr a.ix (by omega) ⟨ho.fr, ho.ix0, ho.ix1⟩
          exact ⟨_, clk_recv hg hr ha hto hat (by omega) hc hd⟩
  intro q k h
  exact main (rk q k + 1) q k (by omega) h
/-- the cut of extended checkpoints -/
def ckCut (p : Pat) (xs : List Int) : List Int := (List.range p.len.length).map fun q => ckIx p q (nth xs q)
theorem ckCut_nth {xs : List Int} {q : Nat} (hq : q < p.len.length) : nth (ckCut p xs) q = ckIx p q (nth xs q) := by rw [ckCut, nth_map_range, if_pos hq]
theorem ckCut_length (xs : List Int) : (ckCut p xs).length = p.len.length := by simp [ckCut]
theorem ckCut_valid (hg : Good p) {xs : List Int} (ha : ∀ q, q < p.len.length → CkOk p (q, nth xs q)) : validB p.len (ckCut p xs) = true :=
  valid_iff.2 ⟨ckCut_length xs, fun q hq => by rw [ckCut_nth hq]; exact (ckIx_ok hg (ha q hq)).2⟩
theorem glob_cons (hg : Good p) {xs : List Int} (ha : ∀ q, q < p.len.length → CkOk p (q, nth xs q)) : IsGlobal p xs ↔ consB p.arcs (ckCut p xs) = true := by
  have hv := ckCut_valid hg ha
  constructor
  · intro h
    refine cons_iff.2 fun a hm h0 h1 => ?_
    have ho := hg.arc a hm
    obtain ⟨c, hc⟩ := clk_exists hg (ckIx_ok hg (ha a.to ho.to))
    simp only at hc
    have h2 := cons_iff.1 hc.s a hm h0 (by rw [hc.e]; rw [ckCut_nth ho.to] at h1; exact h1)
    have h3 := h a.to ho.to c hc a.fr ho.fr ho.ne
    rw [nth_vecN ho.fr, below_ck hg ho.fr ((valid_iff.1 hc.v).2 a.fr ho.fr).2 (ha a.fr ho.fr).2.1] at h3
    simp only at h3
    rw [ckCut_nth ho.fr]; omega
  · intro h q hq c hc s hs hne
    have h1 := hc.l _ hv h (by rw [ckCut_nth hq]; exact Int.le_refl _) s hs
    rw [ckCut_nth hs] at h1
    rw [nth_vecN hs, below_ck hg hs ((valid_iff.1 hc.v).2 s hs).2 (ha s hs).2.1]
    exact h1
/-- two lists of one length with equal elements -/
theorem ext_nth {n : Nat} {xs ys : List Int} (hx : xs.length = n) (hy : ys.length = n) (h : ∀ k, k < n → nth xs k = nth ys k) : xs = ys :=
  le_antisymm hx hy (fun k hk => by rw [h k hk]; exact Int.le_refl _) (fun k hk => by rw [h k hk]; exact Int.le_refl _)
theorem vec_zero (hg : Good p) {q : Nat} (hq : q < p.len.length) {c : List Int} (hc : IsClk p q 0 c) : vecN p c = List.replicate p.len.length 0 := by
  rw [hc.unique (clk_zero hg hq)]
  refine ext_nth (n := p.len.length) (vecN_length _ _) (by simp) (fun k hk => ?_)
  rw [nth_vecN hk, nth_rep]
  have := below_ck hg hk (hg.lo k hk) (Int.le_refl 0)
  obtain ⟨r, hr⟩ := (hg.row k hk).head
  have hb : below (rowOf p.ck k) 0 = 0 := by
    rw [below, List.length_eq_zero_iff, List.filter_eq_nil_iff]
    intro x hx
    have := (hg.row k hk).nonneg x hx
    simp; omega
  rw [hb]; rfl
theorem vec_step (hg : Good p) {q : Nat} {k : Int} (hq : q < p.len.length) (hk : 1 ≤ k) (hk' : k ≤ nth p.len q) {c c' : List Int} (h : IsClk p q (k - 1) c) (h' : IsClk p q k c') (hn : ∀ a ∈ p.arcs, a.to = q → a.at_ ≠ k) : vecN p c' = (vecN p c).set q (below (rowOf p.ck q) k : Int) := by
  rw [h'.unique (clk_step hg hq hk hk' h hn)]
  refine ext_nth (n := p.len.length) (vecN_length _ _) (by simp [vecN_length]) (fun s hs => ?_)
  rw [nth_vecN hs, nth_set (by rw [h.len]; exact hq), nth_set (by rw [vecN_length]; exact hq)]
  split
  · rename_i e; subst e; rfl
  · rw [nth_vecN hs]
theorem vec_recv (hg : Good p) {q : Nat} {k : Int} (hk : 1 ≤ k) {c c' d : List Int} {a : Arc} (ha : a ∈ p.arcs) (hto : a.to = q) (hat : a.at_ = k) (h : IsClk p q (k - 1) c) (h' : IsClk p q k c') (hd : IsClk p a.fr a.ix d) : vecN p c' = (zipI max (vecN p c) (vecN p d)).set q (below (rowOf p.ck q) k : Int) := by
  obtain ⟨rk, _, hr, _⟩ := hg.rank
  have hq : q < p.len.length := by rw [← hto]; exact (hg.arc a ha).to
  have hcd : c.length = d.length := by rw [h.len, hd.len]
  have hvl : (vecN p c).length = (vecN p d).length := by rw [vecN_length, vecN_length]
  have hz : zipI max c d = List.zipWith max c d := by simp [zipI, hcd]
  rw [h'.unique (clk_recv hg hr ha hto hat hk h hd), ← hz]
  refine ext_nth (n := p.len.length) (vecN_length _ _) (by simp [zipI_len hvl, vecN_length]) (fun s hs => ?_)
  rw [nth_vecN hs, nth_set (by rw [zipI_len hcd, hd.len]; exact hq), nth_set (by rw [zipI_len hvl, vecN_length]; exact hq)]
  split
  · rename_i e; subst e; rfl
  · rw [zipI_nth hcd (by rw [hd.len]; exact hs), zipI_nth hvl (by rw [vecN_length]; exact hs), nth_vecN hs, nth_vecN hs, below_max']
theorem vec_most (hg : Good p) {q : Nat} {k : Int} (hq : q < p.len.length) {c c' : List Int} (h : IsClk p q (k - 1) c) (h' : IsClk p q k c') : mostB (vecN p c) (vecN p c') = true := by
  refine most_iff.2 ⟨by rw [vecN_length, vecN_length], fun s hs => ?_⟩
  rw [vecN_length] at hs
  rw [nth_vecN hs, nth_vecN hs]
  have := below_mono' (rowOf p.ck s) (h.l c' h'.v h'.s (by rw [h'.e]; omega) s hs)
  omega
/-- x is p with more behind it -/
structure Longer (p x : Pat) : Prop where
  n : x.len.length = p.len.length
  len : ∀ q, q < p.len.length → nth p.len q ≤ nth x.len q
  old : ∀ a ∈ p.arcs, a ∈ x.arcs
  new : ∀ a ∈ x.arcs, a ∈ p.arcs ∨ (a.at_ = 0 ∨ nth p.len a.to < a.at_)
  ck : ∀ q, q < p.len.length → ∀ y, y ≤ nth p.len q → below (rowOf x.ck q) y = below (rowOf p.ck q) y
theorem clk_longer {x : Pat} (hg : Good p) (hx : Good x) (hl : Longer p x) {q : Nat} {k : Int} (hq : q < p.len.length) (hk' : k ≤ nth p.len q) {c : List Int} (h : IsClk p q k c) : IsClk x q k c := by
  obtain ⟨h1, h2⟩ := valid_iff.1 h.v
  refine ⟨valid_iff.2 ⟨by rw [h1, hl.n], fun r hr => ?_⟩, cons_iff.2 fun a ha h0 hle => ?_, h.e, fun z hz hc hzk r hr => ?_⟩
  · rw [hl.n] at hr
    have := h2 r hr
    have := hl.len r hr
    omega
  · rcases hl.new a ha with h3 | h3 | h3
    · exact cons_iff.1 h.s a h3 h0 hle
    · omega
    · have ho := hx.arc a ha
      have := h2 a.to (by rw [← hl.n]; exact ho.to)
      omega
  · rw [hl.n] at hr
    obtain ⟨z1, z2⟩ := valid_iff.1 hz
    have hzl : z.length = p.len.length := by rw [z1, hl.n]
    have hmn : ∀ s, s < p.len.length → nth (zipI min z p.len) s = min (nth z s) (nth p.len s) := fun s hs => zipI_nth hzl hs
    have hv : validB p.len (zipI min z p.len) = true := valid_iff.2 ⟨zipI_len hzl, fun s hs => by
      rw [hmn s hs]
      have := (z2 s (by rw [hl.n]; exact hs)).1
      have := hg.lo s hs
      omega⟩
    have hcm : consB p.arcs (zipI min z p.len) = true := cons_iff.2 fun a ha h0 hle => by
      have ho := hg.arc a ha
      rw [hmn _ ho.to] at hle
      rw [hmn _ ho.fr]
      have := cons_iff.1 hc a (hl.old a ha) h0 (by omega)
      have := ho.ix1
      omega
    have := h.l _ hv hcm (by rw [hmn q hq]; omega) r hr
    rw [hmn r hr] at this
    omega
theorem vec_longer {x : Pat} (hg : Good p) (hx : Good x) (hl : Longer p x) {q : Nat} {k : Int} (hq : q < p.len.length) (hk' : k ≤ nth p.len q) {c d : List Int} (h : IsClk p q k c) (h' : IsClk x q k d) : vecN p c = vecN x d := by
  rw [h'.unique (clk_longer hg hx hl hq hk' h)]
  refine ext_nth (n := p.len.length) (vecN_length _ _) (by rw [vecN_length, hl.n]) (fun s hs => ?_)
  rw [nth_vecN hs, nth_vecN (by rw [hl.n]; exact hs), hl.ck s hs _ ((valid_iff.1 h.v).2 s hs).2]
end
end Go.Proofs.Ytkflmichekpfbaa
