/- Patterns as plain data: what a good pattern is, and that marking and appending keep it good. No condition. -/
namespace Go.Proofs.Ytmjmdncdmmcmaaa
set_option linter.unusedVariables false

/-- a message -/
structure Arc where
  fr : Nat
  ix : Int
  to : Nat
  at_ : Int
theorem Arc.ext' {a b : Arc} (h1 : a.fr = b.fr) (h2 : a.ix = b.ix) (h3 : a.to = b.to) (h4 : a.at_ = b.at_) : a = b := by
  cases a; cases b; simp_all
/-- a pattern -/
structure Pat where
  len : List Int
  ck : List (List Int)
  arcs : List Arc

/-- element q of a list of numbers -/
def nth (xs : List Int) (q : Nat) : Int := xs.getD q 0
theorem nth_eq {xs : List Int} {q : Nat} (h : q < xs.length) : nth xs q = xs[q] := by simp [nth, h]
theorem nth_set_same {xs : List Int} {q : Nat} (h : q < xs.length) (v : Int) : nth (xs.set q v) q = v := by simp [nth, h]
theorem nth_set_other {xs : List Int} {q r : Nat} (h : q ≠ r) (v : Int) : nth (xs.set q v) r = nth xs r := by
  simp only [nth, List.getD_eq_getElem?_getD, List.getElem?_set_ne h]
theorem nth_set {xs : List Int} {q r : Nat} (h : q < xs.length) (v : Int) : nth (xs.set q v) r = if q = r then v else nth xs r := by
  by_cases e : q = r
  · subst e; rw [if_pos rfl, nth_set_same h]
  · rw [if_neg e, nth_set_other e]
/-- row q of a list of lists -/
def rowOf (ls : List (List Int)) (q : Nat) : List Int := ls.getD q []
theorem rowOf_eq {ls : List (List Int)} {q : Nat} (h : q < ls.length) : rowOf ls q = ls[q] := by simp [rowOf, h]

/-- the checkpoints of a process with m events -/
structure RowOk (l : List Int) (m : Int) : Prop where
  head : ∃ r, l = 0 :: r
  asc : l.Pairwise (· < ·)
  le : ∀ x ∈ l, x ≤ m
theorem RowOk.nonneg {l : List Int} {m : Int} (h : RowOk l m) : ∀ x ∈ l, 0 ≤ x := by
  obtain ⟨r, rfl⟩ := h.head
  intro x hx
  rcases List.mem_cons.1 hx with e | e
  · omega
  · have := (List.pairwise_cons.1 h.asc).1 x e; omega
theorem RowOk.mono {l : List Int} {m m' : Int} (h : RowOk l m) (hm : m ≤ m') : RowOk l m' := ⟨h.head, h.asc, fun x hx => by have := h.le x hx; omega⟩
theorem RowOk.one {m : Int} (h : 0 ≤ m) : RowOk [0] m := ⟨⟨[], rfl⟩, by simp, by simpa using h⟩

/-- a rank of all points that messages and the order of each process raise -/
def Ranked (n : Nat) (len : List Int) (arcs : List Arc) (rk : Nat → Int → Nat) : Prop :=
  (∀ q, q < n → ∀ k : Int, 0 ≤ k → k < nth len q → rk q k < rk q (k + 1)) ∧ (∀ a ∈ arcs, a.at_ ≠ 0 → rk a.fr a.ix < rk a.to a.at_)

/-- an arc within a pattern of n processes -/
structure ArcOk (n : Nat) (len : List Int) (a : Arc) : Prop where
  fr : a.fr < n
  to : a.to < n
  ne : a.fr ≠ a.to
  ix0 : 0 ≤ a.ix
  ix1 : a.ix ≤ nth len a.fr
  at0 : 0 ≤ a.at_
  at1 : a.at_ ≤ nth len a.to

structure Good (p : Pat) : Prop where
  n2 : 2 ≤ p.len.length
  n5 : p.len.length ≤ 5
  ckl : p.ck.length = p.len.length
  lo : ∀ q, q < p.len.length → 0 ≤ nth p.len q
  hi : ∀ q, q < p.len.length → nth p.len q ≤ 64
  row : ∀ q, q < p.len.length → RowOk (rowOf p.ck q) (nth p.len q)
  arc : ∀ a ∈ p.arcs, ArcOk p.len.length p.len a
  uniq : ∀ i j (hi : i < p.arcs.length) (hj : j < p.arcs.length), i < j → p.arcs[i].to = p.arcs[j].to → p.arcs[i].at_ = p.arcs[j].at_ → p.arcs[i].at_ = 0
  few : p.arcs.length ≤ 256
  rank : ∃ rk N, Ranked p.len.length p.len p.arcs rk ∧ ∀ q, q < p.len.length → ∀ k : Int, 0 ≤ k → k ≤ nth p.len q → rk q k ≤ N

/-- one more event of process q -/
def Pat.more (p : Pat) (q : Nat) : Pat := { p with len := p.len.set q (nth p.len q + 1) }
/-- one more message -/
def Pat.send (p : Pat) (a : Arc) : Pat := { p with arcs := p.arcs ++ [a] }
/-- a checkpoint of process q at its end, if there is none -/
def Pat.mark (p : Pat) (q : Nat) : Pat := if nth p.len q ∈ rowOf p.ck q then p else { p with ck := p.ck.set q (rowOf p.ck q ++ [nth p.len q]) }

theorem ArcOk.mono {n : Nat} {len len' : List Int} {a : Arc} (h : ArcOk n len a) (hl : ∀ q, q < n → nth len q ≤ nth len' q) : ArcOk n len' a :=
  ⟨h.fr, h.to, h.ne, h.ix0, by have := hl _ h.fr; have := h.ix1; omega, h.at0, by have := hl _ h.to; have := h.at1; omega⟩

theorem nth_more {p : Pat} {q : Nat} (hq : q < p.len.length) (r : Nat) : nth (p.more q).len r = if q = r then nth p.len q + 1 else nth p.len r := nth_set hq _

/-- the rank with one more event on top -/
def rkMore (rk : Nat → Int → Nat) (q : Nat) (m : Int) (N : Nat) : Nat → Int → Nat := fun r k => if r = q ∧ k = m then N else rk r k
theorem rkMore_new (rk : Nat → Int → Nat) (q : Nat) (m : Int) (N : Nat) : rkMore rk q m N q m = N := by simp [rkMore]
theorem rkMore_old (rk : Nat → Int → Nat) {q r : Nat} {m k : Int} (N : Nat) (h : ¬ (r = q ∧ k = m)) : rkMore rk q m N r k = rk r k := by simp [rkMore, h]
theorem Good.rankMore {p : Pat} (h : Good p) {q : Nat} (hq : q < p.len.length) {rk : Nat → Int → Nat} {N : Nat} (h1 : Ranked p.len.length p.len p.arcs rk) (h3 : ∀ q, q < p.len.length → ∀ k : Int, 0 ≤ k → k ≤ nth p.len q → rk q k ≤ N) :
    Ranked p.len.length (p.more q).len p.arcs (rkMore rk q (nth p.len q + 1) (N + 1)) ∧ ∀ r, r < p.len.length → ∀ k : Int, 0 ≤ k → k ≤ nth (p.more q).len r → rkMore rk q (nth p.len q + 1) (N + 1) r k ≤ N + 1 := by
  obtain ⟨h1, h2⟩ := h1
  refine ⟨⟨?_, ?_⟩, ?_⟩
  · intro r hr k hk hlt'
    rw [nth_more hq] at hlt'
    by_cases e : q = r
    · subst e
      rw [if_pos rfl] at hlt'
      by_cases e2 : k = nth p.len q
      · rw [rkMore_old _ _ (by omega), e2, rkMore_new]
        have := h3 q hq (nth p.len q) (by omega) (by omega)
        omega
      · rw [rkMore_old _ _ (by omega), rkMore_old _ _ (by omega)]
        exact h1 q hq k hk (by omega)
    · rw [if_neg e] at hlt'
      rw [rkMore_old _ _ (by omega), rkMore_old _ _ (by omega)]
      exact h1 r hr k hk hlt'
  · intro a ha hne
    have ho := h.arc a ha
    have e1 := ho.ix1
    have e2 := ho.at1
    rw [rkMore_old _ _ (by rintro ⟨e, e'⟩; rw [e] at e1; omega), rkMore_old _ _ (by rintro ⟨e, e'⟩; rw [e] at e2; omega)]
    exact h2 a ha hne
  · intro r hr k hk hle
    by_cases hn : r = q ∧ k = nth p.len q + 1
    · rw [hn.1, hn.2, rkMore_new]; omega
    · rw [rkMore_old _ _ hn]
      rw [nth_more hq] at hle
      by_cases e : q = r
      · subst e
        rw [if_pos rfl] at hle
        have := h3 q hq k hk (by omega)
        omega
      · rw [if_neg e] at hle
        have := h3 r hr k hk hle
        omega
theorem Pat.more_length (p : Pat) (q : Nat) : (p.more q).len.length = p.len.length := by simp [Pat.more]
theorem Good.more {p : Pat} (h : Good p) {q : Nat} (hq : q < p.len.length) (hlt : nth p.len q < 64) : Good (p.more q) := by
  have hlen := p.more_length q
  have hup : ∀ r, r < p.len.length → nth p.len r ≤ nth (p.more q).len r := by
    intro r hr; rw [nth_more hq]; split
    · subst_vars; omega
    · omega
  refine ⟨by rw [hlen]; exact h.n2, by rw [hlen]; exact h.n5, by rw [hlen]; exact h.ckl, ?_, ?_, ?_, ?_, h.uniq, h.few, ?_⟩
  · intro r hr; rw [hlen] at hr; have := h.lo r hr; have := hup r hr; omega
  · intro r hr; rw [hlen] at hr; rw [nth_more hq]; split
    · omega
    · exact h.hi r hr
  · intro r hr; rw [hlen] at hr; exact (h.row r hr).mono (hup r hr)
  · intro a ha; rw [hlen]; exact (h.arc a ha).mono hup
  · obtain ⟨rk, N, h1, h3⟩ := h.rank
    have := h.rankMore hq h1 h3
    rw [hlen]
    exact ⟨_, _, this⟩

theorem Good.send {p : Pat} (h : Good p) {a : Arc} (ha : ArcOk p.len.length p.len a) (hfew : p.arcs.length < 256)
    (hu : ∀ b ∈ p.arcs, b.to = a.to → b.at_ = a.at_ → a.at_ = 0) (hr : ∃ rk N, (Ranked p.len.length p.len p.arcs rk ∧ ∀ q, q < p.len.length → ∀ k : Int, 0 ≤ k → k ≤ nth p.len q → rk q k ≤ N) ∧ (a.at_ ≠ 0 → rk a.fr a.ix < rk a.to a.at_)) : Good (p.send a) := by
  refine ⟨h.n2, h.n5, h.ckl, h.lo, h.hi, h.row, ?_, ?_, by simp [Pat.send]; omega, ?_⟩
  · intro b hb
    rcases List.mem_append.1 hb with hb | hb
    · exact h.arc b hb
    · rw [List.mem_singleton.1 hb]; exact ha
  · intro i j hi hj hij e1 e2
    have hi' : i < p.arcs.length := by simp [Pat.send] at hj; omega
    have gi : (p.send a).arcs[i] = p.arcs[i] := by simp only [Pat.send]; rw [List.getElem_append_left hi']
    rw [gi] at e1 e2 ⊢
    by_cases hj' : j < p.arcs.length
    · have gj : (p.send a).arcs[j] = p.arcs[j] := by simp only [Pat.send]; rw [List.getElem_append_left hj']
      rw [gj] at e1 e2
      exact h.uniq i j hi' hj' hij e1 e2
    · have gj : (p.send a).arcs[j] = a := by simp only [Pat.send]; rw [List.getElem_append_right (by omega)]; simp
      rw [gj] at e1 e2
      rw [e2]
      exact hu _ (List.getElem_mem hi') e1 e2
  · obtain ⟨rk, N, ⟨⟨h1, h2⟩, h3⟩, h4⟩ := hr
    refine ⟨rk, N, ⟨h1, fun b hb => ?_⟩, h3⟩
    rcases List.mem_append.1 hb with hb | hb
    · exact h2 b hb
    · rw [List.mem_singleton.1 hb]; exact h4

/-- a message that was not received -/
theorem Good.send0 {p : Pat} (h : Good p) {s q : Nat} {k : Int} (hs : s < p.len.length) (hq : q < p.len.length) (hne : s ≠ q) (hk : 0 ≤ k) (hk' : k ≤ nth p.len s) (hfew : p.arcs.length < 256) : Good (p.send ⟨s, k, q, 0⟩) := by
  obtain ⟨rk, N, h1, h2⟩ := h.rank
  exact h.send ⟨hs, hq, hne, hk, hk', Int.le_refl 0, h.lo q hq⟩ hfew (fun _ _ _ _ => rfl) ⟨rk, N, ⟨h1, h2⟩, fun h => absurd rfl h⟩

/-- an event that receives a message -/
theorem Good.recv {p : Pat} (h : Good p) {s q : Nat} {k : Int} (hs : s < p.len.length) (hq : q < p.len.length) (hne : s ≠ q) (hk : 0 ≤ k) (hk' : k ≤ nth p.len s) (hlt : nth p.len q < 64) (hfew : p.arcs.length < 256) : Good ((p.more q).send ⟨s, k, q, nth p.len q + 1⟩) := by
  have hg := h.more hq hlt
  have hlen : (p.more q).len.length = p.len.length := by simp [Pat.more]
  have e1 : nth (p.more q).len q = nth p.len q + 1 := by rw [nth_more hq, if_pos rfl]
  have e2 : nth (p.more q).len s = nth p.len s := by rw [nth_more hq, if_neg (Ne.symm hne)]
  have h0 := h.lo q hq
  refine hg.send ⟨by rw [hlen]; exact hs, by rw [hlen]; exact hq, hne, hk, by rw [e2]; exact hk', by simp only; omega, by simp only; omega⟩ hfew ?_ ?_
  · intro b hb hto hat
    have := (h.arc b hb).at1
    rw [hto] at this
    simp only at this hat
    omega
  · obtain ⟨rk, N, h1, h3⟩ := h.rank
    have := h.rankMore hq h1 h3
    rw [hlen]
    refine ⟨_, _, this, fun _ => ?_⟩
    show rkMore rk q (nth p.len q + 1) (N + 1) s k < rkMore rk q (nth p.len q + 1) (N + 1) q (nth p.len q + 1)
    rw [rkMore_new, rkMore_old _ _ (by rintro ⟨e, _⟩; exact hne e)]
    have := h3 s hs k hk hk'
    omega

theorem Good.mark {p : Pat} (h : Good p) {q : Nat} (hq : q < p.len.length) : Good (p.mark q) := by
  unfold Pat.mark
  split
  · exact h
  · rename_i hn
    refine ⟨h.n2, h.n5, by simpa using h.ckl, h.lo, h.hi, ?_, h.arc, h.uniq, h.few, h.rank⟩
    intro r hr
    have hck := h.ckl
    by_cases e : q = r
    · subst e
      have e1 : rowOf (p.ck.set q (rowOf p.ck q ++ [nth p.len q])) q = rowOf p.ck q ++ [nth p.len q] := by
        rw [rowOf, List.getD_eq_getElem?_getD, List.getElem?_set_self (by omega)]; rfl
      show RowOk (rowOf (p.ck.set q (rowOf p.ck q ++ [nth p.len q])) q) _
      rw [e1]
      have ho := h.row q hq
      obtain ⟨t, ht⟩ := ho.head
      refine ⟨⟨t ++ [nth p.len q], by rw [ht]; rfl⟩, ?_, ?_⟩
      · rw [List.pairwise_append]
        refine ⟨ho.asc, by simp, fun x hx y hy => ?_⟩
        rw [List.mem_singleton.1 hy]
        have := ho.le x hx
        have : x ≠ nth p.len q := fun e => hn (e ▸ hx)
        omega
      · intro x hx
        rcases List.mem_append.1 hx with hx | hx
        · exact ho.le x hx
        · rw [List.mem_singleton.1 hx]; exact Int.le_refl _
    · have e1 : rowOf (p.ck.set q (rowOf p.ck q ++ [nth p.len q])) r = rowOf p.ck r := by
        simp only [rowOf, List.getD_eq_getElem?_getD, List.getElem?_set_ne e]
      show RowOk (rowOf (p.ck.set q (rowOf p.ck q ++ [nth p.len q])) r) _
      rw [e1]; exact h.row r hr

/-- the pattern of n processes in which nothing has happened -/
def Pat.none (n : Nat) : Pat := ⟨List.replicate n 0, List.replicate n [0], []⟩
theorem Good.none {n : Nat} (h2 : 2 ≤ n) (h5 : n ≤ 5) : Good (Pat.none n) := by
  have hn : ∀ q, nth (Pat.none n).len q = 0 := by
    intro q; simp only [Pat.none, nth, List.getD_eq_getElem?_getD, List.getElem?_replicate]; split <;> rfl
  refine ⟨by simpa [Pat.none] using h2, by simpa [Pat.none] using h5, by simp [Pat.none], fun q _ => by rw [hn]; omega, fun q _ => by rw [hn]; omega, ?_, fun a ha => by simp [Pat.none] at ha, fun i j hi => by simp [Pat.none] at hi, by simp [Pat.none], ⟨fun _ k => k.toNat, 0, ⟨fun q _ k hk hlt => ?_, fun a ha => by simp [Pat.none] at ha⟩, fun q _ k hk hle => ?_⟩⟩
  · intro q hq
    have hq' : q < n := by simpa [Pat.none] using hq
    rw [hn]
    have : rowOf (Pat.none n).ck q = [0] := by simp [rowOf, Pat.none, hq']
    rw [this]; exact RowOk.one (Int.le_refl 0)
  · rw [hn] at hlt; omega
  · rw [hn] at hle; show k.toNat ≤ 0; omega
end Go.Proofs.Ytmjmdncdmmcmaaa
