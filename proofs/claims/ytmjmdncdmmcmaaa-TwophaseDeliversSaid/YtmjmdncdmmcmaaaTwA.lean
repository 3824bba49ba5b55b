/- Two-phase checkpointing: sources, what is reached by them, sorted lists without repetition; plain laws. No condition. -/
import Derived.Test.YtmjmdncdmmcmaaaGa
import Derived.Test.YtmjmdncdmmcmaaaTwP
import Derived.Test.YtmjmdncdmmcmaaaSortP
import Derived.Lib.SlicesCompact
namespace Go.Proofs.Ytmjmdncdmmcmaaa
set_option linter.unusedVariables false
set_option linter.unusedSimpArgs false
set_option maxRecDepth 100000

abbrev nats (l : List Nat) : List Int := l.map (fun f : Nat => (f : Int))
/-- the last checkpoint of a process -/
def lastC (p : Pat) (q : Nat) : Int := nth (rowOf p.ck q) ((rowOf p.ck q).length - 1)
def srcB (p : Pat) (q : Nat) (a : Arc) : Bool := decide (a.to = q) && decide (a.at_ ≠ 0) && decide (lastC p a.fr < a.ix)
def isSrc (p : Pat) (r q : Nat) : Bool := p.arcs.any (fun a => decide (a.fr = r) && srcB p q a)
/-- the sources of a process -/
def srcL (p : Pat) (q : Nat) : List Nat := (List.range p.len.length).filter (fun r => isSrc p r q)
/-- what the program collects -/
def colL (p : Pat) (q : Nat) (l : List Arc) : List Nat := (l.filter (srcB p q)).map (·.fr)
theorem colL_snoc (p : Pat) (q : Nat) (l : List Arc) (a : Arc) : colL p q (l ++ [a]) = if srcB p q a = true then colL p q l ++ [a.fr] else colL p q l := by
  unfold colL
  rw [List.filter_append]
  by_cases h : srcB p q a = true
  · rw [if_pos h]; simp [h]
  · rw [if_neg h]; simp [h]
theorem colL_len (p : Pat) (q : Nat) (l : List Arc) : (colL p q l).length ≤ l.length := by
  unfold colL; rw [List.length_map]; exact List.length_filter_le _ _
theorem srcL_mem {p : Pat} {r q : Nat} : r ∈ srcL p q ↔ r < p.len.length ∧ isSrc p r q = true := by simp [srcL]
theorem isSrc_iff {p : Pat} {r q : Nat} : isSrc p r q = true ↔ ∃ a ∈ p.arcs, a.fr = r ∧ srcB p q a = true := by simp [isSrc]
theorem isSrc_lt {p : Pat} (hg : Good p) {r q : Nat} (h : isSrc p r q = true) : r < p.len.length ∧ q < p.len.length ∧ r ≠ q := by
  obtain ⟨a, ha, rfl, hb⟩ := isSrc_iff.1 h
  have hk := hg.arc a ha
  simp only [srcB, Bool.and_eq_true, decide_eq_true_eq] at hb
  exact ⟨hk.fr, hb.1.1 ▸ hk.to, hb.1.1 ▸ hk.ne⟩
theorem colL_mem {p : Pat} {q r : Nat} : r ∈ colL p q p.arcs ↔ isSrc p r q = true := by
  rw [isSrc_iff]
  simp only [colL, List.mem_map, List.mem_filter]
  constructor
  · rintro ⟨a, ⟨h1, h2⟩, h3⟩; exact ⟨a, h1, h3, h2⟩
  · rintro ⟨a, h1, h3, h2⟩; exact ⟨a, ⟨h1, h2⟩, h3⟩
theorem srcL_asc (p : Pat) (q : Nat) : (srcL p q).Pairwise (· < ·) := List.Pairwise.filter _ List.pairwise_lt_range
/-- ascending lists with the same elements are equal -/
theorem asc_uniq {l m : List Int} (hl : l.Pairwise (· < ·)) (hm : m.Pairwise (· < ·)) (h : ∀ x, x ∈ l ↔ x ∈ m) : l = m := by
  have hn : ∀ {l : List Int}, l.Pairwise (· < ·) → l.Nodup := fun h => h.imp (fun h => by omega)
  exact ((List.perm_ext_iff_of_nodup (hn hl) (hn hm)).2 h).eq_of_pairwise (fun a b _ _ h1 h2 => by omega) hl hm
theorem nats_asc {l : List Nat} (h : l.Pairwise (· < ·)) : (nats l).Pairwise (· < ·) := by
  rw [List.pairwise_map]
  exact h.imp (fun h => by omega)
theorem nats_mem {l : List Nat} {x : Int} : x ∈ nats l ↔ ∃ k ∈ l, (k : Int) = x := by simp [nats]
theorem compact_spec (zs : List Int) (hz : zs.Pairwise (· ≤ ·)) : ∀ m, m ≤ zs.length → (Lib.compactUpTo zs.toArray m).Pairwise (· < ·) ∧ (∀ x, x ∈ Lib.compactUpTo zs.toArray m ↔ x ∈ zs.take m) := by
  intro m
  induction m with
  | zero => intro _; simp [Lib.compactUpTo]
  | succ m ih =>
    intro hm
    obtain ⟨h1, h2⟩ := ih (by omega)
    have hlt : m < zs.length := by omega
    have hg : zs.toArray[m]! = zs[m] := by simp [getElem!_pos, hlt]
    rw [Lib.compactUpTo_succ, List.take_succ_eq_append_getElem hlt]
    by_cases hk : Lib.keeps zs.toArray m = true
    · rw [if_pos hk, hg]
      refine ⟨?_, fun x => by rw [List.mem_append, List.mem_append, h2]⟩
      rw [List.pairwise_append]
      refine ⟨h1, by simp, fun a ha b hb => ?_⟩
      simp only [List.mem_singleton] at hb
      subst hb
      obtain ⟨i, hi, e⟩ := List.getElem_of_mem ((h2 a).1 ha)
      rw [List.getElem_take] at e
      have hi' : i < m := by simp at hi; omega
      have h3 : zs[i] ≤ zs[m - 1] := by
        by_cases e2 : i = m - 1
        · subst e2; exact Int.le_refl _
        · exact List.pairwise_iff_getElem.1 hz i (m - 1) (by omega) (by omega) (by omega)
      have h4 : zs[m - 1] ≤ zs[m] := List.pairwise_iff_getElem.1 hz (m - 1) m (by omega) (by omega) (by omega)
      have h5 : zs[m] ≠ zs[m - 1] := by
        have hk2 := hk
        simp only [Lib.keeps, decide_eq_true_eq] at hk2
        rcases hk2 with h | h
        · omega
        · rw [hg] at h
          have hg2 : zs.toArray[m - 1]! = zs[m - 1] := by simp [getElem!_pos, show m - 1 < zs.length by omega]
          rw [hg2] at h
          exact h
      omega
    · rw [if_neg hk, List.append_nil]
      refine ⟨h1, fun x => ?_⟩
      rw [h2, List.mem_append]
      constructor
      · exact .inl
      · rintro (h | h)
        · exact h
        · simp only [List.mem_singleton] at h
          subst h
          simp only [Lib.keeps, decide_eq_true_eq] at hk
          have hm0 : m ≠ 0 := fun h => hk (.inl h)
          have he : zs[m] = zs[m - 1] := by
            rw [hg] at hk
            have hg2 : zs.toArray[m - 1]! = zs[m - 1] := by simp [getElem!_pos, show m - 1 < zs.length by omega]
            rw [hg2] at hk
            exact Classical.not_not.1 (fun h => hk (.inr h))
          rw [he]
          exact List.mem_take_iff_getElem.2 ⟨m - 1, by omega, rfl⟩
/-- a list, sorted, without repetition -/
theorem compact_sort (l : List Int) : (Lib.compact (sortI l)).Pairwise (· < ·) ∧ ∀ x, x ∈ Lib.compact (sortI l) ↔ x ∈ l := by
  obtain ⟨h1, h2⟩ := compact_spec (sortI l) (sortI_le l) (sortI l).length (Nat.le_refl _)
  refine ⟨h1, fun x => ?_⟩
  have h3 := h2 x
  rw [List.take_length] at h3
  exact h3.trans (sortI_perm l).mem_iff
theorem src_compact (p : Pat) (q : Nat) (hg : Good p) : Lib.compact (sortI (nats (colL p q p.arcs))) = nats (srcL p q) := by
  obtain ⟨h1, h2⟩ := compact_sort (nats (colL p q p.arcs))
  refine asc_uniq h1 (nats_asc (srcL_asc p q)) (fun x => ?_)
  rw [h2, nats_mem, nats_mem]
  constructor
  · rintro ⟨k, hk, rfl⟩
    have := colL_mem.1 hk
    exact ⟨k, srcL_mem.2 ⟨(isSrc_lt hg this).1, this⟩, rfl⟩
  · rintro ⟨k, hk, rfl⟩
    exact ⟨k, colL_mem.2 (srcL_mem.1 hk).2, rfl⟩
/-- what is reached -/
inductive Rch (f : Nat → List Nat) (a : Nat) : Nat → Prop
  | here : Rch f a a
  | step {x y : Nat} : Rch f a x → y ∈ f x → Rch f a y
theorem Rch.closed {f : Nat → List Nat} {a b : Nat} {P : Nat → Prop} (h : Rch f a b) (h0 : P a) (hs : ∀ x, P x → ∀ y ∈ f x, P y) : P b := by
  induction h with
  | here => exact h0
  | step _ hy ih => exact hs _ ih _ hy
/-- the ascending list of what is reached -/
structure IsRch (f : Nat → List Nat) (a : Nat) (l : List Nat) : Prop where
  asc : l.Pairwise (· < ·)
  mem : ∀ x, x ∈ l ↔ Rch f a x
theorem nat_asc_uniq {l m : List Nat} (hl : l.Pairwise (· < ·)) (hm : m.Pairwise (· < ·)) (h : ∀ x, x ∈ l ↔ x ∈ m) : l = m := by
  have hn : ∀ {l : List Nat}, l.Pairwise (· < ·) → l.Nodup := fun h => h.imp (fun h => by omega)
  exact ((List.perm_ext_iff_of_nodup (hn hl) (hn hm)).2 h).eq_of_pairwise (fun a b _ _ h1 h2 => by omega) hl hm
theorem nodup_lt_len (n : Nat) (l : List Nat) (hn : l.Nodup) (hl : ∀ x ∈ l, x < n) : l.length ≤ n := Tph.nodup_le n l hn hl
/-- one process, added if it is not there -/
def addN (l : List Nat) (x : Nat) : List Nat := if x ∈ l then l else l ++ [x]
theorem addN_mem {l : List Nat} {x y : Nat} : y ∈ addN l x ↔ y ∈ l ∨ y = x := by
  unfold addN
  split
  · rename_i h; constructor
    · exact .inl
    · rintro (h1 | rfl); exact h1; exact h
  · simp
theorem addN_nodup {l : List Nat} {x : Nat} (h : l.Nodup) : (addN l x).Nodup := by
  unfold addN
  split
  · exact h
  · rename_i h1
    rw [List.nodup_append]
    exact ⟨h, by simp, fun a ha b hb => by simp at hb; subst hb; exact fun e => h1 (e ▸ ha)⟩
/-- the search, under way: l found, the first i gone through, of number i the first j -/
structure Bfs (n : Nat) (f : Nat → List Nat) (a : Nat) (l : List Nat) (i j : Nat) : Prop where
  nd : l.Nodup
  lt : ∀ x ∈ l, x < n
  ha : a ∈ l
  ok : ∀ x ∈ l, Rch f a x
  done : ∀ k, k < i → ∀ x, l[k]? = some x → ∀ y ∈ f x, y ∈ l
  part : ∀ x, l[i]? = some x → ∀ y ∈ (f x).take j, y ∈ l
theorem Bfs.start {n : Nat} {f : Nat → List Nat} {a : Nat} (h : a < n) : Bfs n f a [a] 0 0 := ⟨by simp, by simp [h], by simp, by simp; exact .here, by simp, by simp⟩
theorem Bfs.add {n : Nat} {f : Nat → List Nat} {a : Nat} {l : List Nat} {i j x y : Nat} (h : Bfs n f a l i j) (hx : l[i]? = some x) (hy : (f x)[j]? = some y) (hf : ∀ x y, y ∈ f x → y < n) : Bfs n f a (addN l y) i (j + 1) := by
  have hpre : ∀ k z, (addN l y)[k]? = some z → k < l.length → l[k]? = some z := fun k z e hk => by
    unfold addN at e
    split at e
    · exact e
    · rwa [List.getElem?_append_left hk] at e
  have hil : i < l.length := (List.getElem?_eq_some_iff.1 hx).1
  have hyf : y ∈ f x := List.mem_of_getElem? hy
  refine ⟨addN_nodup h.nd, fun z hz => ?_, addN_mem.2 (.inl h.ha), fun z hz => ?_, fun k hk z e w hw => ?_, fun z e w hw => ?_⟩
  · rcases addN_mem.1 hz with h1 | rfl
    · exact h.lt z h1
    · exact hf x _ hyf
  · rcases addN_mem.1 hz with h1 | rfl
    · exact h.ok z h1
    · exact (h.ok x (List.mem_of_getElem? hx)).step hyf
  · exact addN_mem.2 (.inl (h.done k hk z (hpre k z e (by omega)) w hw))
  · have e2 := hpre i z e hil
    rw [hx] at e2
    injection e2 with e2
    subst e2
    rw [List.take_add_one, hy] at hw
    rcases List.mem_append.1 hw with h1 | h1
    · exact addN_mem.2 (.inl (h.part x hx w h1))
    · simp at h1; exact addN_mem.2 (.inr h1)
theorem Bfs.next {n : Nat} {f : Nat → List Nat} {a : Nat} {l : List Nat} {i j x : Nat} (h : Bfs n f a l i j) (hx : l[i]? = some x) (hj : (f x).length ≤ j) : Bfs n f a l (i + 1) 0 := by
  refine ⟨h.nd, h.lt, h.ha, h.ok, fun k hk z e w hw => ?_, by simp⟩
  by_cases e2 : k = i
  · subst e2
    rw [hx] at e
    injection e with e
    subst e
    exact h.part x hx w (by rw [List.take_of_length_le hj]; exact hw)
  · exact h.done k (by omega) z e w hw
theorem Bfs.fin {n : Nat} {f : Nat → List Nat} {a : Nat} {l : List Nat} {i j : Nat} (h : Bfs n f a l i j) (hi : l.length ≤ i) : ∀ x, x ∈ l ↔ Rch f a x := by
  intro x
  refine ⟨h.ok x, fun hr => hr.closed h.ha (fun z hz y hy => ?_)⟩
  obtain ⟨k, hk, rfl⟩ := List.getElem_of_mem hz
  exact h.done k (by omega) _ (List.getElem?_eq_getElem hk) y hy
theorem Bfs.len {n : Nat} {f : Nat → List Nat} {a : Nat} {l : List Nat} {i j : Nat} (h : Bfs n f a l i j) : l.length ≤ n := nodup_lt_len n l h.nd h.lt
/-- the found list, sorted -/
theorem Bfs.res {n : Nat} {f : Nat → List Nat} {a : Nat} {l : List Nat} {i j : Nat} (h : Bfs n f a l i j) (hi : l.length ≤ i) : ∃ m, IsRch f a m ∧ sortI (nats l) = nats m := by
  refine ⟨(sortI (nats l)).map Int.toNat, ?_, ?_⟩
  · have hlt := sortI_lt (ns := nats l) (List.pairwise_map.2 (h.nd.imp (fun h e => h (by omega))))
    have hnn : ∀ x ∈ sortI (nats l), 0 ≤ x := fun x hx => by
      obtain ⟨k, _, rfl⟩ := nats_mem.1 ((sortI_perm _).mem_iff.1 hx); omega
    refine ⟨?_, fun x => ?_⟩
    · rw [List.pairwise_map]
      refine List.Pairwise.imp_of_mem (fun {a b} ha hb h => ?_) hlt
      have := hnn a ha
      have := hnn b hb
      omega
    · rw [← h.fin hi x, List.mem_map]
      constructor
      · rintro ⟨z, hz, rfl⟩
        obtain ⟨k, hk, rfl⟩ := nats_mem.1 ((sortI_perm _).mem_iff.1 hz)
        simpa using hk
      · intro hx
        exact ⟨(x : Int), (sortI_perm _).mem_iff.2 (nats_mem.2 ⟨x, hx, rfl⟩), by simp⟩
  · have hnn : ∀ x ∈ sortI (nats l), 0 ≤ x := fun x hx => by
      obtain ⟨k, _, rfl⟩ := nats_mem.1 ((sortI_perm _).mem_iff.1 hx); omega
    generalize sortI (nats l) = s at *
    rw [nats, List.map_map]
    have : s.map ((fun f : Nat => (f : Int)) ∘ Int.toNat) = s.map id := List.map_congr_left (fun x hx => by have := hnn x hx; simp; omega)
    rw [this, List.map_id]
end Go.Proofs.Ytmjmdncdmmcmaaa
