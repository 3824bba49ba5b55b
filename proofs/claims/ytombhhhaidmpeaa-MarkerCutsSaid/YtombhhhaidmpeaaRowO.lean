/- Rows of a call's own that begin anywhere in a block; families of pieces. No condition. -/
import Derived.Test.YtombhhhaidmpeaaTail
import Derived.Test.YtombhhhaidmpeaaSnStepC
import Derived.ArgAppend
namespace Go.Proofs.Ytombhhhaidmpeaa
open Go.RowKit
set_option linter.unusedVariables false
set_option linter.unusedSimpArgs false
set_option linter.unusedSectionVars false

/-- a family of pieces -/
def famC {w0 : World} {M : Nat → Prop} (rs : List (Chunk w0 M)) : Chunk w0 M :=
  ⟨fun k => ∃ c ∈ rs, c.own k, fun w => (∀ c ∈ rs, c.ok w) ∧ rs.Pairwise (fun c d : Chunk w0 M => ∀ k : Nat, c.own k → ¬ d.own k),
   fun {w w'} h hk => ⟨fun c hc => c.loc (h.1 c hc) (fun k h1 => hk k (h1.imp (fun h2 => ⟨c, hc, h2⟩) id)), h.2⟩,
   fun {w k} h e => by obtain ⟨c, hc, e⟩ := e; exact c.lt (h.1 c hc) e⟩
section
variable {w0 w : World} {M : Nat → Prop} {cs : List (Chunk w0 M)} {rs : List (Chunk w0 M)} {c : Chunk w0 M}
theorem St.famCNil (h : St w0 M cs w) : St w0 M (famC [] :: cs) w := h.add (Ext.refl' w) ⟨by simp, by simp⟩ (fun k h => by obtain ⟨_, h, _⟩ := h; simp at h)
theorem St.famCTake {j : Nat} (h : St w0 M (famC rs :: cs) w) (hj : rs[j]? = some c) : St w0 M (c :: famC (rs.set j nop) :: cs) w := by
  have hm : c ∈ rs := List.mem_of_getElem? hj
  obtain ⟨hjl, hje⟩ := List.getElem?_eq_some_iff.1 hj
  have hset : ∀ d ∈ rs.set j nop, d ∈ rs ∨ d = nop := fun d hd => List.mem_or_eq_of_mem_set hd
  have hap : ∀ d ∈ rs.set j nop, ∀ k, d.own k → ¬ c.own k := by
    intro d hd k h1 h2
    obtain ⟨i, hi, rfl⟩ := List.getElem_of_mem hd
    rw [List.getElem_set] at h1
    split at h1
    · exact h1
    · rename_i hne
      have hil : i < rs.length := by simpa using hi
      rcases Nat.lt_or_gt_of_ne hne with hlt | hlt
      · exact (List.pairwise_iff_getElem.1 h.head.2 j i hjl hil hlt) k (by rw [hje]; exact h2) h1
      · exact (List.pairwise_iff_getElem.1 h.head.2 i j hil hjl hlt) k h1 (by rw [hje]; exact h2)
  have hp : St w0 M (pair c (famC (rs.set j nop)) :: cs) w := by
    refine h.upd (Keep.refl _ _) ⟨h.head.1 _ hm, ⟨fun d hd => ?_, ?_⟩, fun k h1 h2 => ?_⟩ (fun k hk => .inl ?_)
    · rcases hset d hd with h1 | rfl
      · exact h.head.1 d h1
      · exact trivial
    · rw [List.pairwise_iff_getElem]
      intro a b ha hb hlt
      rw [List.getElem_set, List.getElem_set]
      split
      · intro k hk; exact hk.elim
      · split
        · intro k _ hk; exact hk
        · exact List.pairwise_iff_getElem.1 h.head.2 a b (by simpa using ha) (by simpa using hb) hlt
    · obtain ⟨d, hd, h2⟩ := h2
      exact hap d hd k h2 h1
    · rcases hk with hk | ⟨d, hd, hk⟩
      · exact ⟨c, hm, hk⟩
      · rcases hset d hd with h1 | rfl
        · exact ⟨d, h1, hk⟩
        · exact hk.elim
  exact hp.split
theorem St.famCPut {j : Nat} (h : St w0 M (c :: famC rs :: cs) w) : St w0 M (famC (rs.set j c) :: cs) w := by
  have hj := h.join
  have hset : ∀ d ∈ rs.set j c, d ∈ rs ∨ d = c := fun d hd => List.mem_or_eq_of_mem_set hd
  refine hj.upd (Keep.refl _ _) ⟨fun d hd => ?_, ?_⟩ (fun k hk => .inl ?_)
  · rcases hset d hd with h1 | rfl
    · exact hj.head.2.1.1 d h1
    · exact hj.head.1
  · rw [List.pairwise_iff_getElem]
    intro a b ha hb hlt
    have ha' : a < rs.length := by simpa using ha
    have hb' : b < rs.length := by simpa using hb
    rw [List.getElem_set, List.getElem_set]
    split
    · split
      · omega
      · intro k hk h2
        exact hj.head.2.2 k hk ⟨_, List.getElem_mem hb', h2⟩
    · split
      · intro k hk h2
        exact hj.head.2.2 k h2 ⟨_, List.getElem_mem ha', hk⟩
      · exact List.pairwise_iff_getElem.1 hj.head.2.1.2 a b ha' hb' hlt
  · obtain ⟨d, hd, h1⟩ := hk
    rcases hset d hd with h2 | rfl
    · exact .inr ⟨d, h2, h1⟩
    · exact .inl h1
end
/-- the row of a slice that may begin anywhere in a block of its own, elements of one cell -/
def orow {w0 : World} {M : Nat → Prop} (e : TypeId) (A : Option Addr) (c : Nat) (vs : List Value) : Chunk w0 M :=
  ⟨fun k => ∃ o, A = some ⟨k, o, none⟩,
   fun w => vs.length ≤ c ∧ c ≤ 9223372036854775807 ∧ ((A = none ∧ c = 0) ∨ ∃ g o cur, A = some ⟨g, o, none⟩ ∧ w.heap[g]? = some (.cells cur e (0, 0)) ∧ o + c ≤ cur.size ∧ ∀ j v, vs[j]? = some v → cur[o + j]? = some v),
   fun {w w'} h hk => ⟨h.1, h.2.1, h.2.2.imp id (fun ⟨g, o, cur, h1, h2, h3⟩ => ⟨g, o, cur, h1, (hk g (.inl ⟨o, h1⟩)).trans h2, h3⟩)⟩,
   fun {w k} h hk => by
     obtain ⟨o, e⟩ := hk
     rcases h.2.2 with ⟨e2, _⟩ | ⟨g, o2, cur, e2, h2, _⟩
     · rw [e] at e2; cases e2
     · rw [e] at e2
       injection e2 with e2
       injection e2 with e2
       subst e2
       exact lt_of_block h2⟩
section
variable {w0 w w' : World} {M : Nat → Prop} {cs : List (Chunk w0 M)} {e : TypeId} {A : Option Addr} {n c : Nat} {vs : List Value} {x : Value}
theorem orow_of_own {base : Nat} (h : w.ownsRow base e 1 (.slice A n c) n vs) : (orow e A c vs : Chunk w0 M).ok w := by
  obtain ⟨h1, h2⟩ := h
  rw [Nat.mul_one] at h1
  rcases h2 with ⟨h3, h4⟩ | ⟨g, cap, cur, h3, h4, h5, h6, h7, h8, h9⟩
  · injection h3 with h3 h5 h6
    subst h3 h5 h6
    exact ⟨by omega, by omega, .inl ⟨rfl, rfl⟩⟩
  · injection h3 with h3 _ h10
    subst h3 h10
    refine ⟨by omega, by unfold maxLen at h7; omega, .inr ⟨g, 0, cur, rfl, h5, by rw [h8]; omega, fun j v hv => ?_⟩⟩
    rw [Nat.zero_add, ← Array.getElem?_toList]
    rw [← h9, List.getElem?_take] at hv
    split at hv
    · exact hv
    · cases hv
theorem St.toO (h : St w0 M (row (.slice A n c) e 1 n vs :: cs) w) : St w0 M (orow e A c vs :: cs) w :=
  h.upd (Keep.refl _ _) (orow_of_own h.head) (fun k hk => .inl (by obtain ⟨o, rfl⟩ := hk; rfl))
/-- the rest of a row -/
theorem St.tailO {g o : Nat} (h : St w0 M (orow e (some ⟨g, o, none⟩) c (x :: vs) :: cs) w) : St w0 M (orow e (tailA g o c 1) (c - 1) vs :: cs) w := by
  obtain ⟨h1, h2, h3⟩ := h.head
  simp only [List.length_cons] at h1
  refine h.upd (Keep.refl _ _) ⟨by omega, by omega, ?_⟩ (fun k hk => .inl ?_)
  · rcases h3 with ⟨h3, _⟩ | ⟨g', o', cur, h3, h4, h5, h6⟩
    · cases h3
    · injection h3 with h3
      injection h3 with h3 h7
      subst h3 h7
      unfold tailA
      by_cases hc : c = 1
      · rw [if_pos hc]
        have : vs = [] := List.eq_nil_of_length_eq_zero (by omega)
        subst this
        exact .inr ⟨g, o, cur, rfl, h4, by omega, by simp⟩
      · rw [if_neg hc]
        refine .inr ⟨g, o + 1, cur, rfl, h4, by omega, fun j v hv => ?_⟩
        have := h6 (j + 1) v (by simpa using hv)
        rw [show o + 1 + j = o + (j + 1) by omega]; exact this
  · obtain ⟨o2, hk⟩ := hk
    unfold tailA at hk
    split at hk <;> (injection hk with hk; injection hk with hk hk2; subst hk; exact ⟨o, rfl⟩)
/-- the first of a row -/
theorem St.headO {g o : Nat} (h : St w0 M (orow e (some ⟨g, o, none⟩) c (x :: vs) :: cs) w) : w.cell? ⟨g, o, none⟩ = some x := by
  obtain ⟨h1, h2, h3⟩ := h.head
  rcases h3 with ⟨h3, _⟩ | ⟨g', o', cur, h3, h4, h5, h6⟩
  · cases h3
  · injection h3 with h3
    injection h3 with h3 h7
    subst h3 h7
    exact cell_of_heap h4 (by simpa using h6 0 x rfl)
theorem St.someO (h : St w0 M (orow e A c (x :: vs) :: cs) w) : ∃ g o, A = some ⟨g, o, none⟩ := by
  obtain ⟨h1, h2, h3⟩ := h.head
  simp only [List.length_cons] at h1
  rcases h3 with ⟨h3, h4⟩ | ⟨g', o', cur, h3, _⟩
  · omega
  · exact ⟨g', o', h3⟩
theorem St.capO (h : St w0 M (orow e A c vs :: cs) w) : vs.length ≤ c ∧ c ≤ 9223372036854775807 := ⟨h.head.1, h.head.2.1⟩
end
/-- append of one value onto such a row -/
theorem run_appO {P : Program} {t e : TypeId} {bytes : Nat} (hT : ElemTy P t e 1 bytes) {w : World} {w0 : World} {M : Nat → Prop} (ty : TypeId) {A : Option Addr} {c : Nat} {vs : List Value} (ho : (orow e A c vs : Chunk w0 M).ok w) {a : Addr} {c1 : Nat} {v : Value} (hv : w.cell? a = some v) (hsp : a.spot = none) (h1 : v.oneCell' = true) (hb : (vs.length + 1) * bytes ≤ 140737488355328) :
    ∃ A' c' w', (Builtin.append_ #[t, t] ty #[.slice A vs.length c, .slice (some a) 1 c1]).run P w = .ok (.slice A' (vs.length + 1) c') w' ∧ (orow e A' c' (vs ++ [v]) : Chunk w0 M).ok w' ∧ Keep (fun k => ¬ (orow e A c vs : Chunk w0 M).own k) w w' ∧ ∀ k, (orow e A' c' (vs ++ [v]) : Chunk w0 M).own k → (orow e A c vs : Chunk w0 M).own k ∨ w.heap.size ≤ k := by
  obtain ⟨i, z, hi, hz, hs, hby, hzs⟩ := hT.hi
  have hsz : 0 < 1 := Nat.one_pos
  obtain ⟨h2, h3, h4⟩ := ho
  have hnew : ∀ j u, ([v] : List Value)[j]? = some u → w.cell? (a.add j) = some u := fun j u hu => by
    match j with
    | 0 => simp only [List.getElem?_cons_zero, Option.some.injEq] at hu; rw [← hu]; obtain ⟨b, o, sp⟩ := a; simp only at hsp; subst hsp; rw [add_mk, Nat.add_zero]; exact hv
    | j + 1 => simp at hu
  have h63 : vs.length + 1 ≤ maxLen := by
    have : vs.length + 1 ≤ (vs.length + 1) * bytes := Nat.le_mul_of_pos_right _ hT.hby
    unfold maxLen; omega
  have hgr : ∀ {v' : Value} {w' : World}, w'.ownsRow w.heap.size e 1 v' (vs.length + 1) (vs ++ [v]) → w.grownBy w' none → ∃ A' c', v' = .slice A' (vs.length + 1) c' ∧ (orow e A' c' (vs ++ [v]) : Chunk w0 M).ok w' ∧ Keep (fun k => ¬ (orow e A c vs : Chunk w0 M).own k) w w' ∧ ∀ k, (orow e A' c' (vs ++ [v]) : Chunk w0 M).own k → (orow e A c vs : Chunk w0 M).own k ∨ w.heap.size ≤ k := by
    intro v' w' hw hg
    obtain ⟨A', c', rfl, _, _⟩ := own_form hw
    refine ⟨A', c', rfl, orow_of_own hw, ⟨hg.os, hg.tape, hg.output, hg.size, fun k hk _ => hg.block k hk (by simp)⟩, fun k hk => .inr ?_⟩
    obtain ⟨o, rfl⟩ := hk
    exact own_block hw k rfl
  rcases h4 with ⟨rfl, rfl⟩ | ⟨g, o, cur, rfl, hheap, hcap, hcells⟩
  · have hvs : vs = [] := List.eq_nil_of_length_eq_zero (by omega)
    subst hvs
    have hr := run_append_nil (P := P) w t ty e i z hT.ht hi hz a 1 c1 [v] (by rw [hs]; rfl) hnew (by omega) (by unfold maxLen at h63; simp at h63 ⊢) (by rw [hby]; simp at hb ⊢; omega)
    have hge := grownCap_ge w 1 0 e
    have hcm := grownCap_le_maxLen w 1 0 e (by simpa using h63)
    obtain ⟨A', c', e1, e2, e3, e4⟩ := hgr (v' := .slice (some ⟨w.heap.size, 0, none⟩) 1 (grownCap w 1 0 e)) (w' := w.drew.alloc (.cells (([v] : List Value).toArray ++ Builtin.zeroCells z.cells (grownCap w 1 0 e - 1)) e)) (by
      refine ⟨by simp, .inr ⟨w.heap.size, _, _, rfl, Nat.le_refl _, heap_new w.drew _, hge, hcm, ?_, ?_⟩⟩
      · simp only [Array.size_append, List.size_toArray, size_zeroCells, hzs, List.length_singleton]; omega
      · simp) ⟨rfl, rfl, rfl, by simp, fun k hk _ => heap_alloc_old _ _ hk⟩
    refine ⟨A', c', _, ?_, e2, e3, e4⟩
    rw [← e1]
    exact hr
  · have hcl : ∀ j u, vs[j]? = some u → w.cell? ⟨g, o + j, none⟩ = some u := fun j u hu => cell_of_heap hheap (hcells j u hu)
    by_cases hroom : vs.length + 1 ≤ c
    · have hlt : o + vs.length < cur.size := by omega
      have hcs : w.cell? ⟨g, o + vs.length * i.size + 0, none⟩ = some cur[o + vs.length] := by
        rw [hs]
        simp only [Nat.mul_one, Nat.add_zero]
        exact cell_of_heap hheap (Array.getElem?_eq_getElem hlt)
      have hfr : w.frozen? ⟨g, o + vs.length * i.size + 0, none⟩ = false := by
        simp [World.frozen?, hheap]
      have hr := run_append_room_cells (P := P) w t ty e i hT.ht hi g o vs.length c a 1 c1 [v] (by rw [hs]; rfl) hnew (by simpa using h1) hroom
        (fun j hj => by have : j = 0 := by simpa using hj
                        subst this; rw [hcs]; rfl)
        (fun j hj => by have : j = 0 := by simpa using hj
                        subst this; exact hfr)
      rw [hs, Nat.mul_one] at hr
      have hk : ∀ k, k ≠ g → (w.setCells g (o + vs.length) [v]).heap[k]? = w.heap[k]? := fun k hk => Below.heap_setCell w ⟨g, o + vs.length, none⟩ v k hk
      have hg2 : (w.setCells g (o + vs.length) [v]).heap[g]? = some (.cells (cur.setIfInBounds (o + vs.length) v) e (0, 0)) := by
        simp [World.setCells, World.setCell, Array.getElem?_modify, hheap]
      refine ⟨some ⟨g, o, none⟩, c, _, hr, ⟨by simpa using hroom, h3, .inr ⟨g, o, _, rfl, hg2, by simpa using hcap, fun j u hu => ?_⟩⟩, ⟨rfl, rfl, rfl, by simp [World.setCells, World.setCell], fun k _ hko => hk k (fun e => hko ⟨o, by rw [e]⟩)⟩, fun k hko => .inl hko⟩
      rw [Array.getElem?_setIfInBounds]
      by_cases hj : j < vs.length
      · rw [if_neg (by omega)]
        rw [List.getElem?_append_left hj] at hu
        exact hcells j u hu
      · have hjl : j = vs.length := by
          have := (List.getElem?_eq_some_iff.1 hu).1
          simp at this; omega
        subst hjl
        rw [if_pos rfl, if_pos hlt]
        simpa using hu
    · obtain ⟨v', w', hr, hw, hg⟩ := run_append_arg_grows (P := P) w t ty e i z 1 bytes hT.ht hi hz hs hby hzs hsz ⟨g, o, none⟩ vs.length c vs (by simp) (fun j u hu => by rw [add_mk]; exact hcl j u hu) a 1 c1 [v] rfl hnew (by omega) h63 hb
      obtain ⟨A', c', rfl, e2, e3, e4⟩ := hgr hw hg
      exact ⟨A', c', w', hr, e2, e3, e4⟩
section
variable {P : Program} {ops : Array Oper} {Q : Exit → Act → World → Prop} {a : Act} {w w0 : World} {M : Nat → Prop} {cs ds : List (Chunk w0 M)} {f : Chunk w0 M → List (Chunk w0 M)} {rest : List Oper} {d : Option Tmp} {tt ty t e : TypeId} {pos : String} {af : Array Edge} {gd : Option (Nat × Bool)} {x y : Operand}
theorem st_appO1 {bytes n c c1 g : Nat} {A : Option Addr} {vs : List Value} {v : Value} [hT : ElemC P t e 1 bytes] (hS : St w0 M cs w) (hw : Region.wanted ⟨d, .call { callee := .builtin .append, args := #[x, y], argTypes := #[t, t] }, tt, pos, af, gd⟩ (yielded ops a.tmps) = true)
    (hx' : oval a x = some (.slice A n c)) (hy' : oval a y = some (.slice (some ⟨g, 0, none⟩) 1 c1)) {t' : TypeId} [hd : DropB g cs [v] t' ds] [hp : PickK (orow e A c vs) ds f] (hn : vs.length = n) (h1 : v.oneCell' = true) (hb : (n + 1) * bytes ≤ 140737488355328)
    (k : ∀ A' c' w', n + 1 ≤ c' → c' ≤ 9223372036854775807 → St w0 M (f (orow e A' c' (vs ++ [v]))) w' → wpList P ops Q rest (a.put d (.slice A' (n + 1) c')) w') :
    wpList P ops Q (⟨d, .call { callee := .builtin .append, args := #[x, y], argTypes := #[t, t] }, tt, pos, af, gd⟩ :: rest) a w := by
  subst hn
  have hS2 : St w0 M (f (orow e A c vs)) w := hp.eq ▸ hS.sub hd.sub
  have ho := hS2.at_ hp.gap
  obtain ⟨A', c', w', hr, e1, e2, e3⟩ := run_appO hT.h tt ho (a := ⟨g, 0, none⟩) (c1 := c1) (cell_of_heap (hS.all _ hd.mem : w.heap[g]? = _) rfl) rfl h1 hb
  refine st_run hw (v := .slice A' (vs.length + 1) c') (w' := w') ?_ (k A' c' w' (by have := e1.1; simpa using this) e1.2.1 (hS2.updG hp.gap e2 e1 e3))
  simp only [execOp, resolve, invoke, builtin, Sem.run_bind, Sem.run_pure, Result.andThen_ok, List.map_toArray, List.map_cons, List.map_nil, oval_eval hx', oval_eval hy', hr]
end
end Go.Proofs.Ytombhhhaidmpeaa
