/- The state of a call: the memory that it owns, listed piece by piece; all else is as it was. No condition. -/
import Derived.Test.YtmjmdncdmmcmaaaGa
import Derived.Great.BuildSlice
import Derived.Deep.LoopGhost
import Derived.Test.YtmjmdncdmmcmaaaRows
import Derived.OrdersHeld
import Derived.StillTailTactics
import Derived.IntWalk
namespace Go.Proofs.Ytmjmdncdmmcmaaa
open Go.RowKit
set_option linter.unusedVariables false
set_option linter.unusedSectionVars false

/-- an old block that the call may not change -/
def Froz (w0 : World) (M : Nat → Prop) (k : Nat) : Prop := k < w0.heap.size ∧ ¬ M k
/-- a piece of memory that the call owns -/
structure Chunk (w0 : World) (M : Nat → Prop) where
  own : Nat → Prop
  ok : World → Prop
  loc : ∀ {w w' : World}, ok w → (∀ k, own k ∨ Froz w0 M k → w'.heap[k]? = w.heap[k]?) → ok w'
  lt : ∀ {w : World} {k : Nat}, ok w → own k → k < w.heap.size
/-- the call began in w0, may change the old blocks of M, owns the pieces cs -/
structure St (w0 : World) (M : Nat → Prop) (cs : List (Chunk w0 M)) (w : World) : Prop where
  keep : Keep (fun k => ¬ M k) w0 w
  all : ∀ c ∈ cs, c.ok w
  new : ∀ c ∈ cs, ∀ k, c.own k → w0.heap.size ≤ k ∨ M k
  apart : cs.Pairwise (fun c d => ∀ k, c.own k → ¬ d.own k)
abbrev NoM : Nat → Prop := fun _ => False

section
variable {w0 : World} {M : Nat → Prop} {c c' d : Chunk w0 M} {cs ds l r : List (Chunk w0 M)} {w w' : World}
theorem St.start (w : World) (M : Nat → Prop) : St w M [] w := ⟨Keep.refl _ _, by simp, by simp, by simp⟩
theorem St.updAt (h : St w0 M (l ++ c :: r) w) (hk : Keep (fun k => ¬ c.own k) w w') (hok : c'.ok w') (hown : ∀ k, c'.own k → c.own k ∨ w.heap.size ≤ k) : St w0 M (l ++ c' :: r) w' := by
  have hnew := h.new c (by simp)
  have hold : ∀ k, Froz w0 M k → w'.heap[k]? = w.heap[k]? := fun k hf =>
    hk.block k (Nat.lt_of_lt_of_le hf.1 h.keep.size) (fun hc => by rcases hnew k hc with h1 | h1; exact absurd hf.1 (by omega); exact hf.2 h1)
  have hap := h.apart
  rw [List.pairwise_append, List.pairwise_cons] at hap
  obtain ⟨ha1, ⟨ha2, ha3⟩, ha4⟩ := hap
  have hother : ∀ d ∈ l ++ r, ∀ k, d.own k → ¬ c.own k := by
    intro d hd k hk hc
    rcases List.mem_append.1 hd with hd | hd
    · exact ha4 d hd c (by simp) k hk hc
    · exact ha2 d hd k hc hk
  have hmem : ∀ d ∈ l ++ r, d ∈ l ++ c :: r := by
    intro d hd; rcases List.mem_append.1 hd with hd | hd <;> simp [hd]
  have hlt : ∀ d ∈ l ++ r, ∀ k, d.own k → k < w.heap.size := fun d hd k hk => d.lt (h.all d (hmem d hd)) hk
  have hok' : ∀ d ∈ l ++ r, d.ok w' := fun d hd => d.loc (h.all d (hmem d hd)) (fun k hk' => by
    rcases hk' with hk' | hk'
    · exact hk.block k (hlt d hd k hk') (hother d hd k hk')
    · exact hold k hk')
  have hnc : ∀ d ∈ l ++ r, ∀ k, d.own k → ¬ c'.own k := fun d hd k hk hc' => by
    rcases hown k hc' with h1 | h1
    · exact hother d hd k hk h1
    · have := hlt d hd k hk; omega
  refine ⟨⟨hk.os.trans h.keep.os, hk.tape.trans h.keep.tape, hk.output.trans h.keep.output, Nat.le_trans h.keep.size hk.size, fun k hk1 hm => (hold k ⟨hk1, hm⟩).trans (h.keep.block k hk1 hm)⟩, ?_, ?_, ?_⟩
  · intro d hd
    rcases List.mem_append.1 hd with hd | hd
    · exact hok' d (by simp [hd])
    · rcases List.mem_cons.1 hd with rfl | hd
      · exact hok
      · exact hok' d (by simp [hd])
  · intro d hd k hk'
    rcases List.mem_append.1 hd with hd | hd
    · exact h.new d (by simp [hd]) k hk'
    · rcases List.mem_cons.1 hd with rfl | hd
      · rcases hown k hk' with h1 | h1
        · exact hnew k h1
        · have := h.keep.size; exact .inl (by omega)
      · exact h.new d (by simp [hd]) k hk'
  · rw [List.pairwise_append, List.pairwise_cons]
    refine ⟨ha1, ⟨fun d hd k h1 h2 => hnc d (by simp [hd]) k h2 h1, ha3⟩, fun x hx y hy => ?_⟩
    rcases List.mem_cons.1 hy with rfl | hy
    · exact fun k h1 h2 => hnc x (by simp [hx]) k h1 h2
    · exact ha4 x hx y (by simp [hy])
/-- nothing -/
def nop : Chunk w0 M := ⟨fun _ => False, fun _ => True, fun _ _ => trivial, fun _ h => h.elim⟩
theorem St.emp (h : St w0 M cs w) : St w0 M (nop :: cs) w := ⟨h.keep, fun c hc => by rcases List.mem_cons.1 hc with rfl | hc; exact trivial; exact h.all c hc,
  fun c hc => by rcases List.mem_cons.1 hc with rfl | hc; exact fun k hk => hk.elim; exact h.new c hc, List.pairwise_cons.2 ⟨fun _ _ _ hk => hk.elim, h.apart⟩⟩
theorem St.upd (h : St w0 M (c :: cs) w) (hk : Keep (fun k => ¬ c.own k) w w') (hok : c'.ok w') (hown : ∀ k, c'.own k → c.own k ∨ w.heap.size ≤ k) : St w0 M (c' :: cs) w' := St.updAt (l := []) h hk hok hown
theorem St.add (h : St w0 M cs w) (hk : Ext w w') (hok : c.ok w') (hown : ∀ k, c.own k → w.heap.size ≤ k) : St w0 M (c :: cs) w' :=
  h.emp.upd (.ofExt hk) hok (fun k hk => .inr (hown k hk))
theorem St.dropAt (h : St w0 M (l ++ c :: r) w) : St w0 M (l ++ r) w := by
  have hap := h.apart
  rw [List.pairwise_append, List.pairwise_cons] at hap
  obtain ⟨ha1, ⟨ha2, ha3⟩, ha4⟩ := hap
  have hmem : ∀ d ∈ l ++ r, d ∈ l ++ c :: r := by
    intro d hd; rcases List.mem_append.1 hd with hd | hd <;> simp [hd]
  exact ⟨h.keep, fun d hd => h.all d (hmem d hd), fun d hd => h.new d (hmem d hd), List.pairwise_append.2 ⟨ha1, ha3, fun x hx y hy => ha4 x hx y (by simp [hy])⟩⟩
theorem St.drop (h : St w0 M (c :: cs) w) : St w0 M cs w := St.dropAt (l := []) h
theorem St.ext (h : St w0 M cs w) (hk : Ext w w') : St w0 M cs w' := (h.add (c := nop) hk trivial (fun _ h => h.elim)).drop
theorem St.drew (h : St w0 M cs w) : St w0 M cs w.drew := h.ext ((Ext.refl' w).drewN' 1)
theorem St.drewN (h : St w0 M cs w) (n : Nat) : St w0 M cs (w.drewN n) := h.ext ((Ext.refl' w).drewN' n)
theorem St.head (h : St w0 M (c :: cs) w) : c.ok w := h.all c (by simp)
theorem St.mem (h : St w0 M (l ++ c :: r) w) : c.ok w := h.all c (by simp)
theorem St.perm (h : St w0 M cs w) (hp : cs.Perm ds) : St w0 M ds w := by
  refine ⟨h.keep, fun c hc => h.all c (hp.mem_iff.2 hc), fun c hc => h.new c (hp.mem_iff.2 hc), ?_⟩
  exact (hp.pairwise_iff (fun h k hk hk' => h k hk' hk)).1 h.apart
theorem St.sub (h : St w0 M cs w) (h2 : l.Sublist cs) : St w0 M l w := ⟨h.keep, fun c hc => h.all c (h2.subset hc), fun c hc => h.new c (h2.subset hc), h.apart.sublist h2⟩
/-- an old cell -/
theorem St.oldCell (h : St w0 M cs w) {p : Addr} {u : Value} (hc : w0.cell? p = some u) (hm : ¬ M p.block) : w.cell? p = some u := h.keep.cell hm hc
end

theorem St.toExt {w0 w : World} {cs : List (Chunk w0 NoM)} (h : St w0 NoM cs w) : Ext w0 w := h.keep.ext (fun _ _ => id)
/-- block g, all of it -/
def blk {w0 : World} {M : Nat → Prop} (g : Nat) (vs : List Value) (t : TypeId) : Chunk w0 M :=
  ⟨fun k => k = g, fun w => w.heap[g]? = some (.cells vs.toArray t (0, 0)), fun h hk => (hk g (.inl rfl)).trans h, fun h e => e ▸ lt_of_block h⟩
theorem own_of_block {w w' : World} {base : Nat} {e : TypeId} {size : Nat} {v : Value} {n : Nat} {vs : List Value} (h : w.ownsRow base e size v n vs) (hb : ∀ k, v.ownBlock = some k → w'.heap[k]? = w.heap[k]?) : w'.ownsRow base e size v n vs := by
  obtain ⟨h1, h2⟩ := h
  refine ⟨h1, ?_⟩
  rcases h2 with h2 | ⟨g, cap, cur, hv, hg, hh, r⟩
  · exact .inl h2
  · exact .inr ⟨g, cap, cur, hv, hg, (hb g (by subst hv; rfl)).trans hh, r⟩
/-- the row of the slice v, n elements of e, sz cells each: the cells vs -/
def row {w0 : World} {M : Nat → Prop} (v : Value) (e : TypeId) (sz n : Nat) (vs : List Value) : Chunk w0 M :=
  ⟨fun k => v.ownBlock = some k, fun w => w.ownsRow 0 e sz v n vs, fun h hk => own_of_block h (fun k e => hk k (.inl e)), fun h e => own_lt h _ e⟩

/-- a list of pieces with a gap -/
structure Gap {w0 : World} {M : Nat → Prop} (f : Chunk w0 M → List (Chunk w0 M)) : Prop where
  ex : ∃ l r, ∀ c, f c = l ++ c :: r
theorem Gap.head {w0 : World} {M : Nat → Prop} (r : List (Chunk w0 M)) : Gap (fun c => c :: r) := ⟨[], r, fun _ => rfl⟩
theorem Gap.tail {w0 : World} {M : Nat → Prop} {f : Chunk w0 M → List (Chunk w0 M)} (d : Chunk w0 M) (h : Gap f) : Gap (fun c => d :: f c) := by
  obtain ⟨l, r, h⟩ := h.ex
  exact ⟨d :: l, r, fun c => by rw [h]; rfl⟩
class PickB {w0 : World} {M : Nat → Prop} (g : Nat) (cs : List (Chunk w0 M)) (vs : outParam (List Value)) (t : outParam TypeId) (f : outParam (Chunk w0 M → List (Chunk w0 M))) : Prop where
  eq : cs = f (blk g vs t)
  gap : Gap f
instance {w0 : World} {M : Nat → Prop} (g : Nat) (vs : List Value) (t : TypeId) (r : List (Chunk w0 M)) : PickB g (blk g vs t :: r) vs t (fun c => c :: r) := ⟨rfl, .head r⟩
instance (priority := low) {w0 : World} {M : Nat → Prop} (g : Nat) (vs : List Value) (t : TypeId) (d : Chunk w0 M) (r : List (Chunk w0 M)) (f : Chunk w0 M → List (Chunk w0 M)) [h : PickB g r vs t f] : PickB g (d :: r) vs t (fun c => d :: f c) := ⟨by rw [h.eq], .tail d h.gap⟩
class PickR {w0 : World} {M : Nat → Prop} (v : Value) (cs : List (Chunk w0 M)) (e : outParam TypeId) (sz n : outParam Nat) (vs : outParam (List Value)) (f : outParam (Chunk w0 M → List (Chunk w0 M))) : Prop where
  eq : cs = f (row v e sz n vs)
  gap : Gap f
instance {w0 : World} {M : Nat → Prop} (v : Value) (e : TypeId) (sz n : Nat) (vs : List Value) (r : List (Chunk w0 M)) : PickR v (row v e sz n vs :: r) e sz n vs (fun c => c :: r) := ⟨rfl, .head r⟩
instance (priority := low) {w0 : World} {M : Nat → Prop} (v : Value) (e : TypeId) (sz n : Nat) (vs : List Value) (d : Chunk w0 M) (r : List (Chunk w0 M)) (f : Chunk w0 M → List (Chunk w0 M)) [h : PickR v r e sz n vs f] : PickR v (d :: r) e sz n vs (fun c => d :: f c) := ⟨by rw [h.eq], .tail d h.gap⟩
/-- the row that lies in block g -/
class PickG {w0 : World} {M : Nat → Prop} (g : Nat) (cs : List (Chunk w0 M)) (e : outParam TypeId) (sz n m cp : outParam Nat) (vs : outParam (List Value)) (f : outParam (Chunk w0 M → List (Chunk w0 M))) : Prop where
  eq : cs = f (row (.slice (some ⟨g, 0, none⟩) m cp) e sz n vs)
  gap : Gap f
instance {w0 : World} {M : Nat → Prop} (g : Nat) (e : TypeId) (sz n m cp : Nat) (vs : List Value) (r : List (Chunk w0 M)) : PickG g (row (.slice (some ⟨g, 0, none⟩) m cp) e sz n vs :: r) e sz n m cp vs (fun c => c :: r) := ⟨rfl, .head r⟩
instance (priority := low) {w0 : World} {M : Nat → Prop} (g : Nat) (e : TypeId) (sz n m cp : Nat) (vs : List Value) (d : Chunk w0 M) (r : List (Chunk w0 M)) (f : Chunk w0 M → List (Chunk w0 M)) [h : PickG g r e sz n m cp vs f] : PickG g (d :: r) e sz n m cp vs (fun c => d :: f c) := ⟨by rw [h.eq], .tail d h.gap⟩

section
variable {w0 : World} {M : Nat → Prop} {c c' : Chunk w0 M} {cs : List (Chunk w0 M)} {f : Chunk w0 M → List (Chunk w0 M)} {w w' : World}
theorem St.updG (hf : Gap f) (h : St w0 M (f c) w) (hk : Keep (fun k => ¬ c.own k) w w') (hok : c'.ok w') (hown : ∀ k, c'.own k → c.own k ∨ w.heap.size ≤ k) : St w0 M (f c') w' := by
  obtain ⟨l, r, e⟩ := hf.ex
  rw [e] at h ⊢
  exact h.updAt hk hok hown
theorem St.at_ (hf : Gap f) (h : St w0 M (f c) w) : c.ok w := by
  obtain ⟨l, r, e⟩ := hf.ex
  rw [e] at h
  exact h.mem
end

/-- two pieces as one -/
def pair {w0 : World} {M : Nat → Prop} (c d : Chunk w0 M) : Chunk w0 M :=
  ⟨fun k => c.own k ∨ d.own k, fun w => c.ok w ∧ d.ok w ∧ ∀ k, c.own k → ¬ d.own k, fun h hk => ⟨c.loc h.1 (fun k h1 => hk k (h1.imp .inl id)), d.loc h.2.1 (fun k h1 => hk k (h1.imp .inr id)), h.2.2⟩,
    fun h e => e.elim (fun e => c.lt h.1 e) (fun e => d.lt h.2.1 e)⟩
section
variable {w0 : World} {M : Nat → Prop} {c c' d : Chunk w0 M} {cs l r : List (Chunk w0 M)} {f : Chunk w0 M → List (Chunk w0 M)} {w w' : World}
theorem St.split (h : St w0 M (pair c d :: cs) w) : St w0 M (c :: d :: cs) w := by
  have hp := h.head
  have hap := List.pairwise_cons.1 h.apart
  refine ⟨h.keep, ?_, ?_, List.pairwise_cons.2 ⟨?_, List.pairwise_cons.2 ⟨fun x hx k hk => hap.1 x hx k (.inr hk), hap.2⟩⟩⟩
  · intro x hx
    rcases List.mem_cons.1 hx with rfl | hx
    · exact hp.1
    · rcases List.mem_cons.1 hx with rfl | hx
      · exact hp.2.1
      · exact h.all x (by simp [hx])
  · intro x hx k hk
    rcases List.mem_cons.1 hx with rfl | hx
    · exact h.new (pair x d) (by simp) k (.inl hk)
    · rcases List.mem_cons.1 hx with rfl | hx
      · exact h.new (pair c x) (by simp) k (.inr hk)
      · exact h.new x (by simp [hx]) k hk
  · intro x hx k hk
    rcases List.mem_cons.1 hx with rfl | hx
    · exact hp.2.2 k hk
    · exact hap.1 x hx k (.inl hk)
theorem gap_perm (hf : Gap f) (c : Chunk w0 M) : ∃ s, (f c).Perm (c :: s) ∧ ∀ d, (d :: s).Perm (f d) := by
  obtain ⟨l, r, e⟩ := hf.ex
  exact ⟨l ++ r, by rw [e]; exact List.perm_middle, fun d => by rw [e]; exact List.perm_middle.symm⟩
/-- one piece changes, another is new -/
theorem St.updAdd (hf : Gap f) (h : St w0 M (f c) w) (hk : Keep (fun k => ¬ c.own k) w w') (hok : c'.ok w') (hown : ∀ k, c'.own k → c.own k) (hd : d.ok w') (hnew : ∀ k, d.own k → w.heap.size ≤ k) : St w0 M (d :: f c') w' := by
  obtain ⟨s, h1, h2⟩ := gap_perm hf c
  have hlt : ∀ k, c.own k → k < w.heap.size := fun k hk => c.lt (h.at_ hf) hk
  have h3 : St w0 M (pair d c' :: s) w' := (h.perm h1).upd hk ⟨hd, hok, fun k h1 h2 => by have := hlt k (hown k h2); have := hnew k h1; omega⟩ (fun k h1 => h1.elim (fun h => .inr (hnew k h)) (fun h => .inl (hown k h)))
  exact h3.split.perm ((h2 c').cons d)
end
/-- from b, o on lie the cells us -/
def Cells (w : World) (b o : Nat) (us : List Value) : Prop := ∀ i u, us[i]? = some u → w.cell? ⟨b, o + i, none⟩ = some u
class Ty1 (P : Program) (t : TypeId) : Prop where
  flat : (match P.underlying t with | some (.struct _) | some (.array _ _) | none => false | _ => true) = true
  size : (P.info? t).map (·.size) = some 1
class TyN (P : Program) (t : TypeId) (n : outParam Nat) : Prop where
  agg : (match P.underlying t with | some (.struct _) | some (.array _ _) => true | _ => false) = true
  size : (P.info? t).map (·.size) = some n
class TyZ (P : Program) (t : TypeId) (zs : outParam (List Value)) : Prop where
  zero : (P.info? t).map (fun i => i.zero.map (·.cells.toList)) = some (some zs)

section
variable {P : Program} {w : World} {t : TypeId} {n b o : Nat} {us : List Value} {v : Value}
theorem run_sizeOf (h : (P.info? t).map (·.size) = some n) : (sizeOf t).run P w = .ok n w := by
  cases hi : P.info? t with
  | none => rw [hi] at h; cases h
  | some i => rw [hi] at h; injection h with h; simp [sizeOf, typeInfo, hi, h]
theorem run_isAgg1 (h : Ty1 P t) : (isAgg t).run P w = .ok false w := by
  have hf := h.flat
  cases hu : P.underlying t with
  | none => rw [hu] at hf; cases hf
  | some d => rw [hu] at hf; cases d <;> simp [isAgg, underlying, hu] at hf ⊢
theorem run_isAggN (h : TyN P t n) : (isAgg t).run P w = .ok true w := by
  have hf := h.agg
  cases hu : P.underlying t with
  | none => rw [hu] at hf; cases hf
  | some d => rw [hu] at hf; cases d <;> simp [isAgg, underlying, hu] at hf ⊢
theorem run_load1 (h : Ty1 P t) (hc : w.cell? ⟨b, o, none⟩ = some v) : (Instr.loadAt t (.pointer (some ⟨b, o, none⟩))).run P w = .ok v w := by
  simp [Instr.loadAt, Instr.sureAddr, loadVar, run_isAgg1 h, hc]
theorem run_loadCellsFrom (b o : Nat) : ∀ (us : List Value) (i : Nat) (acc : Array Value), (∀ j u, us[j]? = some u → w.cell? ⟨b, o + i + j, none⟩ = some u) → (loadCellsFrom ⟨b, o, none⟩ i us.length acc).run P w = .ok (acc ++ us.toArray) w
  | [], i, acc, _ => by simp [loadCellsFrom]
  | u :: us, i, acc, h => by
    have h0 := h 0 u rfl
    have ih := run_loadCellsFrom b o us (i + 1) (acc.push u) (fun j x hx => by
      have := h (j + 1) x hx
      rw [show o + (i + 1) + j = o + i + (j + 1) by omega]; exact this)
    simp only [Nat.add_zero] at h0
    simp only [List.length_cons, loadCellsFrom, Sem.run_bind, add_mk, run_load, h0, Result.andThen_ok, ih]
    simp
theorem run_loadN (h : TyN P t n) (hl : us.length = n) (hc : Cells w b o us) : (Instr.loadAt t (.pointer (some ⟨b, o, none⟩))).run P w = .ok (.agg us.toArray) w := by
  have := run_loadCellsFrom (P := P) (w := w) b o us 0 #[] (fun j u hu => by simpa using hc j u hu)
  subst hl
  simp [Instr.loadAt, Instr.sureAddr, loadVar, run_isAggN h, run_sizeOf h.size, loadCells, this]
end
end Go.Proofs.Ytmjmdncdmmcmaaa

/- One operation of a walk, over the state of a call. No condition. -/
namespace Go.Proofs.Ytmjmdncdmmcmaaa
open Go.RowKit
set_option linter.unusedVariables false
set_option linter.unusedSectionVars false

/-- vs with us laid over it from place o on -/
def puts (vs : List Value) : Nat → List Value → List Value
  | _, [] => vs
  | o, u :: us => puts (vs.set o u) (o + 1) us
theorem puts_app : ∀ (us ps vs : List Value), us.length = vs.length → puts (ps ++ vs) ps.length us = ps ++ us
  | [], ps, vs, h => by
    have : vs = [] := List.eq_nil_of_length_eq_zero h.symm
    subst this; rfl
  | u :: us, ps, v :: vs, h => by
    have h' : us.length = vs.length := by simpa using h
    have := puts_app us (ps ++ [u]) vs h'
    simp only [List.append_assoc, List.singleton_append, List.length_append, List.length_cons, List.length_nil, Nat.zero_add] at this
    rw [puts, List.set_append_right _ _ (Nat.le_refl _), Nat.sub_self, List.set_cons_zero]
    exact this
theorem puts_whole (us vs : List Value) (h : us.length = vs.length) : puts vs 0 us = us := by simpa using puts_app us [] vs h
theorem setCells_heap {b : Nat} {t : TypeId} : ∀ (us : List Value) (o : Nat) (w : World) (vs : List Value), w.heap[b]? = some (.cells vs.toArray t (0, 0)) →
    (w.setCells b o us).heap[b]? = some (.cells (puts vs o us).toArray t (0, 0)) ∧ Keep (fun k => ¬ k = b) w (w.setCells b o us)
  | [], o, w, vs, h => ⟨h, Keep.refl _ _⟩
  | u :: us, o, w, vs, h => by
    have h1 : (w.setCell ⟨b, o, none⟩ u).heap[b]? = some (.cells (vs.set o u).toArray t (0, 0)) := by simp [World.setCell, Array.getElem?_modify, h]
    obtain ⟨i1, i2⟩ := setCells_heap us (o + 1) _ _ h1
    have h2 : Keep (fun k => ¬ k = b) w (w.setCell ⟨b, o, none⟩ u) := ⟨rfl, rfl, rfl, by simp [World.setCell], fun k _ hk => Below.heap_setCell _ _ _ _ hk⟩
    exact ⟨i1, h2.trans i2⟩

/-- what an operand holds -/
def oval (a : Act) : Operand → Option Value
  | .tmp t => a.tmps.toList[t]?
  | .const v => some v
  | .global g => some (.pointer (some ⟨g, 0, none⟩))
  | .func f => some (.func (.func f) #[] #[])
theorem oval_eval {a : Act} {x : Operand} {v : Value} (h : oval a x = some v) : a.eval x = v := by
  cases x with
  | tmp t => simp only [oval, Array.getElem?_toList] at h; simp [Act.eval, h]
  | const u => injection h
  | global g => injection h
  | func f => injection h

/-- the row of a slice that begins at L -/
class PickL {w0 : World} {M : Nat → Prop} (L : Option Addr) (cs : List (Chunk w0 M)) (k c : outParam Nat) (e : outParam TypeId) (sz n : outParam Nat) (vs : outParam (List Value)) (f : outParam (Chunk w0 M → List (Chunk w0 M))) : Prop where
  eq : cs = f (row (.slice L k c) e sz n vs)
  gap : Gap f
instance {w0 : World} {M : Nat → Prop} (L : Option Addr) (k c : Nat) (e : TypeId) (sz n : Nat) (vs : List Value) (r : List (Chunk w0 M)) : PickL L (row (.slice L k c) e sz n vs :: r) k c e sz n vs (fun c => c :: r) := ⟨rfl, .head r⟩
instance (priority := low) {w0 : World} {M : Nat → Prop} (L : Option Addr) (k c : Nat) (e : TypeId) (sz n : Nat) (vs : List Value) (d : Chunk w0 M) (r : List (Chunk w0 M)) (f : Chunk w0 M → List (Chunk w0 M)) [h : PickL L r k c e sz n vs f] : PickL L (d :: r) k c e sz n vs (fun c => d :: f c) := ⟨by rw [h.eq], .tail d h.gap⟩
class ElemC (P : Program) (t : TypeId) (e : outParam TypeId) (sz bytes : outParam Nat) : Prop where
  h : ElemTy P t e sz bytes
/-- block g may be forgotten -/
class DropB {w0 : World} {M : Nat → Prop} (g : Nat) (cs : List (Chunk w0 M)) (vs : outParam (List Value)) (t : outParam TypeId) (ds : outParam (List (Chunk w0 M))) : Prop where
  mem : blk g vs t ∈ cs
  sub : ds.Sublist cs
instance {w0 : World} {M : Nat → Prop} (g : Nat) (vs : List Value) (t : TypeId) (r : List (Chunk w0 M)) : DropB g (blk g vs t :: r) vs t r := ⟨by simp, List.sublist_cons_self _ _⟩
instance (priority := low) {w0 : World} {M : Nat → Prop} (g : Nat) (vs : List Value) (t : TypeId) (d : Chunk w0 M) (r s : List (Chunk w0 M)) [h : DropB g r vs t s] : DropB g (d :: r) vs t (d :: s) := ⟨by simp [h.mem], h.sub.cons_cons d⟩

section
variable {P : Program} {ops : Array Oper} {Q : Exit → Act → World → Prop} {a : Act} {w w0 : World} {M : Nat → Prop} {cs ds : List (Chunk w0 M)} {f : Chunk w0 M → List (Chunk w0 M)} {rest : List Oper} {d : Option Tmp} {tt ty t e : TypeId} {pos : String} {af : Array Edge} {gd : Option (Nat × Bool)} {x y : Operand}

theorem st_run {op : Op} {v : Value} {w' : World} (hw : Region.wanted ⟨d, op, tt, pos, af, gd⟩ (yielded ops a.tmps) = true) (h : (execOp a.eval ⟨d, op, tt, pos, af, gd⟩).run P w = .ok (.value v) w')
    (k : wpList P ops Q rest (a.put d v) w') : wpList P ops Q (⟨d, op, tt, pos, af, gd⟩ :: rest) a w := by
  unfold wpList
  rw [if_pos hw]
  exact .inl (by unfold Oper.wp; rw [h]; exact k)
theorem st_skip {op : Op} {w' : World} (hw : Region.wanted ⟨d, op, tt, pos, af, gd⟩ (yielded ops a.tmps) = true) (h : (execOp a.eval ⟨d, op, tt, pos, af, gd⟩).run P w = .ok .skip w')
    (k : wpList P ops Q rest (a.put d undef) w') : wpList P ops Q (⟨d, op, tt, pos, af, gd⟩ :: rest) a w := by
  unfold wpList
  rw [if_pos hw]
  exact .inl (by unfold Oper.wp; rw [h]; exact k)

/-! loads -/
theorem st_load1 (h1 : Ty1 P ty) {b j : Nat} {v : Value} (hw : Region.wanted ⟨d, .load ty x, tt, pos, af, gd⟩ (yielded ops a.tmps) = true) (hx' : oval a x = some (.pointer (some ⟨b, j, none⟩))) (hc : w.cell? ⟨b, j, none⟩ = some v)
    (k : wpList P ops Q rest (a.put d v) w) : wpList P ops Q (⟨d, .load ty x, tt, pos, af, gd⟩ :: rest) a w :=
  st_run hw (by simp only [execOp, (oval_eval hx'), Sem.run_bind, run_load1 h1 hc, Result.andThen_ok, Sem.run_pure]) k
theorem st_loadN {n : Nat} (h1 : TyN P ty n) {b j : Nat} {us : List Value} (hw : Region.wanted ⟨d, .load ty x, tt, pos, af, gd⟩ (yielded ops a.tmps) = true) (hx' : oval a x = some (.pointer (some ⟨b, j, none⟩))) (hl : us.length = n) (hc : Cells w b j us)
    (k : wpList P ops Q rest (a.put d (.agg us.toArray)) w) : wpList P ops Q (⟨d, .load ty x, tt, pos, af, gd⟩ :: rest) a w :=
  st_run hw (by simp only [execOp, (oval_eval hx'), Sem.run_bind, run_loadN h1 hl hc, Result.andThen_ok, Sem.run_pure]) k
/-- a cell of a block -/
theorem st_ld (hS : St w0 M cs w) (hw : Region.wanted ⟨d, .load ty x, tt, pos, af, gd⟩ (yielded ops a.tmps) = true) [h1 : Ty1 P ty] {g j : Nat} (hx' : oval a x = some (.pointer (some ⟨g, j, none⟩))) {vs : List Value} [hp : PickB g cs vs t f] {v : Value} (hj : vs[j]? = some v)
    (k : wpList P ops Q rest (a.put d v) w) : wpList P ops Q (⟨d, .load ty x, tt, pos, af, gd⟩ :: rest) a w :=
  st_load1 h1 hw hx' (cell_of_heap ((hp.eq ▸ hS : St w0 M (f (blk g vs t)) w).at_ hp.gap : w.heap[g]? = _) (by simpa using hj)) k
/-- a whole block -/
theorem st_lds {n : Nat} (hS : St w0 M cs w) (hw : Region.wanted ⟨d, .load ty x, tt, pos, af, gd⟩ (yielded ops a.tmps) = true) [h1 : TyN P ty n] {g : Nat} (hx' : oval a x = some (.pointer (some ⟨g, 0, none⟩))) {vs : List Value} [hp : PickB g cs vs t f] (hl : vs.length = n)
    (k : wpList P ops Q rest (a.put d (.agg vs.toArray)) w) : wpList P ops Q (⟨d, .load ty x, tt, pos, af, gd⟩ :: rest) a w :=
  st_loadN h1 hw hx' hl (fun i u hu => by rw [Nat.zero_add]; exact cell_of_heap ((hp.eq ▸ hS : St w0 M (f (blk g vs t)) w).at_ hp.gap : w.heap[g]? = _) (by simpa using hu)) k
/-- some cells of a block -/
theorem st_ldp {n : Nat} (hS : St w0 M cs w) (hw : Region.wanted ⟨d, .load ty x, tt, pos, af, gd⟩ (yielded ops a.tmps) = true) [h1 : TyN P ty n] {g j : Nat} (hx' : oval a x = some (.pointer (some ⟨g, j, none⟩))) {vs : List Value} [hp : PickB g cs vs t f] {us : List Value} (hu : (vs.drop j).take n = us) (hl : us.length = n)
    (k : wpList P ops Q rest (a.put d (.agg us.toArray)) w) : wpList P ops Q (⟨d, .load ty x, tt, pos, af, gd⟩ :: rest) a w :=
  st_loadN h1 hw hx' hl (fun i u hi => cell_of_heap ((hp.eq ▸ hS : St w0 M (f (blk g vs t)) w).at_ hp.gap : w.heap[g]? = _) (by
    rw [← hu, List.getElem?_take] at hi
    split at hi
    · simpa using hi
    · cases hi)) k
/-- a cell of a row -/
theorem st_ldr (hS : St w0 M cs w) (hw : Region.wanted ⟨d, .load ty x, tt, pos, af, gd⟩ (yielded ops a.tmps) = true) [h1 : Ty1 P ty] {g j : Nat} (hx' : oval a x = some (.pointer (some ⟨g, j, none⟩))) {vs : List Value} {sz n m cp : Nat} [hp : PickG g cs e sz n m cp vs f] {v : Value} (hj : vs[j]? = some v)
    (k : wpList P ops Q rest (a.put d v) w) : wpList P ops Q (⟨d, .load ty x, tt, pos, af, gd⟩ :: rest) a w := by
  have hx := oval_eval hx'
  have ho : w.ownsRow 0 e sz (.slice (some ⟨g, 0, none⟩) m cp) n vs := (hp.eq ▸ hS : St w0 M (f (row _ e sz n vs)) w).at_ hp.gap
  have h2 := ho.cells (g := g) rfl j v hj
  rw [add_mk, Nat.zero_add] at h2
  exact st_load1 h1 hw hx' h2 k
/-- an old cell -/
theorem st_ldo (hS : St w0 M cs w) (hw : Region.wanted ⟨d, .load ty x, tt, pos, af, gd⟩ (yielded ops a.tmps) = true) [h1 : Ty1 P ty] {b j : Nat} (hx' : oval a x = some (.pointer (some ⟨b, j, none⟩))) {v : Value} (hc : w0.cell? ⟨b, j, none⟩ = some v) (hm : ¬ M b)
    (k : wpList P ops Q rest (a.put d v) w) : wpList P ops Q (⟨d, .load ty x, tt, pos, af, gd⟩ :: rest) a w := st_load1 h1 hw hx' (hS.oldCell hc hm) k
theorem st_ldos {n : Nat} (hS : St w0 M cs w) (hw : Region.wanted ⟨d, .load ty x, tt, pos, af, gd⟩ (yielded ops a.tmps) = true) [h1 : TyN P ty n] {b j : Nat} (hx' : oval a x = some (.pointer (some ⟨b, j, none⟩))) {us : List Value} (hc : Cells w0 b j us) (hl : us.length = n) (hm : ¬ M b)
    (k : wpList P ops Q rest (a.put d (.agg us.toArray)) w) : wpList P ops Q (⟨d, .load ty x, tt, pos, af, gd⟩ :: rest) a w := st_loadN h1 hw hx' hl (fun i u hu => hS.oldCell (hc i u hu) hm) k

/-! stores -/
theorem run_storeAt {v : Value} {us vs : List Value} {g j : Nat} (hz : (P.info? ty).map (·.size) = some us.length) (hv : v.cells = us.toArray) (h1 : ∀ u ∈ us, u.oneCell' = true) (hb : w.heap[g]? = some (.cells vs.toArray t (0, 0))) (hj : j + us.length ≤ vs.length) :
    (Instr.storeAt ty (.pointer (some ⟨g, j, none⟩)) v).run P w = .ok () (w.setCells g j us) := by
  have := run_storeCells_cells (P := P) g j us 0 w (fun i hi => by
      rw [cell_of_heap hb (u := vs[j + 0 + i]'(by omega)) (by simp)]; rfl) (fun i hi => frozen_of_heap hb _) h1
  simp only [Instr.storeAt, Instr.sureAddr, storeVar, hv, Sem.run_bind, Sem.run_pure, Result.andThen_ok, run_sizeOf hz, List.size_toArray, ne_eq, not_true, if_false, Nat.add_zero] at this ⊢
  exact this
theorem st_storesG (hS : St w0 M cs w) (hw : Region.wanted ⟨d, .store ty x y, tt, pos, af, gd⟩ (yielded ops a.tmps) = true) {us : List Value} {g j : Nat} (hx' : oval a x = some (.pointer (some ⟨g, j, none⟩))) {v : Value} (hy' : oval a y = some v) (hv : v.cells = us.toArray) (hz : (P.info? ty).map (·.size) = some us.length) (h1 : ∀ u ∈ us, u.oneCell' = true)
    {vs : List Value} [hp : PickB g cs vs t f] (hj : j + us.length ≤ vs.length) (k : ∀ w', St w0 M (f (blk g (puts vs j us) t)) w' → wpList P ops Q rest (a.put d undef) w') : wpList P ops Q (⟨d, .store ty x y, tt, pos, af, gd⟩ :: rest) a w := by
  have hx := oval_eval hx'
  have hy := oval_eval hy'
  have hS' : St w0 M (f (blk g vs t)) w := hp.eq ▸ hS
  have hb : w.heap[g]? = _ := hS'.at_ hp.gap
  have hh := setCells_heap us j w vs hb
  refine st_skip hw (w' := w.setCells g j us) (by simp only [execOp, hx, hy, Sem.run_bind, run_storeAt hz hv h1 hb hj, Result.andThen_ok, Sem.run_pure]) (k _ ?_)
  exact hS'.updG hp.gap hh.2 hh.1 (fun k e => .inl e)
theorem st_stores {n : Nat} (hS : St w0 M cs w) (hw : Region.wanted ⟨d, .store ty x y, tt, pos, af, gd⟩ (yielded ops a.tmps) = true) [hT : TyN P ty n] {us : List Value} {g j : Nat} (hx' : oval a x = some (.pointer (some ⟨g, j, none⟩))) (hy' : oval a y = some (.agg us.toArray)) (hz : us.length = n) (h1 : ∀ u ∈ us, u.oneCell' = true)
    {vs : List Value} [hp : PickB g cs vs t f] (hj : j + us.length ≤ vs.length) (k : ∀ w', St w0 M (f (blk g (puts vs j us) t)) w' → wpList P ops Q rest (a.put d undef) w') : wpList P ops Q (⟨d, .store ty x y, tt, pos, af, gd⟩ :: rest) a w :=
  st_storesG hS hw hx' hy' rfl (hz ▸ hT.size) h1 hj k
/-- a store over a whole block -/
theorem st_storeW {n : Nat} (hS : St w0 M cs w) (hw : Region.wanted ⟨d, .store ty x y, tt, pos, af, gd⟩ (yielded ops a.tmps) = true) [hT : TyN P ty n] {us : List Value} {g : Nat} (hx' : oval a x = some (.pointer (some ⟨g, 0, none⟩))) (hy' : oval a y = some (.agg us.toArray)) (hz : us.length = n) (h1 : ∀ u ∈ us, u.oneCell' = true)
    {vs : List Value} [hp : PickB g cs vs t f] (hj : us.length = vs.length) (k : ∀ w', St w0 M (f (blk g us t)) w' → wpList P ops Q rest (a.put d undef) w') : wpList P ops Q (⟨d, .store ty x y, tt, pos, af, gd⟩ :: rest) a w :=
  st_storesG hS hw hx' hy' rfl (hz ▸ hT.size) h1 (by omega) (by rw [puts_whole us vs hj]; exact k)
/-- a store of one cell into a block -/
theorem st_st (hS : St w0 M cs w) (hw : Region.wanted ⟨d, .store ty x y, tt, pos, af, gd⟩ (yielded ops a.tmps) = true) [h1 : Ty1 P ty] {g j : Nat} (hx' : oval a x = some (.pointer (some ⟨g, j, none⟩))) {v : Value} (hy' : oval a y = some (v)) (h1 : v.oneCell' = true)
    {vs : List Value} [hp : PickB g cs vs t f] (hj : j < vs.length) (k : ∀ w', St w0 M (f (blk g (vs.set j v) t)) w' → wpList P ops Q rest (a.put d undef) w') : wpList P ops Q (⟨d, .store ty x y, tt, pos, af, gd⟩ :: rest) a w :=
  st_storesG hS hw (us := [v]) hx' hy' (by cases v <;> first | rfl | cases h1) (Ty1.size) (by simpa using h1) (by simp; omega) k
/-- a store of one cell into a row -/
theorem st_str (hS : St w0 M cs w) (hw : Region.wanted ⟨d, .store ty x y, tt, pos, af, gd⟩ (yielded ops a.tmps) = true) [h1 : Ty1 P ty] {g j : Nat} (hx' : oval a x = some (.pointer (some ⟨g, j, none⟩))) {v : Value} (hy' : oval a y = some (v)) (h1 : v.oneCell' = true)
    {vs : List Value} {sz n m cp : Nat} [hp : PickG g cs e sz n m cp vs f] (hj : j < vs.length) (k : ∀ w', St w0 M (f (row (.slice (some ⟨g, 0, none⟩) m cp) e sz n (vs.set j v))) w' → wpList P ops Q rest (a.put d undef) w') : wpList P ops Q (⟨d, .store ty x y, tt, pos, af, gd⟩ :: rest) a w := by
  have hx := oval_eval hx'
  have hy := oval_eval hy'
  have hS' : St w0 M (f (row (.slice (some ⟨g, 0, none⟩) m cp) e sz n vs)) w := hp.eq ▸ hS
  have ho : w.ownsRow 0 e sz (.slice (some ⟨g, 0, none⟩) m cp) n vs := hS'.at_ hp.gap
  have hmn : m = n := by
    rcases ho.2 with ⟨hv, _⟩ | ⟨g', cap, cur, hv, _⟩
    · cases hv
    · injection hv
  subst hmn
  obtain ⟨cur, hcur⟩ := own_heap ho
  have hl : vs.length = m * sz := ho.1
  have hc := (ho.cellAt j (by omega)).trans (List.getElem?_eq_getElem hj)
  have hrun : (Instr.storeAt ty (.pointer (some ⟨g, j, none⟩)) v).run P w = .ok () (w.setCell ⟨g, j, none⟩ v) := by
    have hcv : v.cells = #[v] := by cases v <;> first | rfl | cases h1
    simp [Instr.storeAt, Instr.sureAddr, storeVar, hcv, run_sizeOf (Ty1.size (P := P) (t := ty)), storeCells, add_mk, run_store P w _ v _ h1, hc, ho.frozenAt j]
  refine st_skip hw (w' := w.setCell ⟨g, j, none⟩ v) (by simp only [execOp, hx, hy, Sem.run_bind, hrun, Result.andThen_ok, Sem.run_pure]) (k _ ?_)
  refine hS'.updG hp.gap ⟨rfl, rfl, rfl, by simp [World.setCell], fun k _ hk => Below.heap_setCell _ _ _ _ (fun e => hk (by subst e; rfl))⟩ (ho.stored j v).1 (fun k e => .inl e)

/-! new memory -/
theorem st_newP {op : Op} {us : List Value} (hS : St w0 M cs w) (hw : Region.wanted ⟨d, op, tt, pos, af, gd⟩ (yielded ops a.tmps) = true)
    (h : (execOp a.eval ⟨d, op, tt, pos, af, gd⟩).run P w = .ok (.value (.pointer (some ⟨w.heap.size, 0, none⟩))) (w.alloc (.cells us.toArray e)))
    (k : ∀ g w', St w0 M (blk g us e :: cs) w' → wpList P ops Q rest (a.put d (.pointer (some ⟨g, 0, none⟩))) w') : wpList P ops Q (⟨d, op, tt, pos, af, gd⟩ :: rest) a w :=
  st_run hw h (k w.heap.size _ (hS.add ((Ext.refl' w).alloc' _) (heap_new w _) (fun k e => Nat.le_of_eq e.symm)))
theorem st_newS {op : Op} {us : List Value} {n m : Nat} (hS : St w0 M cs w) (hw : Region.wanted ⟨d, op, tt, pos, af, gd⟩ (yielded ops a.tmps) = true)
    (h : (execOp a.eval ⟨d, op, tt, pos, af, gd⟩).run P w = .ok (.value (.slice (some ⟨w.heap.size, 0, none⟩) n m)) (w.alloc (.cells us.toArray e)))
    (k : ∀ g w', St w0 M (blk g us e :: cs) w' → wpList P ops Q rest (a.put d (.slice (some ⟨g, 0, none⟩) n m)) w') : wpList P ops Q (⟨d, op, tt, pos, af, gd⟩ :: rest) a w :=
  st_run hw h (k w.heap.size _ (hS.add ((Ext.refl' w).alloc' _) (heap_new w _) (fun k e => Nat.le_of_eq e.symm)))
theorem st_alloc (hS : St w0 M cs w) (hw : Region.wanted ⟨d, .alloc ty, tt, pos, af, gd⟩ (yielded ops a.tmps) = true) {us : List Value} [hz : TyZ P ty us]
    (k : ∀ g w', St w0 M (blk g us ty :: cs) w' → wpList P ops Q rest (a.put d (.pointer (some ⟨g, 0, none⟩))) w') : wpList P ops Q (⟨d, .alloc ty, tt, pos, af, gd⟩ :: rest) a w := by
  refine st_newP hS hw ?_ k
  have h := hz.zero
  cases hi : P.info? ty with
  | none => rw [hi] at h; cases h
  | some i =>
    rw [hi] at h
    cases hzz : i.zero with
    | none => simp [hzz] at h
    | some z =>
      simp [hzz] at h
      have hzc : z.cells = us.toArray := by rw [← h]
      simp [execOp, Instr.alloc, zeroValue, typeInfo, hi, hzz, newVar, newRow, hzc]
theorem st_box (hS : St w0 M cs w) (hw : Region.wanted ⟨d, .box ty x, tt, pos, af, gd⟩ (yielded ops a.tmps) = true) {us : List Value} (hx' : oval a x = some (.agg us.toArray))
    (k : ∀ g w', St w0 M (blk g us ty :: cs) w' → wpList P ops Q rest (a.put d (.pointer (some ⟨g, 0, none⟩))) w') : wpList P ops Q (⟨d, .box ty x, tt, pos, af, gd⟩ :: rest) a w := by
  have hx : (a.eval x).cells = us.toArray := by rw [oval_eval hx']; rfl
  refine st_newP hS hw ?_ k
  simp [execOp, Instr.box, newVar, newRow, hx]

/-- a slice literal, every place written -/
theorem st_bsG {n sz bytes : Nat} {parts : Array (Nat × Operand)} {xs : List Value} [hT : ElemC P ty e sz bytes] (hS : St w0 M cs w) (hw : Region.wanted ⟨d, .buildSlice ty n parts, tt, pos, af, gd⟩ (yielded ops a.tmps) = true)
    (hp : (parts.map fun (i, x) => (i, a.eval x)).toList = (xs.zipIdx 0).map fun x => (x.2, x.1)) (hn : xs.length = n) (h0 : 0 < n) (hmax : n * sz ≤ 2 ^ 24) (hc : ∀ v ∈ xs, v.cells.size = sz)
    (k : ∀ g w', St w0 M (blk g (xs.flatMap fun v => v.cells.toList) e :: cs) w' → wpList P ops Q rest (a.put d (.slice (some ⟨g, 0, none⟩) n n)) w') : wpList P ops Q (⟨d, .buildSlice ty n parts, tt, pos, af, gd⟩ :: rest) a w := by
  obtain ⟨i, z, hi, hz, hsz, _, hzs⟩ := hT.h.hi
  refine st_newS hS hw ?_ k
  have hpos := Nat.mul_pos h0 hT.h.hsz
  have := run_buildSlice (P := P) w ty e n (parts.map fun (i, x) => (i, a.eval x)) (xs.flatMap fun v => v.cells.toList).toArray i z hT.h.ht hi hz (by rw [hsz]; omega) (by rw [hsz]; omega) (by
    rw [hp, hsz]
    exact Great.fill_whole hT.h.hsz xs _ hc (by simp [hn]))
  simp only [execOp, Sem.run_bind, this, Result.andThen_ok, Sem.run_pure]
theorem st_bs1 {sz bytes : Nat} [hT : ElemC P ty e sz bytes] (hS : St w0 M cs w) (hw : Region.wanted ⟨d, .buildSlice ty 1 #[(0, x)], tt, pos, af, gd⟩ (yielded ops a.tmps) = true) {v : Value} (hx' : oval a x = some v) (h1 : v.oneCell' = true) (hz : sz = 1)
    (k : ∀ g w', St w0 M (blk g [v] e :: cs) w' → wpList P ops Q rest (a.put d (.slice (some ⟨g, 0, none⟩) 1 1)) w') : wpList P ops Q (⟨d, .buildSlice ty 1 #[(0, x)], tt, pos, af, gd⟩ :: rest) a w := by
  have hx := oval_eval hx'
  have hv : v.cells = #[v] := by cases v <;> first | rfl | cases h1
  exact st_bsG (xs := [v]) hS hw (by simp [hx]) rfl (by omega) (by rw [hz]; decide) (by simp [hv, hz]) (by simpa [hv] using k)
theorem st_bs1A {sz bytes : Nat} [hT : ElemC P ty e sz bytes] (hS : St w0 M cs w) (hw : Region.wanted ⟨d, .buildSlice ty 1 #[(0, x)], tt, pos, af, gd⟩ (yielded ops a.tmps) = true) {us : List Value} (hx' : oval a x = some (.agg us.toArray)) (hl : us.length = sz) (hz : sz ≤ 1000)
    (k : ∀ g w', St w0 M (blk g us e :: cs) w' → wpList P ops Q rest (a.put d (.slice (some ⟨g, 0, none⟩) 1 1)) w') : wpList P ops Q (⟨d, .buildSlice ty 1 #[(0, x)], tt, pos, af, gd⟩ :: rest) a w := by
  have hx := oval_eval hx'
  exact st_bsG (xs := [.agg us.toArray]) hS hw (by simp [hx]) rfl (by omega) (by omega) (by simp [Value.cells, hl]) (by simpa [Value.cells] using k)
theorem st_bs2 {sz bytes : Nat} [hT : ElemC P ty e sz bytes] (hS : St w0 M cs w) (hw : Region.wanted ⟨d, .buildSlice ty 2 #[(0, x), (1, y)], tt, pos, af, gd⟩ (yielded ops a.tmps) = true) {v u : Value} (hx' : oval a x = some v) (hy' : oval a y = some u) (h1 : v.oneCell' = true) (h2 : u.oneCell' = true) (hz : sz = 1)
    (k : ∀ g w', St w0 M (blk g [v, u] e :: cs) w' → wpList P ops Q rest (a.put d (.slice (some ⟨g, 0, none⟩) 2 2)) w') : wpList P ops Q (⟨d, .buildSlice ty 2 #[(0, x), (1, y)], tt, pos, af, gd⟩ :: rest) a w := by
  have hx := oval_eval hx'
  have hy := oval_eval hy'
  have hv : v.cells = #[v] := by cases v <;> first | rfl | cases h1
  have hu : u.cells = #[u] := by cases u <;> first | rfl | cases h2
  exact st_bsG (xs := [v, u]) hS hw (by simp [hx, hy]) rfl (by omega) (by rw [hz]; decide) (by simp [hv, hu, hz]) (by simpa [hv, hu] using k)
theorem st_bs2A {sz bytes : Nat} [hT : ElemC P ty e sz bytes] (hS : St w0 M cs w) (hw : Region.wanted ⟨d, .buildSlice ty 2 #[(0, x), (1, y)], tt, pos, af, gd⟩ (yielded ops a.tmps) = true) {us vs : List Value} (hx' : oval a x = some (.agg us.toArray)) (hy' : oval a y = some (.agg vs.toArray)) (hl : us.length = sz) (hl2 : vs.length = sz) (hz : sz ≤ 1000)
    (k : ∀ g w', St w0 M (blk g (us ++ vs) e :: cs) w' → wpList P ops Q rest (a.put d (.slice (some ⟨g, 0, none⟩) 2 2)) w') : wpList P ops Q (⟨d, .buildSlice ty 2 #[(0, x), (1, y)], tt, pos, af, gd⟩ :: rest) a w := by
  have hx := oval_eval hx'
  have hy := oval_eval hy'
  exact st_bsG (xs := [.agg us.toArray, .agg vs.toArray]) hS hw (by simp [hx, hy]) rfl (by omega) (by omega) (by simp [Value.cells, hl, hl2]) (by simpa [Value.cells] using k)

/-! append -/
theorem grown_keep {w w' : World} {v : Value} (h : w.grownBy w' v.ownBlock) : Keep (fun k => ¬ v.ownBlock = some k) w w' := ⟨h.os, h.tape, h.output, h.size, fun k hk hn => h.block k hk (fun e => hn e.symm)⟩
theorem st_appG {sz bytes n m c : Nat} [hT : ElemC P t e sz bytes] (hS : St w0 M cs w) (hw : Region.wanted ⟨d, .call { callee := .builtin .append, args := #[x, y], argTypes := #[t, t] }, tt, pos, af, gd⟩ (yielded ops a.tmps) = true)
    {v : Value} (hx' : oval a x = some (v)) {A : Option Addr} (hy' : oval a y = some (.slice A m c)) {vs : List Value} [hp : PickR v cs e sz n vs f] {news : List Value} {S : Nat → Prop} (hr : RV S w A news) (hl : news.length = m * sz) (h1 : ∀ u ∈ news, u.oneCell' = true) (hb : (n + m) * bytes ≤ 140737488355328)
    (k : ∀ L c' w', n + m ≤ c' → c' ≤ 9223372036854775807 → St w0 M (f (row (.slice L (n + m) c') e sz (n + m) (vs ++ news))) w' → wpList P ops Q rest (a.put d (.slice L (n + m) c')) w') :
    wpList P ops Q (⟨d, .call { callee := .builtin .append, args := #[x, y], argTypes := #[t, t] }, tt, pos, af, gd⟩ :: rest) a w := by
  have hx := oval_eval hx'
  have hy := oval_eval hy'
  have hS' : St w0 M (f (row v e sz n vs)) w := hp.eq ▸ hS
  have ho : w.ownsRow 0 e sz v n vs := hS'.at_ hp.gap
  obtain ⟨v', w', hrun, h2, h3, h4⟩ := run_app hT.h w 0 tt v n vs ho A m c news hl hr h1 hb (Nat.zero_le _)
  obtain ⟨L, c', rfl, hc1, hc2⟩ := own_form h2
  refine st_run hw (v := .slice L (n + m) c') (w' := w') ?_ (k L c' w' hc1 hc2 ?_)
  · simp only [execOp, resolve, invoke, builtin, Sem.run_bind, Sem.run_pure, Result.andThen_ok, List.map_toArray, List.map_cons, List.map_nil, hx, hy, hrun]
  · exact hS'.updG hp.gap (grown_keep h3) h2 (fun k (e : Value.ownBlock _ = _) => by
      rcases h4 with h4 | h4
      · exact .inl (h4.symm.trans e)
      · rw [h4] at e; injection e with e; exact .inr (Nat.le_of_eq e))
/-- append onto nil -/
theorem st_appN {sz bytes m c : Nat} [hT : ElemC P t e sz bytes] (hS : St w0 M cs w) (hw : Region.wanted ⟨d, .call { callee := .builtin .append, args := #[x, y], argTypes := #[t, t] }, tt, pos, af, gd⟩ (yielded ops a.tmps) = true)
    (hx' : oval a x = some (.slice none 0 0)) {A : Option Addr} (hy' : oval a y = some (.slice A m c)) {news : List Value} {S : Nat → Prop} (hr : RV S w A news) (hl : news.length = m * sz) (h1 : ∀ u ∈ news, u.oneCell' = true) (hb : m * bytes ≤ 140737488355328)
    (k : ∀ L c' w', m ≤ c' → c' ≤ 9223372036854775807 → St w0 M (row (.slice L m c') e sz m news :: cs) w' → wpList P ops Q rest (a.put d (.slice L m c')) w') :
    wpList P ops Q (⟨d, .call { callee := .builtin .append, args := #[x, y], argTypes := #[t, t] }, tt, pos, af, gd⟩ :: rest) a w := by
  have hx := oval_eval hx'
  have hy := oval_eval hy'
  have hS2 : St w0 M (row (.slice none 0 0) e sz 0 [] :: cs) w := hS.emp.upd (Keep.refl _ _) (ownsRow_nil w 0 e sz) (fun k e => by cases e)
  refine st_appG (f := fun c => c :: cs) (n := 0) (vs := []) hS2 hw hx' hy' hr hl h1 (by simpa using hb) ?_
  rw [Nat.zero_add, List.nil_append]
  exact k
theorem RV.ofBlk {g : Nat} {us : List Value} (h : w.heap[g]? = some (.cells us.toArray t (0, 0))) : RV All w (some ⟨g, 0, none⟩) us := fun j u hu => ⟨g, 0, rfl, trivial, by rw [Nat.zero_add]; exact cell_of_heap h (by simpa using hu)⟩
theorem RV.ofRow {v : Value} {sz n : Nat} {us : List Value} {A : Option Addr} {k c : Nat} (h : w.ownsRow 0 e sz v n us) (hv : v = .slice A k c) : RV All w A us := by
  subst hv
  have hk : k = n := by
    rcases h.2 with ⟨hv, hn⟩ | ⟨g', cap, cur, hv, _⟩
    · injection hv with _ h1 _; omega
    · injection hv
  subst hk
  exact RV.ofOwn' h (fun _ _ => trivial)
/-- append of what was just laid out -/
theorem st_app {sz bytes n m c g : Nat} [hT : ElemC P t e sz bytes] (hS : St w0 M cs w) (hw : Region.wanted ⟨d, .call { callee := .builtin .append, args := #[x, y], argTypes := #[t, t] }, tt, pos, af, gd⟩ (yielded ops a.tmps) = true)
    {v : Value} (hx' : oval a x = some (v)) (hy' : oval a y = some (.slice (some ⟨g, 0, none⟩) m c)) {news : List Value} {t' : TypeId} [hd : DropB g cs news t' ds] {vs : List Value} [hp : PickR v ds e sz n vs f] (hl : news.length = m * sz) (h1 : ∀ u ∈ news, u.oneCell' = true) (hb : (n + m) * bytes ≤ 140737488355328)
    (k : ∀ L c' w', n + m ≤ c' → c' ≤ 9223372036854775807 → St w0 M (f (row (.slice L (n + m) c') e sz (n + m) (vs ++ news))) w' → wpList P ops Q rest (a.put d (.slice L (n + m) c')) w') :
    wpList P ops Q (⟨d, .call { callee := .builtin .append, args := #[x, y], argTypes := #[t, t] }, tt, pos, af, gd⟩ :: rest) a w :=
  st_appG (hS.sub hd.sub) hw hx' hy' (RV.ofBlk (hS.all _ hd.mem : w.heap[g]? = _)) hl h1 hb k
theorem st_app0 {sz bytes m c g : Nat} [hT : ElemC P t e sz bytes] (hS : St w0 M cs w) (hw : Region.wanted ⟨d, .call { callee := .builtin .append, args := #[x, y], argTypes := #[t, t] }, tt, pos, af, gd⟩ (yielded ops a.tmps) = true)
    (hx' : oval a x = some (.slice none 0 0)) (hy' : oval a y = some (.slice (some ⟨g, 0, none⟩) m c)) {news : List Value} {t' : TypeId} [hd : DropB g cs news t' ds] (hl : news.length = m * sz) (h1 : ∀ u ∈ news, u.oneCell' = true) (hb : m * bytes ≤ 140737488355328)
    (k : ∀ L c' w', m ≤ c' → c' ≤ 9223372036854775807 → St w0 M (row (.slice L m c') e sz m news :: ds) w' → wpList P ops Q rest (a.put d (.slice L m c')) w') :
    wpList P ops Q (⟨d, .call { callee := .builtin .append, args := #[x, y], argTypes := #[t, t] }, tt, pos, af, gd⟩ :: rest) a w :=
  st_appN (hS.sub hd.sub) hw hx' hy' (RV.ofBlk (hS.all _ hd.mem : w.heap[g]? = _)) hl h1 hb k
end

/-! an empty literal, make -/
section
variable {P : Program} {ops : Array Oper} {Q : Exit → Act → World → Prop} {a : Act} {w w0 : World} {M : Nat → Prop} {cs ds : List (Chunk w0 M)} {f : Chunk w0 M → List (Chunk w0 M)} {rest : List Oper} {d : Option Tmp} {tt ty t e : TypeId} {pos : String} {af : Array Edge} {gd : Option (Nat × Bool)} {x y : Operand}
theorem st_bs0 {sz bytes : Nat} [hT : ElemC P ty e sz bytes] (hS : St w0 M cs w) (hw : Region.wanted ⟨d, .buildSlice ty 0 #[], tt, pos, af, gd⟩ (yielded ops a.tmps) = true)
    (k : ∀ g w', St w0 M (row (.slice (some ⟨g, 0, none⟩) 0 0) e sz 0 [] :: cs) w' → wpList P ops Q rest (a.put d (.slice (some ⟨g, 0, none⟩) 0 0)) w') : wpList P ops Q (⟨d, .buildSlice ty 0 #[], tt, pos, af, gd⟩ :: rest) a w := by
  obtain ⟨i, z, hi, hz, hsz, _, hzs⟩ := hT.h.hi
  have hrun : (execOp a.eval ⟨d, .buildSlice ty 0 #[], tt, pos, af, gd⟩).run P w = .ok (.value (.slice (some ⟨w.heap.size, 0, none⟩) 0 0)) (w.alloc (.cells #[] e)) := by
    simp [execOp, Instr.buildSlice, run_underlying hT.h.ht, sizeOf, typeInfo, hi, Instr.fill, newRow]
    congr 2
    apply Array.ext <;> simp
  refine st_run hw hrun (k w.heap.size _ (hS.add ((Ext.refl' w).alloc' _) ⟨by simp, .inr ⟨w.heap.size, 0, #[], rfl, Nat.zero_le _, heap_new w _, Nat.le_refl _, by unfold maxLen; omega, by simp, by simp⟩⟩ (fun k (e : some w.heap.size = some k) => by injection e with e; omega)))
theorem st_mkG {sz bytes n : Nat} {z1 z2 : Int} [hT : ElemC P ty e sz bytes] (hS : St w0 M cs w) (hw : Region.wanted ⟨d, .makeSlice ty x y, tt, pos, af, gd⟩ (yielded ops a.tmps) = true)
    (hx' : oval a x = some (.int .i64 z1)) (hy' : oval a y = some (.int .i64 z2)) (h1 : z1 = n) (h2 : z2 = n) (hb : bytes * n ≤ 140737488355328)
    (k : ∀ g w' (z : Value), (P.info? e).map (·.zero) = some (some z) → St w0 M (row (.slice (some ⟨g, 0, none⟩) n n) e sz n (madeCells z.cells (n * sz)).toList :: cs) w' → wpList P ops Q rest (a.put d (.slice (some ⟨g, 0, none⟩) n n)) w') : wpList P ops Q (⟨d, .makeSlice ty x y, tt, pos, af, gd⟩ :: rest) a w := by
  obtain ⟨i, z, hi, hz, hsz, hby, hzs⟩ := hT.h.hi
  subst h1 h2
  have hn : n ≤ maxLen := by
    have : n ≤ bytes * n := Nat.le_mul_of_pos_left _ hT.h.hby
    unfold maxLen; omega
  obtain ⟨w', hr, ho, hg⟩ := run_make_full (P := P) w w.heap.size ty e i z sz hT.h.ht hi hz hsz .i64 .i64 n (by rw [hby]; omega) hn (Nat.le_refl _)
  have hrun : (execOp a.eval ⟨d, .makeSlice ty x y, tt, pos, af, gd⟩).run P w = .ok (.value (.slice (some ⟨w.heap.size, 0, none⟩) n n)) w' := by
    simp only [execOp, oval_eval hx', oval_eval hy', Sem.run_bind, hr, Result.andThen_ok, Sem.run_pure]
  have hx : Ext w w' := ⟨hg.os, hg.tape, hg.output, hg.size, fun k hk => hg.block k hk (by simp)⟩
  exact st_run hw hrun (k w.heap.size _ z (by simp [hi, hz]) (hS.add hx (own_base ho (Nat.zero_le _)) (fun k e => own_block ho k e)))
theorem made1 {z u : Value} (h : z.cells = #[u]) (n : Nat) : (madeCells z.cells n).toList = List.replicate n u := by
  rw [h]
  apply List.ext_getElem
  · simp [madeCells]
  · intro i h1 h2
    simp [madeCells, Nat.mod_one]
end

/-! rows of numbers -/
/-- the row of a slice of numbers -/
abbrev irow {w0 : World} {M : Nat → Prop} (e : TypeId) (L : Option Addr) (c : Nat) (ys : List Int) : Chunk w0 M := row (.slice L ys.length c) e 1 ys.length (ints ys)
section
variable {P : Program} {ops : Array Oper} {Q : Exit → Act → World → Prop} {a : Act} {w w0 : World} {M : Nat → Prop} {cs ds : List (Chunk w0 M)} {f : Chunk w0 M → List (Chunk w0 M)} {rest : List Oper} {d : Option Tmp} {tt ty t e : TypeId} {pos : String} {af : Array Edge} {gd : Option (Nat × Bool)} {x y : Operand}
theorem row_snoc {L : Option Addr} {c : Nat} {ys : List Int} {z : Int} : (row (.slice L (ys.length + 1) c) e 1 (ys.length + 1) (ints ys ++ [.int .i64 z]) : Chunk w0 M) = irow e L c (ys ++ [z]) := by
  simp [irow, ints]
/-- append of one number -/
theorem st_appI {bytes c c1 g : Nat} {ys : List Int} {z : Int} {L1 : Option Addr} [hT : ElemC P t e 1 bytes] (hS : St w0 M cs w) (hw : Region.wanted ⟨d, .call { callee := .builtin .append, args := #[x, y], argTypes := #[t, t] }, tt, pos, af, gd⟩ (yielded ops a.tmps) = true)
    (hx' : oval a x = some (.slice L1 ys.length c1)) (hy' : oval a y = some (.slice (some ⟨g, 0, none⟩) 1 c)) {t' : TypeId} [hd : DropB g cs [.int .i64 z] t' ds] [hp : PickR (.slice L1 ys.length c1) ds e 1 ys.length (ints ys) f] (hb : (ys.length + 1) * bytes ≤ 140737488355328)
    (k : ∀ L c' w', ys.length + 1 ≤ c' → c' ≤ 9223372036854775807 → St w0 M (f (irow e L c' (ys ++ [z]))) w' → wpList P ops Q rest (a.put d (.slice L (ys ++ [z]).length c')) w') :
    wpList P ops Q (⟨d, .call { callee := .builtin .append, args := #[x, y], argTypes := #[t, t] }, tt, pos, af, gd⟩ :: rest) a w := by
  refine st_app hS hw hx' hy' (by simp) (by simp [Value.oneCell']) hb ?_
  intro L c' w' h1 h2 h3
  have := k L c' w' h1 h2
  rw [List.length_append] at this
  rw [row_snoc] at h3
  exact this h3
theorem ints_replicate (n : Nat) (z : Int) : ints (List.replicate n z) = List.replicate n (.int .i64 z) := by simp [ints]
/-- make([]int, n) -/
theorem st_mkI {bytes n : Nat} {z1 z2 : Int} [hT : ElemC P ty e 1 bytes] (hS : St w0 M cs w) (hw : Region.wanted ⟨d, .makeSlice ty x y, tt, pos, af, gd⟩ (yielded ops a.tmps) = true)
    (hx' : oval a x = some (.int .i64 z1)) (hy' : oval a y = some (.int .i64 z2)) [hz : TyZ P e [.int .i64 0]] (h1 : z1 = n) (h2 : z2 = n) (hb : bytes * n ≤ 140737488355328)
    (k : ∀ g w', St w0 M (row (.slice (some ⟨g, 0, none⟩) n n) e 1 n (ints (List.replicate n 0)) :: cs) w' → wpList P ops Q rest (a.put d (.slice (some ⟨g, 0, none⟩) n n)) w') : wpList P ops Q (⟨d, .makeSlice ty x y, tt, pos, af, gd⟩ :: rest) a w := by
  refine st_mkG (n := n) hS hw hx' hy' h1 h2 hb ?_
  intro g w' z hz' h
  have hzc : z.cells = #[.int .i64 0] := by
    have h3 := hz.zero
    cases hi : P.info? e with
    | none => rw [hi] at h3; cases h3
    | some i =>
      rw [hi] at h3 hz'
      simp only [Option.map_some, Option.some.injEq] at h3 hz'
      rw [hz'] at h3
      simp only [Option.map_some, Option.some.injEq] at h3
      exact Array.toList_inj.1 h3
  rw [made1 hzc, Nat.mul_one] at h
  refine k g w' ?_
  rw [ints_replicate]
  exact h
/-- a number into a row of numbers -/
theorem st_strI (hS : St w0 M cs w) (hw : Region.wanted ⟨d, .store ty x y, tt, pos, af, gd⟩ (yielded ops a.tmps) = true) [h1 : Ty1 P ty] {g j : Nat} (hx' : oval a x = some (.pointer (some ⟨g, j, none⟩))) {v : Int} (hy' : oval a y = some (.int .i64 v))
    {zs : List Int} {n m cp : Nat} [hp : PickG g cs e 1 n m cp (ints zs) f] (hj : j < zs.length) (k : ∀ w', St w0 M (f (row (.slice (some ⟨g, 0, none⟩) m cp) e 1 n (ints (zs.set j v)))) w' → wpList P ops Q rest (a.put d undef) w') : wpList P ops Q (⟨d, .store ty x y, tt, pos, af, gd⟩ :: rest) a w := by
  refine st_str hS hw hx' hy' rfl (by simpa using hj) ?_
  intro w' h
  refine k w' ?_
  rw [ints, List.map_set]; exact h
end
theorem RI.atS {S : Nat → Prop} {w : World} {A : Option Addr} {xs : List Int} (h : RI S w A xs) {k : Nat} (hk : k < xs.length) : ∃ b o, A = some ⟨b, o, none⟩ ∧ S b ∧ w.cell? ⟨b, o + k, none⟩ = some (.int .i64 xs[k]) :=
  let ⟨b, o, e, hs, hc⟩ := h k _ (by simp [hk]); ⟨b, o, e, hs, hc⟩
theorem RI.getN {S : Nat → Prop} {w : World} {A : Option Addr} {xs : List Int} (h : RI S w A xs) : RI All w A xs := h.sub (fun _ _ => trivial)
theorem ints_get {xs : List Int} {k : Nat} (h : k < xs.length) : (ints xs)[k]? = some (.int .i64 xs[k]) := by simp [ints, h]

/-! results -/
/-- a new row is returned, all old memory is as it was -/
def RetRow (w : World) (e : TypeId) (sz n : Nat) (vs : List Value) (en : Ending) (w' : World) : Prop := ∃ L c, en = .returned (.slice L n c) ∧ w'.ownsRow w.heap.size e sz (.slice L n c) n vs ∧ Ext w w'
section
variable {w0 w w' : World} {M : Nat → Prop} {cs : List (Chunk w0 M)} {f : Chunk w0 M → List (Chunk w0 M)} {v : Value} {e : TypeId} {sz n : Nat} {vs : List Value}
theorem St.addRow (h : St w0 M cs w) (ho : w'.ownsRow w.heap.size e sz v n vs) (hx : Ext w w') : St w0 M (row v e sz n vs :: cs) w' := h.add hx (own_base ho (Nat.zero_le _)) (fun k e => own_block ho k e)
theorem St.addNil (h : St w0 M cs w) (e : TypeId) (sz : Nat) : St w0 M (row (.slice none 0 0) e sz 0 [] :: cs) w := h.addRow (ownsRow_nil w _ e sz) (Ext.refl' w)
theorem St.rowOk (h : St w0 M cs w) [hp : PickR v cs e sz n vs f] : w.ownsRow 0 e sz v n vs := (hp.eq ▸ h : St w0 M (f (row v e sz n vs)) w).at_ hp.gap
theorem St.rowForm (h : St w0 M cs w) (A : Option Addr) {k c : Nat} [hp : PickL A cs k c e sz n vs f] : n ≤ c ∧ c ≤ 9223372036854775807 := by
  have ho : w.ownsRow 0 e sz (.slice A k c) n vs := (hp.eq ▸ h : St w0 M (f (row (.slice A k c) e sz n vs)) w).at_ hp.gap
  obtain ⟨A', c', hv, h1, h2⟩ := own_form ho
  injection hv with _ _ h3
  subst h3; exact ⟨h1, h2⟩
theorem St.rowSome (h : St w0 M cs w) (A : Option Addr) {k c : Nat} [hp : PickL A cs k c e sz n vs f] (hn : 0 < n) : ∃ g, A = some ⟨g, 0, none⟩ := by
  have ho : w.ownsRow 0 e sz (.slice A k c) n vs := (hp.eq ▸ h : St w0 M (f (row (.slice A k c) e sz n vs)) w).at_ hp.gap
  obtain ⟨g, c', hv, _⟩ := own_some ho hn
  injection hv with h1
  exact ⟨g, h1⟩
theorem St.rv (h : St w0 M cs w) {A : Option Addr} {k c : Nat} [hp : PickL A cs k c e sz n vs f] : RV All w A vs := RV.ofRow ((hp.eq ▸ h : St w0 M (f (row (.slice A k c) e sz n vs)) w).at_ hp.gap) rfl
theorem own_rebase {base : Nat} (h : w.ownsRow 0 e sz v n vs) (hb : ∀ k, v.ownBlock = some k → base ≤ k) : w.ownsRow base e sz v n vs := by
  obtain ⟨h1, h2⟩ := h
  refine ⟨h1, ?_⟩
  rcases h2 with h2 | ⟨g, cap, cur, hv, hg, r⟩
  · exact .inl h2
  · exact .inr ⟨g, cap, cur, hv, hb g (by subst hv; rfl), r⟩
end
theorem St.ri {w0 w : World} {M : Nat → Prop} {cs : List (Chunk w0 M)} {f : Chunk w0 M → List (Chunk w0 M)} {e : TypeId} {A : Option Addr} {k c n : Nat} {xs : List Int} (h : St w0 M cs w) [hp : PickL A cs k c e 1 n (ints xs) f] : RI All w A xs := h.rv (f := f)
theorem St.rowOwn {w0 w : World} {cs : List (Chunk w0 NoM)} {f : Chunk w0 NoM → List (Chunk w0 NoM)} {v : Value} {e : TypeId} {sz n : Nat} {vs : List Value} (h : St w0 NoM cs w) [hp : PickR v cs e sz n vs f] : w.ownsRow w0.heap.size e sz v n vs := by
  have h' : St w0 NoM (f (row v e sz n vs)) w := hp.eq ▸ h
  obtain ⟨l, r, he⟩ := hp.gap.ex
  rw [he] at h'
  exact own_rebase h'.mem (fun k hk => (h'.new (row v e sz n vs) (by simp) k hk).resolve_right id)
theorem St.ret {w0 w : World} {cs : List (Chunk w0 NoM)} {f : Chunk w0 NoM → List (Chunk w0 NoM)} {L : Option Addr} {c k : Nat} {e : TypeId} {sz n : Nat} {vs : List Value} (h : St w0 NoM cs w) [hp : PickR (.slice L k c) cs e sz n vs f] (hk : k = n) : RetRow w0 e sz n vs (.returned (.slice L k c)) w := by
  subst hk; exact ⟨L, c, rfl, h.rowOwn, h.toExt⟩
end Go.Proofs.Ytmjmdncdmmcmaaa

/- Facts on the types of the program: cells, zero values, elements of slices. No condition. Printed by mktypes.py. -/
namespace Go.Proofs.Ytmjmdncdmmcmaaa
instance : Ty1 Try.prog 2 := ⟨by kernel_rfl, by kernel_rfl⟩
instance : TyZ Try.prog 2 [.int .i64 0] := ⟨by kernel_rfl⟩
instance : Ty1 Try.prog 3 := ⟨by kernel_rfl, by kernel_rfl⟩
instance : TyZ Try.prog 3 [.int .i64 0] := ⟨by kernel_rfl⟩
instance : Ty1 Try.prog 4 := ⟨by kernel_rfl, by kernel_rfl⟩
instance : TyZ Try.prog 4 [.bool false] := ⟨by kernel_rfl⟩
instance : Ty1 Try.prog 5 := ⟨by kernel_rfl, by kernel_rfl⟩
instance : TyZ Try.prog 5 [.int .u8 0] := ⟨by kernel_rfl⟩
instance : Ty1 Try.prog 6 := ⟨by kernel_rfl, by kernel_rfl⟩
instance : TyZ Try.prog 6 [.int .u8 0] := ⟨by kernel_rfl⟩
instance : TyN Try.prog 7 4 := ⟨by kernel_rfl, by kernel_rfl⟩
instance : TyZ Try.prog 7 [.int .i64 0, .int .i64 0, .bool false, .int .u8 0] := ⟨by kernel_rfl⟩
instance : TyN Try.prog 8 4 := ⟨by kernel_rfl, by kernel_rfl⟩
instance : TyZ Try.prog 8 [.int .i64 0, .int .i64 0, .bool false, .int .u8 0] := ⟨by kernel_rfl⟩
instance : Ty1 Try.prog 9 := ⟨by kernel_rfl, by kernel_rfl⟩
instance : Ty1 Try.prog 10 := ⟨by kernel_rfl, by kernel_rfl⟩
instance : Ty1 Try.prog 11 := ⟨by kernel_rfl, by kernel_rfl⟩
instance : Ty1 Try.prog 12 := ⟨by kernel_rfl, by kernel_rfl⟩
instance : TyZ Try.prog 12 [.int .u64 0] := ⟨by kernel_rfl⟩
instance : TyN Try.prog 13 2 := ⟨by kernel_rfl, by kernel_rfl⟩
instance : TyN Try.prog 14 2 := ⟨by kernel_rfl, by kernel_rfl⟩
instance : Ty1 Try.prog 15 := ⟨by kernel_rfl, by kernel_rfl⟩
instance : TyZ Try.prog 15 [.pointer none] := ⟨by kernel_rfl⟩
instance : Ty1 Try.prog 16 := ⟨by kernel_rfl, by kernel_rfl⟩
instance : TyZ Try.prog 16 [.pointer none] := ⟨by kernel_rfl⟩
instance : Ty1 Try.prog 17 := ⟨by kernel_rfl, by kernel_rfl⟩
instance : TyZ Try.prog 17 [.pointer none] := ⟨by kernel_rfl⟩
instance : TyN Try.prog 18 1 := ⟨by kernel_rfl, by kernel_rfl⟩
instance : TyZ Try.prog 18 [.pointer none] := ⟨by kernel_rfl⟩
instance : TyN Try.prog 19 1 := ⟨by kernel_rfl, by kernel_rfl⟩
instance : TyZ Try.prog 19 [.pointer none] := ⟨by kernel_rfl⟩
instance : Ty1 Try.prog 20 := ⟨by kernel_rfl, by kernel_rfl⟩
instance : TyZ Try.prog 20 [.nilIface] := ⟨by kernel_rfl⟩
instance : Ty1 Try.prog 21 := ⟨by kernel_rfl, by kernel_rfl⟩
instance : TyZ Try.prog 21 [.int .i32 0] := ⟨by kernel_rfl⟩
instance : Ty1 Try.prog 22 := ⟨by kernel_rfl, by kernel_rfl⟩
instance : TyZ Try.prog 22 [.slice none 0 0] := ⟨by kernel_rfl⟩
instance : ElemC Try.prog 22 27 2 32 := ⟨ElemTy.mk' (z := .agg #[.int .i64 0, .slice none 0 0]) Try.underlying22 (by kernel_rfl) rfl (by omega) (by omega)⟩
instance : Ty1 Try.prog 25 := ⟨by kernel_rfl, by kernel_rfl⟩
instance : TyZ Try.prog 25 [.slice none 0 0] := ⟨by kernel_rfl⟩
instance : ElemC Try.prog 25 3 1 8 := ⟨ElemTy.mk' (z := .int .i64 0) Try.underlying25 (by kernel_rfl) rfl (by omega) (by omega)⟩
instance : TyN Try.prog 26 2 := ⟨by kernel_rfl, by kernel_rfl⟩
instance : TyZ Try.prog 26 [.int .i64 0, .slice none 0 0] := ⟨by kernel_rfl⟩
instance : TyN Try.prog 27 2 := ⟨by kernel_rfl, by kernel_rfl⟩
instance : TyZ Try.prog 27 [.int .i64 0, .slice none 0 0] := ⟨by kernel_rfl⟩
instance : Ty1 Try.prog 31 := ⟨by kernel_rfl, by kernel_rfl⟩
instance : TyZ Try.prog 31 [.slice none 0 0] := ⟨by kernel_rfl⟩
instance : ElemC Try.prog 31 5 1 1 := ⟨ElemTy.mk' (z := .int .u8 0) Try.underlying31 (by kernel_rfl) rfl (by omega) (by omega)⟩
instance : Ty1 Try.prog 32 := ⟨by kernel_rfl, by kernel_rfl⟩
instance : TyZ Try.prog 32 [.pointer none] := ⟨by kernel_rfl⟩
instance : Ty1 Try.prog 36 := ⟨by kernel_rfl, by kernel_rfl⟩
instance : TyZ Try.prog 36 [.int .i64 0] := ⟨by kernel_rfl⟩
instance : Ty1 Try.prog 41 := ⟨by kernel_rfl, by kernel_rfl⟩
instance : TyZ Try.prog 41 [.slice none 0 0] := ⟨by kernel_rfl⟩
instance : ElemC Try.prog 41 25 1 24 := ⟨ElemTy.mk' (z := .slice none 0 0) Try.underlying41 (by kernel_rfl) rfl (by omega) (by omega)⟩
instance : Ty1 Try.prog 42 := ⟨by kernel_rfl, by kernel_rfl⟩
instance : TyZ Try.prog 42 [.slice none 0 0] := ⟨by kernel_rfl⟩
instance : ElemC Try.prog 42 84 4 32 := ⟨ElemTy.mk' (z := .agg #[.int .i64 0, .int .i64 0, .int .i64 0, .int .i64 0]) Try.underlying42 (by kernel_rfl) rfl (by omega) (by omega)⟩
instance : TyN Try.prog 43 3 := ⟨by kernel_rfl, by kernel_rfl⟩
instance : TyZ Try.prog 43 [.slice none 0 0, .slice none 0 0, .slice none 0 0] := ⟨by kernel_rfl⟩
instance : TyN Try.prog 44 3 := ⟨by kernel_rfl, by kernel_rfl⟩
instance : TyZ Try.prog 44 [.slice none 0 0, .slice none 0 0, .slice none 0 0] := ⟨by kernel_rfl⟩
instance : Ty1 Try.prog 52 := ⟨by kernel_rfl, by kernel_rfl⟩
instance : TyZ Try.prog 52 [.slice none 0 0] := ⟨by kernel_rfl⟩
instance : ElemC Try.prog 52 4 1 1 := ⟨ElemTy.mk' (z := .bool false) Try.underlying52 (by kernel_rfl) rfl (by omega) (by omega)⟩
instance : Ty1 Try.prog 53 := ⟨by kernel_rfl, by kernel_rfl⟩
instance : TyZ Try.prog 53 [.slice none 0 0] := ⟨by kernel_rfl⟩
instance : ElemC Try.prog 53 97 3 24 := ⟨ElemTy.mk' (z := .agg #[.int .i64 0, .int .i64 0, .int .i64 0]) Try.underlying53 (by kernel_rfl) rfl (by omega) (by omega)⟩
instance : TyN Try.prog 54 12 := ⟨by kernel_rfl, by kernel_rfl⟩
instance : TyZ Try.prog 54 [.slice none 0 0, .slice none 0 0, .slice none 0 0, .int .i64 0, .slice none 0 0, .slice none 0 0, .slice none 0 0, .slice none 0 0, .slice none 0 0, .slice none 0 0, .slice none 0 0, .slice none 0 0] := ⟨by kernel_rfl⟩
instance : TyN Try.prog 55 12 := ⟨by kernel_rfl, by kernel_rfl⟩
instance : TyZ Try.prog 55 [.slice none 0 0, .slice none 0 0, .slice none 0 0, .int .i64 0, .slice none 0 0, .slice none 0 0, .slice none 0 0, .slice none 0 0, .slice none 0 0, .slice none 0 0, .slice none 0 0, .slice none 0 0] := ⟨by kernel_rfl⟩
instance : Ty1 Try.prog 70 := ⟨by kernel_rfl, by kernel_rfl⟩
instance : TyZ Try.prog 70 [.map none] := ⟨by kernel_rfl⟩
instance : TyN Try.prog 71 2 := ⟨by kernel_rfl, by kernel_rfl⟩
instance : TyZ Try.prog 71 [.slice none 0 0, .slice none 0 0] := ⟨by kernel_rfl⟩
instance : TyN Try.prog 76 2 := ⟨by kernel_rfl, by kernel_rfl⟩
instance : TyZ Try.prog 76 [.slice none 0 0, .int .i64 0] := ⟨by kernel_rfl⟩
instance : TyN Try.prog 77 2 := ⟨by kernel_rfl, by kernel_rfl⟩
instance : TyZ Try.prog 77 [.slice none 0 0, .int .i64 0] := ⟨by kernel_rfl⟩
instance : TyN Try.prog 83 4 := ⟨by kernel_rfl, by kernel_rfl⟩
instance : TyZ Try.prog 83 [.int .i64 0, .int .i64 0, .int .i64 0, .int .i64 0] := ⟨by kernel_rfl⟩
instance : TyN Try.prog 84 4 := ⟨by kernel_rfl, by kernel_rfl⟩
instance : TyZ Try.prog 84 [.int .i64 0, .int .i64 0, .int .i64 0, .int .i64 0] := ⟨by kernel_rfl⟩
instance : Ty1 Try.prog 89 := ⟨by kernel_rfl, by kernel_rfl⟩
instance : TyZ Try.prog 89 [.pointer none] := ⟨by kernel_rfl⟩
instance : TyN Try.prog 90 12 := ⟨by kernel_rfl, by kernel_rfl⟩
instance : TyZ Try.prog 90 [.slice none 0 0, .slice none 0 0, .slice none 0 0, .int .i64 0, .slice none 0 0, .slice none 0 0, .slice none 0 0, .slice none 0 0, .slice none 0 0, .slice none 0 0, .slice none 0 0, .slice none 0 0] := ⟨by kernel_rfl⟩
instance : TyN Try.prog 91 12 := ⟨by kernel_rfl, by kernel_rfl⟩
instance : TyZ Try.prog 91 [.slice none 0 0, .slice none 0 0, .slice none 0 0, .int .i64 0, .slice none 0 0, .slice none 0 0, .slice none 0 0, .slice none 0 0, .slice none 0 0, .slice none 0 0, .slice none 0 0, .slice none 0 0] := ⟨by kernel_rfl⟩
instance : Ty1 Try.prog 95 := ⟨by kernel_rfl, by kernel_rfl⟩
instance : TyZ Try.prog 95 [.pointer none] := ⟨by kernel_rfl⟩
instance : TyN Try.prog 96 3 := ⟨by kernel_rfl, by kernel_rfl⟩
instance : TyZ Try.prog 96 [.int .i64 0, .int .i64 0, .int .i64 0] := ⟨by kernel_rfl⟩
instance : TyN Try.prog 97 3 := ⟨by kernel_rfl, by kernel_rfl⟩
instance : TyZ Try.prog 97 [.int .i64 0, .int .i64 0, .int .i64 0] := ⟨by kernel_rfl⟩
instance : Ty1 Try.prog 111 := ⟨by kernel_rfl, by kernel_rfl⟩
instance : TyZ Try.prog 111 [.int .u64 0] := ⟨by kernel_rfl⟩
instance : Ty1 Try.prog 121 := ⟨by kernel_rfl, by kernel_rfl⟩
instance : TyZ Try.prog 121 [.pointer none] := ⟨by kernel_rfl⟩
instance : Ty1 Try.prog 124 := ⟨by kernel_rfl, by kernel_rfl⟩
instance : TyZ Try.prog 124 [.slice none 0 0] := ⟨by kernel_rfl⟩
instance : ElemC Try.prog 124 53 1 24 := ⟨ElemTy.mk' (z := .slice none 0 0) Try.underlying124 (by kernel_rfl) rfl (by omega) (by omega)⟩
instance : Ty1 Try.prog 129 := ⟨by kernel_rfl, by kernel_rfl⟩
instance : TyZ Try.prog 129 [.int .i64 0] := ⟨by kernel_rfl⟩
instance : Ty1 Try.prog 138 := ⟨by kernel_rfl, by kernel_rfl⟩
instance : TyZ Try.prog 138 [.int .u32 0] := ⟨by kernel_rfl⟩
instance : Ty1 Try.prog 140 := ⟨by kernel_rfl, by kernel_rfl⟩
instance : TyZ Try.prog 140 [.int .u64 0] := ⟨by kernel_rfl⟩
instance : Ty1 Try.prog 143 := ⟨by kernel_rfl, by kernel_rfl⟩
instance : TyZ Try.prog 143 [.int .u64 0] := ⟨by kernel_rfl⟩
instance : Ty1 Try.prog 147 := ⟨by kernel_rfl, by kernel_rfl⟩
instance : TyZ Try.prog 147 [.pointer none] := ⟨by kernel_rfl⟩
instance : Ty1 Try.prog 150 := ⟨by kernel_rfl, by kernel_rfl⟩
instance : TyZ Try.prog 150 [.pointer none] := ⟨by kernel_rfl⟩
instance : TyN Try.prog 154 4 := ⟨by kernel_rfl, by kernel_rfl⟩
instance : TyN Try.prog 155 4 := ⟨by kernel_rfl, by kernel_rfl⟩
instance : Ty1 Try.prog 159 := ⟨by kernel_rfl, by kernel_rfl⟩
instance : TyZ Try.prog 159 [.int .u8 0] := ⟨by kernel_rfl⟩
instance : Ty1 Try.prog 160 := ⟨by kernel_rfl, by kernel_rfl⟩
instance : TyZ Try.prog 160 [.int .u8 0] := ⟨by kernel_rfl⟩
instance : Ty1 Try.prog 162 := ⟨by kernel_rfl, by kernel_rfl⟩
instance : TyZ Try.prog 162 [.pointer none] := ⟨by kernel_rfl⟩
instance : Ty1 Try.prog 163 := ⟨by kernel_rfl, by kernel_rfl⟩
instance : TyZ Try.prog 163 [.int .i32 0] := ⟨by kernel_rfl⟩
instance : Ty1 Try.prog 164 := ⟨by kernel_rfl, by kernel_rfl⟩
instance : TyZ Try.prog 164 [.int .i32 0] := ⟨by kernel_rfl⟩
instance : TyN Try.prog 165 11 := ⟨by kernel_rfl, by kernel_rfl⟩
instance : TyZ Try.prog 165 [.int .u64 0, .int .u64 0, .int .u32 0, .int .u8 0, .int .u8 0, .int .u8 0, .int .u8 0, .nilFunc, .pointer none, .int .i32 0, .int .i32 0] := ⟨by kernel_rfl⟩
instance : TyN Try.prog 166 11 := ⟨by kernel_rfl, by kernel_rfl⟩
instance : TyZ Try.prog 166 [.int .u64 0, .int .u64 0, .int .u32 0, .int .u8 0, .int .u8 0, .int .u8 0, .int .u8 0, .nilFunc, .pointer none, .int .i32 0, .int .i32 0] := ⟨by kernel_rfl⟩
instance : Ty1 Try.prog 167 := ⟨by kernel_rfl, by kernel_rfl⟩
instance : TyZ Try.prog 167 [.pointer none] := ⟨by kernel_rfl⟩
end Go.Proofs.Ytmjmdncdmmcmaaa

/- A region that draws its order, over the state of a call: what only reads is taken first, what writes goes in its order; calls. No condition. -/
namespace Go.Proofs.Ytmjmdncdmmcmaaa
open Go.RowKit
set_option linter.unusedVariables false
set_option linter.unusedSectionVars false

class MemC {w0 : World} {M : Nat → Prop} (c : Chunk w0 M) (cs : List (Chunk w0 M)) : Prop where
  h : c ∈ cs
instance {w0 : World} {M : Nat → Prop} (c : Chunk w0 M) (r : List (Chunk w0 M)) : MemC c (c :: r) := ⟨by simp⟩
instance (priority := low) {w0 : World} {M : Nat → Prop} (c d : Chunk w0 M) (r : List (Chunk w0 M)) [h : MemC c r] : MemC c (d :: r) := ⟨by simp [h.h]⟩
/-- all of fix are among cs -/
class SubC {w0 : World} {M : Nat → Prop} (fx cs : List (Chunk w0 M)) : Prop where
  h : ∀ c ∈ fx, c ∈ cs
instance {w0 : World} {M : Nat → Prop} (cs : List (Chunk w0 M)) : SubC [] cs := ⟨by simp⟩
instance {w0 : World} {M : Nat → Prop} (c : Chunk w0 M) (fx cs : List (Chunk w0 M)) [h1 : MemC c cs] [h2 : SubC fx cs] : SubC (c :: fx) cs := ⟨by
  intro d hd
  rcases List.mem_cons.1 hd with rfl | hd
  · exact h1.h
  · exact h2.h d hd⟩
/-- the list without piece i -/
class DropAt {w0 : World} {M : Nat → Prop} (i : Nat) (cs : List (Chunk w0 M)) (ds : outParam (List (Chunk w0 M))) : Prop where
  t : True
instance {w0 : World} {M : Nat → Prop} (c : Chunk w0 M) (r : List (Chunk w0 M)) : DropAt 0 (c :: r) r := ⟨trivial⟩
instance {w0 : World} {M : Nat → Prop} (i : Nat) (c : Chunk w0 M) (r s : List (Chunk w0 M)) [h : DropAt i r s] : DropAt (i + 1) (c :: r) (c :: s) := ⟨trivial⟩
/-! results that lie in a variable -/
section
variable {P : Program} {a : Act} {w w0 : World} {M : Nat → Prop} {cs : List (Chunk w0 M)} {f : Chunk w0 M → List (Chunk w0 M)}
theorem getD_of {a : Act} {t : Tmp} {v : Value} (h : oval a (.tmp t) = some v) : a.tmps.getD t undef = v := oval_eval h
/-- the one result lies in block g -/
theorem st_retC {fn : Func} {R : Ending → World → Prop} {s : Tmp} {ty t : TypeId} {n g : Nat} {vs : List Value} (hS : St w0 M cs w) (hres : fn.results = #[.cell s ty]) (hd : a.defers = []) (hp : oval a (.tmp s) = some (.pointer (some ⟨g, 0, none⟩))) [hb : PickB g cs vs t f] [hT : TyN P ty n] (hl : vs.length = n)
    (hR : R (.returned (.agg vs.toArray)) w) : bodyPost P fn R .ret a w := by
  refine bodyPost_ret (v := .agg vs.toArray) ?_ hd hR
  have h1 := run_loadN (P := P) (w := w) (b := g) (o := 0) hT hl (fun i u hu => by rw [Nat.zero_add]; exact cell_of_heap ((hb.eq ▸ hS : St w0 M (f (blk g vs t)) w).at_ hb.gap : w.heap[g]? = _) (by simpa using hu))
  simp only [Instr.loadAt, Instr.sureAddr, Sem.run_bind, Sem.run_pure, Result.andThen_ok] at h1
  have hg : (a.tmps[s]?).getD undef = .pointer (some ⟨g, 0, none⟩) := by simpa using getD_of hp
  simp [results, hres, hg, h1, asAddr]
/-- two results: the first lies in block g, the second in a slot -/
theorem st_retCT {fn : Func} {R : Ending → World → Prop} {s s2 : Tmp} {ty t : TypeId} {n g : Nat} {vs : List Value} {v2 : Value} (hS : St w0 M cs w) (hres : fn.results = #[.cell s ty, .tmp s2]) (hd : a.defers = []) (hp : oval a (.tmp s) = some (.pointer (some ⟨g, 0, none⟩))) (hp2 : oval a (.tmp s2) = some v2) [hb : PickB g cs vs t f] [hT : TyN P ty n] (hl : vs.length = n)
    (hR : R (.returned (.tuple #[.agg vs.toArray, v2])) w) : bodyPost P fn R .ret a w := by
  refine bodyPost_ret (v := .tuple #[.agg vs.toArray, v2]) ?_ hd hR
  have h1 := run_loadN (P := P) (w := w) (b := g) (o := 0) hT hl (fun i u hu => by rw [Nat.zero_add]; exact cell_of_heap ((hb.eq ▸ hS : St w0 M (f (blk g vs t)) w).at_ hb.gap : w.heap[g]? = _) (by simpa using hu))
  simp only [Instr.loadAt, Instr.sureAddr, Sem.run_bind, Sem.run_pure, Result.andThen_ok] at h1
  have hg : (a.tmps[s]?).getD undef = .pointer (some ⟨g, 0, none⟩) := by simpa using getD_of hp
  have hg2 : (a.tmps[s2]?).getD undef = v2 := by simpa using getD_of hp2
  simp [results, hres, hg, hg2, h1, asAddr]
end
class TakeK {w0 : World} {M : Nat → Prop} (c : Chunk w0 M) (cs : List (Chunk w0 M)) (rs : outParam (List (Chunk w0 M))) : Prop where
  p : cs.Perm (c :: rs)
instance {w0 : World} {M : Nat → Prop} (c : Chunk w0 M) (r : List (Chunk w0 M)) : TakeK c (c :: r) r := ⟨List.Perm.refl _⟩
instance (priority := low) {w0 : World} {M : Nat → Prop} (c d : Chunk w0 M) (r s : List (Chunk w0 M)) [h : TakeK c r s] : TakeK c (d :: r) (d :: s) := ⟨(h.p.cons d).trans (List.Perm.swap c d s)⟩
/-- ds is what cs holds, in another order, or less -/
class PermC {w0 : World} {M : Nat → Prop} (ds cs : List (Chunk w0 M)) : Prop where
  p : ∃ rs, cs.Perm (ds ++ rs)
instance {w0 : World} {M : Nat → Prop} (cs : List (Chunk w0 M)) : PermC [] cs := ⟨cs, List.Perm.refl _⟩
instance {w0 : World} {M : Nat → Prop} (c : Chunk w0 M) (ds cs rs : List (Chunk w0 M)) [h1 : TakeK c cs rs] [h2 : PermC ds rs] : PermC (c :: ds) cs := ⟨by
  obtain ⟨qs, h3⟩ := h2.p
  exact ⟨qs, h1.p.trans (h3.cons c)⟩⟩
theorem St.re {w0 w : World} {M : Nat → Prop} {ds cs : List (Chunk w0 M)} (h : St w0 M cs w) [hp : PermC ds cs] : St w0 M ds w := by
  obtain ⟨rs, h1⟩ := hp.p
  exact (h.perm h1).sub (List.sublist_append_left _ _)
/-- Whatever order is picked from here on; S holds behind every operation but the late ones. -/
def wpAnyL (P : Program) (md : Region.Mode) (ops : Array Oper) (Q : Exit → Act → World → Prop) (S : World → Prop) (late : List Nat) : Nat → Array Bool → Act → World → Prop
  | 0, listed, a, w => Region.ready md ops listed = [] ∧ Q .normal a w
  | fuel + 1, listed, a, w =>
    (Region.ready md ops listed = [] → Q .normal a w) ∧
    ∀ i ∈ Region.ready md ops listed, wpOp P ops Q i (fun a' w' => (late.contains i = true ∨ S w') ∧ wpAnyL P md ops Q S late fuel (listed.setIfInBounds i true) a' w') a w
/-- every late operation waits for number i -/
def lateOk (md : Region.Mode) (ops : Array Oper) (late : List Nat) (i : Nat) : Bool := late.all fun j => match ops[j]? with | some o => o.after.any (fun e => Region.binds md e && e.on == i) | none => false
section
variable {P : Program} {ops : Array Oper} {Q : Exit → Act → World → Prop} {md : Region.Mode} {S : World → Prop} {late : List Nat}
theorem wpAny_of_late : ∀ (fuel : Nat) (listed : Array Bool) (a : Act) (w : World), wpAnyL P md ops Q S late fuel listed a w → wpAny P md ops Q fuel listed a w
  | 0, _, _, _, h => h
  | fuel + 1, _, _, _, h => ⟨h.1, fun i hi => wpOp_mono (fun a' w' h' => wpAny_of_late fuel _ a' w' h'.2) (h.2 i hi)⟩
theorem wpAnyL_first {i : Nat} {oi : Oper} {v : Value} (hi : ops[i]? = some oi) (hsel : ∀ (j : Nat) (o : Oper) cs b, ops[j]? = some o → o.op ≠ .select cs b)
    (hQ : ∀ c a w, Q (.panic c) (a.put oi.dst v) w → Q (.panic c) a w) (hlate : lateOk md ops late i = true) :
    ∀ (fuel : Nat) (listed : Array Bool) (a : Act) (w : World),
      (∀ j oj, ops[j]? = some oj → j ≠ i → listed.getD j true = false → (∀ e ∈ oj.after, Region.binds md e = true → e.on ≠ i) → oi.apart ops oj = true) →
      i ∈ Region.ready md ops listed → YieldsIf P ops S oi v a → S w →
      wpAnyL P md ops Q S late fuel (listed.setIfInBounds i true) (a.put oi.dst v) w → wpAnyL P md ops Q S late (fuel + 1) listed a w := by
  intro fuel
  induction fuel with
  | zero =>
    intro listed a w _ hr hy hS H
    refine ⟨fun h => (by rw [h] at hr; cases hr), fun j hj => ?_⟩
    by_cases hji : j = i
    · subst hji; exact hy.wpOp hi hS ⟨.inr hS, H⟩
    · have := ready_mono hj hji
      rw [H.1] at this
      cases this
  | succ fuel ih =>
    intro listed a w hfree hr hy hS H
    refine ⟨fun h => (by rw [h] at hr; cases hr), fun j hj => ?_⟩
    by_cases hji : j = i
    · subst hji; exact hy.wpOp hi hS ⟨.inr hS, H⟩
    · have h1 := H.2 j (ready_mono hj hji)
      obtain ⟨hjun, oj, hoj, hall⟩ := mem_ready.1 hj
      have hnot : ∀ e ∈ oj.after, Region.binds md e = true → e.on ≠ i := fun e he hb heq => by
        have h1 := hall e he hb
        have h0 := (mem_ready.1 hr).1
        rw [heq] at h1
        rcases Nat.lt_or_ge i listed.size with h' | h'
        · simp [h'] at h0 h1; rw [h0] at h1; cases h1
        · simp [Array.getElem?_eq_none h'] at h1
      have hnl : ¬ late.contains j = true := fun hl => by
        have h2 := List.all_eq_true.1 hlate j (by simpa using hl)
        rw [hoj] at h2
        simp only [Array.any_eq_true, Bool.and_eq_true, beq_iff_eq] at h2
        obtain ⟨q, hq, hb, he⟩ := h2
        exact hnot _ (Array.getElem_mem hq) hb he
      have h2 := wpOp_putIf hoj (hfree j oj hoj hji hjun hnot) (fun cs b => hsel i oi cs b hi) (fun cs b => hsel j oj cs b hoj) hQ hy h1
      have hfree' : ∀ k ok, ops[k]? = some ok → k ≠ i → (listed.setIfInBounds j true).getD k true = false →
          (∀ e ∈ ok.after, Region.binds md e = true → e.on ≠ i) → oi.apart ops ok = true := fun k ok hk hki hun hno => by
        refine hfree k ok hk hki ?_ hno
        by_cases hjk : j = k
        · subst hjk; exact hjun
        · rw [getD_set_ne true hjk] at hun; exact hun
      refine wpOp_mono (fun a' w' h3 => ?_) h2
      have hS' := h3.2.1.resolve_left hnl
      refine ⟨.inr hS', ih (listed.setIfInBounds j true) a' w' hfree' (ready_mono hr (Ne.symm hji)) h3.1 hS' ?_⟩
      rw [Array.setIfInBounds_comm _ _ hji]
      exact h3.2.2
end
/-- the pieces fx are as they were -/
def SF (w0 : World) (M : Nat → Prop) (fx : List (Chunk w0 M)) (w : World) : Prop := ∃ cs, St w0 M cs w ∧ ∀ c ∈ fx, c ∈ cs
section
variable {P : Program} {ops : Array Oper} {Q : Exit → Act → World → Prop} {a : Act} {w w0 : World} {M : Nat → Prop} {cs fx : List (Chunk w0 M)} {f : Chunk w0 M → List (Chunk w0 M)} {md : Region.Mode} {fuel : Nat} {listed : Array Bool} {late : List Nat}
theorem SF.ok {c : Chunk w0 M} (h : SF w0 M fx w) (hc : c ∈ fx) : c.ok w := let ⟨_, h1, h2⟩ := h; h1.all c (h2 c hc)
theorem SF.old (h : SF w0 M fx w) {p : Addr} {u : Value} (hc : w0.cell? p = some u) (hm : ¬ M p.block) : w.cell? p = some u := let ⟨_, h1, _⟩ := h; h1.oldCell hc hm
theorem gap_mem {c : Chunk w0 M} (hf : Gap f) : c ∈ f c := by
  obtain ⟨l, r, e⟩ := hf.ex
  rw [e]; simp

theorem dr_start {id : Nat} (late : List Nat) (fx : List (Chunk w0 M)) (hS : St w0 M cs w) (hm : P.follows .mixedOrders = true) (h : ∀ w, St w0 M cs w → wpAnyL P .any ops Q (SF w0 M fx) late ops.size (Array.replicate ops.size false) a w) : (Code.region id ops true).wp P Q a w :=
  wp_region_any hm (wpAny_of_late _ _ _ _ (h _ (hS.drew : St w0 M cs w.drew)))
theorem dr_start0 {id n : Nat} (late : List Nat) (hS : St w0 M cs w) (hm : P.follows .mixedOrders = true) (hn : ops.size = n) (h : ∀ w, St w0 M cs w → wpAnyL P .any ops Q (SF w0 M cs) late n (Array.replicate n false) a w) : (Code.region id ops true).wp P Q a w := by
  subst hn; exact dr_start late cs hS hm h
theorem dr_start1 {id n : Nat} (late : List Nat) (i : Nat) (hS : St w0 M cs w) [hd : DropAt i cs fx] (hm : P.follows .mixedOrders = true) (hn : ops.size = n) (h : ∀ w, St w0 M cs w → wpAnyL P .any ops Q (SF w0 M fx) late n (Array.replicate n false) a w) : (Code.region id ops true).wp P Q a w := by
  subst hn; exact dr_start late fx hS hm h
theorem dr_start2 {id n : Nat} (late : List Nat) (i j : Nat) {gx : List (Chunk w0 M)} (hS : St w0 M cs w) [hd : DropAt i cs gx] [hd' : DropAt j gx fx] (hm : P.follows .mixedOrders = true) (hn : ops.size = n) (h : ∀ w, St w0 M cs w → wpAnyL P .any ops Q (SF w0 M fx) late n (Array.replicate n false) a w) : (Code.region id ops true).wp P Q a w := by
  subst hn; exact dr_start late fx hS hm h
theorem dr_done (hr : Region.ready md ops listed = []) (h : Q .normal a w) : wpAnyL P md ops Q (SF w0 M fx) late fuel listed a w := by
  cases fuel with
  | zero => exact ⟨hr, h⟩
  | succ n => exact ⟨fun _ => h, by rw [hr]; simp⟩

/-! taken first -/
section
variable {dst : Option Tmp} {op : Op} {tt ty t e : TypeId} {pos : String} {af : Array Edge} {gd : Option (Nat × Bool)} {x y : Operand}
theorem dr_take [hs : SubC fx cs] (hS : St w0 M cs w) (i : Nat) {v : Value} (hi : ops[i]? = some ⟨dst, op, tt, pos, af, gd⟩) (hn : Region.noSelect ops = true) (hf : (Region.free md ops listed i && lateOk md ops late i) = true) (hr : (Region.ready md ops listed).contains i = true)
    (hQ : ∀ c a w, Q (.panic c) (a.put dst v) w → Q (.panic c) a w) (hw : Region.wanted ⟨dst, op, tt, pos, af, gd⟩ (yielded ops a.tmps) = true) (hy : ∀ w, SF w0 M fx w → (execOp a.eval ⟨dst, op, tt, pos, af, gd⟩).run P w = .ok (.value v) w)
    (h : wpAnyL P md ops Q (SF w0 M fx) late fuel (listed.setIfInBounds i true) (a.put dst v) w) : wpAnyL P md ops Q (SF w0 M fx) late (fuel + 1) listed a w :=
  wpAnyL_first hi (Region.noSelect_spec hn) hQ (Bool.and_eq_true_iff.1 hf).2 fuel listed a w (Region.free_spec hi (Bool.and_eq_true_iff.1 hf).1) (by simpa using hr) (.inl ⟨hw, hy⟩) ⟨cs, hS, hs.h⟩ h
theorem dr_pass [hs : SubC fx cs] (hS : St w0 M cs w) (i : Nat) (hi : ops[i]? = some ⟨dst, op, tt, pos, af, gd⟩) (hn : Region.noSelect ops = true) (hf : (Region.free md ops listed i && lateOk md ops late i) = true) (hr : (Region.ready md ops listed).contains i = true)
    (hQ : ∀ c a w, Q (.panic c) (a.put dst undef) w → Q (.panic c) a w) (hw : Region.wanted ⟨dst, op, tt, pos, af, gd⟩ (yielded ops a.tmps) = false)
    (h : wpAnyL P md ops Q (SF w0 M fx) late fuel (listed.setIfInBounds i true) (a.put dst undef) w) : wpAnyL P md ops Q (SF w0 M fx) late (fuel + 1) listed a w :=
  wpAnyL_first hi (Region.noSelect_spec hn) hQ (Bool.and_eq_true_iff.1 hf).2 fuel listed a w (Region.free_spec hi (Bool.and_eq_true_iff.1 hf).1) (by simpa using hr) (.inr ⟨hw, rfl⟩) ⟨cs, hS, hs.h⟩ h
theorem dr_pure [hs : SubC fx cs] (hS : St w0 M cs w) (i : Nat) {v : Value} (hi : ops[i]? = some ⟨dst, op, tt, pos, af, gd⟩) (hn : Region.noSelect ops = true) (hf : (Region.free md ops listed i && lateOk md ops late i) = true) (hr : (Region.ready md ops listed).contains i = true)
    (hQ : ∀ c a v w, Q (.panic c) (a.put dst v) w → Q (.panic c) a w) (hw : Region.wanted ⟨dst, op, tt, pos, af, gd⟩ (yielded ops a.tmps) = true) (hy : ∀ w, (execOp a.eval ⟨dst, op, tt, pos, af, gd⟩).run P w = .ok (.value v) w)
    (h : wpAnyL P md ops Q (SF w0 M fx) late fuel (listed.setIfInBounds i true) (a.put dst v) w) : wpAnyL P md ops Q (SF w0 M fx) late (fuel + 1) listed a w :=
  dr_take hS i hi hn hf hr (fun c a w => hQ c a v w) hw (fun w _ => hy w) h
theorem dr_move [hs : SubC fx cs] (hS : St w0 M cs w) (i : Nat) {v : Value} (hi : ops[i]? = some ⟨dst, .move x, tt, pos, af, gd⟩) (hn : Region.noSelect ops = true) (hf : (Region.free md ops listed i && lateOk md ops late i) = true) (hr : (Region.ready md ops listed).contains i = true)
    (hQ : ∀ c a v w, Q (.panic c) (a.put dst v) w → Q (.panic c) a w) (hw : Region.wanted ⟨dst, .move x, tt, pos, af, gd⟩ (yielded ops a.tmps) = true) (hx : oval a x = some v)
    (h : wpAnyL P md ops Q (SF w0 M fx) late fuel (listed.setIfInBounds i true) (a.put dst v) w) : wpAnyL P md ops Q (SF w0 M fx) late (fuel + 1) listed a w :=
  dr_pure hS i hi hn hf hr hQ hw (fun w => by simp [execOp, oval_eval hx]) h
theorem dr_assign [hs : SubC fx cs] (hS : St w0 M cs w) (i : Nat) {v : Value} (hi : ops[i]? = some ⟨dst, .assign x, tt, pos, af, gd⟩) (hn : Region.noSelect ops = true) (hf : (Region.free md ops listed i && lateOk md ops late i) = true) (hr : (Region.ready md ops listed).contains i = true)
    (hQ : ∀ c a v w, Q (.panic c) (a.put dst v) w → Q (.panic c) a w) (hw : Region.wanted ⟨dst, .assign x, tt, pos, af, gd⟩ (yielded ops a.tmps) = true) (hx : oval a x = some v)
    (h : wpAnyL P md ops Q (SF w0 M fx) late fuel (listed.setIfInBounds i true) (a.put dst v) w) : wpAnyL P md ops Q (SF w0 M fx) late (fuel + 1) listed a w :=
  dr_pure hS i hi hn hf hr hQ hw (fun w => by simp [execOp, oval_eval hx]) h
theorem dr_load1 (h1 : Ty1 P ty) [hs : SubC fx cs] (hS : St w0 M cs w) (i : Nat) (hi : ops[i]? = some ⟨dst, .load ty x, tt, pos, af, gd⟩) (hn : Region.noSelect ops = true) (hf : (Region.free md ops listed i && lateOk md ops late i) = true) (hr : (Region.ready md ops listed).contains i = true)
    (hQ : ∀ c a v w, Q (.panic c) (a.put dst v) w → Q (.panic c) a w) (hw : Region.wanted ⟨dst, .load ty x, tt, pos, af, gd⟩ (yielded ops a.tmps) = true) {b j : Nat} (hx' : oval a x = some (.pointer (some ⟨b, j, none⟩))) {v : Value} (hc : ∀ w, SF w0 M fx w → w.cell? ⟨b, j, none⟩ = some v)
    (h : wpAnyL P md ops Q (SF w0 M fx) late fuel (listed.setIfInBounds i true) (a.put dst v) w) : wpAnyL P md ops Q (SF w0 M fx) late (fuel + 1) listed a w :=
  dr_take hS i hi hn hf hr (fun c a w => hQ c a v w) hw (fun w hw' => by simp only [execOp, oval_eval hx', Sem.run_bind, run_load1 h1 (hc w hw'), Result.andThen_ok, Sem.run_pure]) h
theorem dr_loadN {n : Nat} (h1 : TyN P ty n) [hs : SubC fx cs] (hS : St w0 M cs w) (i : Nat) (hi : ops[i]? = some ⟨dst, .load ty x, tt, pos, af, gd⟩) (hn : Region.noSelect ops = true) (hf : (Region.free md ops listed i && lateOk md ops late i) = true) (hr : (Region.ready md ops listed).contains i = true)
    (hQ : ∀ c a v w, Q (.panic c) (a.put dst v) w → Q (.panic c) a w) (hw : Region.wanted ⟨dst, .load ty x, tt, pos, af, gd⟩ (yielded ops a.tmps) = true) {b j : Nat} (hx' : oval a x = some (.pointer (some ⟨b, j, none⟩))) {us : List Value} (hl : us.length = n) (hc : ∀ w, SF w0 M fx w → Cells w b j us)
    (h : wpAnyL P md ops Q (SF w0 M fx) late fuel (listed.setIfInBounds i true) (a.put dst (.agg us.toArray)) w) : wpAnyL P md ops Q (SF w0 M fx) late (fuel + 1) listed a w :=
  dr_take hS i hi hn hf hr (fun c a w => hQ c a _ w) hw (fun w hw' => by simp only [execOp, oval_eval hx', Sem.run_bind, run_loadN h1 hl (hc w hw'), Result.andThen_ok, Sem.run_pure]) h
theorem dr_ld [hs : SubC fx cs] (hS : St w0 M cs w) (i : Nat) (hi : ops[i]? = some ⟨dst, .load ty x, tt, pos, af, gd⟩) (hn : Region.noSelect ops = true) (hf : (Region.free md ops listed i && lateOk md ops late i) = true) (hr : (Region.ready md ops listed).contains i = true)
    (hQ : ∀ c a v w, Q (.panic c) (a.put dst v) w → Q (.panic c) a w) (hw : Region.wanted ⟨dst, .load ty x, tt, pos, af, gd⟩ (yielded ops a.tmps) = true) [h1 : Ty1 P ty] {g j : Nat} (hx' : oval a x = some (.pointer (some ⟨g, j, none⟩))) {vs : List Value} [hp : PickB g fx vs t f] {v : Value} (hj : vs[j]? = some v)
    (h : wpAnyL P md ops Q (SF w0 M fx) late fuel (listed.setIfInBounds i true) (a.put dst v) w) : wpAnyL P md ops Q (SF w0 M fx) late (fuel + 1) listed a w :=
  dr_load1 h1 hS i hi hn hf hr hQ hw hx' (fun w hw' => cell_of_heap (hw'.ok (c := blk g vs t) (by rw [hp.eq]; exact gap_mem hp.gap) : w.heap[g]? = _) (by simpa using hj)) h
theorem dr_lds {n : Nat} [hs : SubC fx cs] (hS : St w0 M cs w) (i : Nat) (hi : ops[i]? = some ⟨dst, .load ty x, tt, pos, af, gd⟩) (hn : Region.noSelect ops = true) (hf : (Region.free md ops listed i && lateOk md ops late i) = true) (hr : (Region.ready md ops listed).contains i = true)
    (hQ : ∀ c a v w, Q (.panic c) (a.put dst v) w → Q (.panic c) a w) (hw : Region.wanted ⟨dst, .load ty x, tt, pos, af, gd⟩ (yielded ops a.tmps) = true) [h1 : TyN P ty n] {g : Nat} (hx' : oval a x = some (.pointer (some ⟨g, 0, none⟩))) {vs : List Value} [hp : PickB g fx vs t f] (hl : vs.length = n)
    (h : wpAnyL P md ops Q (SF w0 M fx) late fuel (listed.setIfInBounds i true) (a.put dst (.agg vs.toArray)) w) : wpAnyL P md ops Q (SF w0 M fx) late (fuel + 1) listed a w :=
  dr_loadN h1 hS i hi hn hf hr hQ hw hx' hl (fun w hw' k u hu => by rw [Nat.zero_add]; exact cell_of_heap (hw'.ok (c := blk g vs t) (by rw [hp.eq]; exact gap_mem hp.gap) : w.heap[g]? = _) (by simpa using hu)) h
theorem dr_ldr [hs : SubC fx cs] (hS : St w0 M cs w) (i : Nat) (hi : ops[i]? = some ⟨dst, .load ty x, tt, pos, af, gd⟩) (hn : Region.noSelect ops = true) (hf : (Region.free md ops listed i && lateOk md ops late i) = true) (hr : (Region.ready md ops listed).contains i = true)
    (hQ : ∀ c a v w, Q (.panic c) (a.put dst v) w → Q (.panic c) a w) (hw : Region.wanted ⟨dst, .load ty x, tt, pos, af, gd⟩ (yielded ops a.tmps) = true) [h1 : Ty1 P ty] {g j : Nat} (hx' : oval a x = some (.pointer (some ⟨g, j, none⟩))) {vs : List Value} {sz n m cp : Nat} [hp : PickG g fx e sz n m cp vs f] {v : Value} (hj : vs[j]? = some v)
    (h : wpAnyL P md ops Q (SF w0 M fx) late fuel (listed.setIfInBounds i true) (a.put dst v) w) : wpAnyL P md ops Q (SF w0 M fx) late (fuel + 1) listed a w := by
  refine dr_load1 h1 hS i hi hn hf hr hQ hw hx' (fun w hw' => ?_) h
  have ho : w.ownsRow 0 e sz (.slice (some ⟨g, 0, none⟩) m cp) n vs := hw'.ok (c := row (.slice (some ⟨g, 0, none⟩) m cp) e sz n vs) (by rw [hp.eq]; exact gap_mem hp.gap)
  have h2 := ho.cells (g := g) rfl j v hj
  rw [add_mk, Nat.zero_add] at h2
  exact h2
theorem dr_ldo [hs : SubC fx cs] (hS : St w0 M cs w) (i : Nat) (hi : ops[i]? = some ⟨dst, .load ty x, tt, pos, af, gd⟩) (hn : Region.noSelect ops = true) (hf : (Region.free md ops listed i && lateOk md ops late i) = true) (hr : (Region.ready md ops listed).contains i = true)
    (hQ : ∀ c a v w, Q (.panic c) (a.put dst v) w → Q (.panic c) a w) (hw : Region.wanted ⟨dst, .load ty x, tt, pos, af, gd⟩ (yielded ops a.tmps) = true) [h1 : Ty1 P ty] {b j : Nat} (hx' : oval a x = some (.pointer (some ⟨b, j, none⟩))) {v : Value} (hc : w0.cell? ⟨b, j, none⟩ = some v) (hm : ¬ M b)
    (h : wpAnyL P md ops Q (SF w0 M fx) late fuel (listed.setIfInBounds i true) (a.put dst v) w) : wpAnyL P md ops Q (SF w0 M fx) late (fuel + 1) listed a w :=
  dr_load1 h1 hS i hi hn hf hr hQ hw hx' (fun w hw' => hw'.old hc hm) h
theorem dr_ldos {n : Nat} [hs : SubC fx cs] (hS : St w0 M cs w) (i : Nat) (hi : ops[i]? = some ⟨dst, .load ty x, tt, pos, af, gd⟩) (hn : Region.noSelect ops = true) (hf : (Region.free md ops listed i && lateOk md ops late i) = true) (hr : (Region.ready md ops listed).contains i = true)
    (hQ : ∀ c a v w, Q (.panic c) (a.put dst v) w → Q (.panic c) a w) (hw : Region.wanted ⟨dst, .load ty x, tt, pos, af, gd⟩ (yielded ops a.tmps) = true) [h1 : TyN P ty n] {b j : Nat} (hx' : oval a x = some (.pointer (some ⟨b, j, none⟩))) {us : List Value} (hc : Cells w0 b j us) (hl : us.length = n) (hm : ¬ M b)
    (h : wpAnyL P md ops Q (SF w0 M fx) late fuel (listed.setIfInBounds i true) (a.put dst (.agg us.toArray)) w) : wpAnyL P md ops Q (SF w0 M fx) late (fuel + 1) listed a w :=
  dr_loadN h1 hS i hi hn hf hr hQ hw hx' hl (fun w hw' k u hu => hw'.old (hc k u hu) hm) h
end

/-! carried out -/
/-- the post behind one operation of a region -/
def DQ (Q : Exit → Act → World → Prop) (K : Act → World → Prop) : Exit → Act → World → Prop
  | .normal, a, w => K a w
  | e, a, w => Q e a w
theorem wpOp_of_list {i : Nat} {o : Oper} {K : Act → World → Prop} (ho : ops[i]? = some o) (h : wpList P ops (DQ Q K) [o] a w) : wpOp P ops Q i K a w := by
  unfold wpOp
  simp only [ho]
  unfold wpList at h
  split
  · rename_i hw
    rw [if_pos hw] at h
    rcases h with h | ⟨h1, a', w', h2⟩
    · refine .inl ?_
      unfold Oper.wp at *
      generalize (execOp a.eval o).run P w = r at *
      cases r with
      | ok n w' =>
        cases n <;> simp only [Oper.upon] at h ⊢ <;>
          first
            | exact h
            | exact Calls.mono h (fun e w'' he => by cases e <;> first | exact he | (obtain ⟨a', w', h2⟩ := he; exact ⟨a', w', h2⟩))
            | exact Rows.mono h (fun _ _ he => he)
      | halt x w' => cases x <;> simp only [Oper.upon] at h ⊢ <;> exact h
    · exact .inr ⟨h1, a', w', h2⟩
  · rename_i hw
    rw [if_neg hw] at h
    exact h
theorem dr_one (i : Nat) {o : Oper} (hr : Region.ready md ops listed = [i]) (ho : ops[i]? = some o)
    (h : wpList P ops (DQ Q (fun a' w' => (late.contains i = true ∨ SF w0 M fx w') ∧ wpAnyL P md ops Q (SF w0 M fx) late fuel (listed.setIfInBounds i true) a' w')) [o] a w) : wpAnyL P md ops Q (SF w0 M fx) late (fuel + 1) listed a w :=
  ⟨fun h0 => absurd (hr.symm.trans h0) (by simp), fun j hj => by rw [hr] at hj; rw [List.mem_singleton.1 hj]; exact wpOp_of_list ho h⟩
theorem dr_two (i j : Nat) {o o' : Oper} (hr : Region.ready md ops listed = [i, j]) (ho : ops[i]? = some o) (ho' : ops[j]? = some o')
    (h : wpList P ops (DQ Q (fun a' w' => (late.contains i = true ∨ SF w0 M fx w') ∧ wpAnyL P md ops Q (SF w0 M fx) late fuel (listed.setIfInBounds i true) a' w')) [o] a w)
    (h' : wpList P ops (DQ Q (fun a' w' => (late.contains j = true ∨ SF w0 M fx w') ∧ wpAnyL P md ops Q (SF w0 M fx) late fuel (listed.setIfInBounds j true) a' w')) [o'] a w) : wpAnyL P md ops Q (SF w0 M fx) late (fuel + 1) listed a w :=
  ⟨fun h0 => absurd (hr.symm.trans h0) (by simp), fun k hk => by
    rw [hr] at hk
    rcases List.mem_cons.1 hk with rfl | hk
    · exact wpOp_of_list ho h
    · rw [List.mem_singleton.1 hk]; exact wpOp_of_list ho' h'⟩
theorem dr_end {i : Nat} [hs : SubC fx cs] (hS : St w0 M cs w) (h : wpAnyL P md ops Q (SF w0 M fx) late fuel listed a w) : wpList P ops (DQ Q (fun a' w' => (late.contains i = true ∨ SF w0 M fx w') ∧ wpAnyL P md ops Q (SF w0 M fx) late fuel listed a' w')) [] a w :=
  wpList_nil (show (_ ∨ SF w0 M fx w) ∧ _ from ⟨.inr ⟨cs, hS, hs.h⟩, h⟩)
theorem dr_late {i : Nat} (hl : late.contains i = true) (h : wpAnyL P md ops Q (SF w0 M fx) late fuel listed a w) : wpList P ops (DQ Q (fun a' w' => (late.contains i = true ∨ SF w0 M fx w') ∧ wpAnyL P md ops Q (SF w0 M fx) late fuel listed a' w')) [] a w :=
  wpList_nil (show (_ ∨ SF w0 M fx w) ∧ _ from ⟨.inl hl, h⟩)

/-! a call -/
def callable (P : Program) (f : FuncId) : Bool := match P.funcs[f]? with | some fn => !(fn.name == "runtime.NumGoroutine") && !fn.body.isNone | none => false
def ovals (a : Act) : List Operand → Option (List Value)
  | [] => some []
  | x :: xs => match oval a x, ovals a xs with | some v, some vs => some (v :: vs) | _, _ => none
theorem ovals_eval : ∀ {xs : List Operand} {vs : List Value}, ovals a xs = some vs → xs.map a.eval = vs
  | [], vs, h => by injection h
  | x :: xs, vs, h => by
    unfold ovals at h
    split at h
    · rename_i v us h1 h2
      injection h with h
      rw [List.map_cons, oval_eval h1, ovals_eval h2, h]
    · cases h
theorem st_call {fn : FuncId} {xs : List Operand} {vs : List Value} {ats : Array TypeId} {dst : Option Tmp} {tt : TypeId} {pos : String} {af : Array Edge} {gd : Option (Nat × Bool)} {rest : List Oper} (hw : Region.wanted ⟨dst, .call { callee := .value (.func fn), args := xs.toArray, argTypes := ats }, tt, pos, af, gd⟩ (yielded ops a.tmps) = true)
    (hf : callable P fn = true) (hv : ovals a xs = some vs)
    (h : Calls P fn vs.toArray w fun | .returned v, w'' => wpList P ops Q rest (a.put dst v) w'' | .panicked chain, w'' => Q (.panic chain) a w'' | .outgrown, _ => LetsOut Q) :
    wpList P ops Q (⟨dst, .call { callee := .value (.func fn), args := xs.toArray, argTypes := ats }, tt, pos, af, gd⟩ :: rest) a w := by
  unfold wpList
  rw [if_pos hw]
  refine .inl ?_
  unfold Oper.wp
  have hrun : (execOp a.eval ⟨dst, .call { callee := .value (.func fn), args := xs.toArray, argTypes := ats }, tt, pos, af, gd⟩).run P w = .ok (.enter fn vs.toArray) w := by
    unfold callable at hf
    cases hfn : P.funcs[fn]? with
    | none => rw [hfn] at hf; cases hf
    | some g =>
      rw [hfn] at hf
      simp only [Bool.and_eq_true, Bool.not_eq_true'] at hf
      have he : a.eval (.func fn) = .func (.func fn) #[] #[] := rfl
      have h1 : ¬ g.name = "runtime.NumGoroutine" := by simpa using hf.1
      have h2 : ¬ g.body = none := by intro h; rw [h] at hf; cases hf.2
      simp [execOp, resolve, he, Deferred.ofValue, invoke, callFunc, hfn, h1, h2, ovals_eval hv]
  rw [hrun]
  exact h
end
end Go.Proofs.Ytmjmdncdmmcmaaa

/- Data that a call has made and no longer changes: pieces of memory that are as in an earlier world. No condition. -/
namespace Go.Proofs.Ytmjmdncdmmcmaaa
open Go.RowKit
set_option linter.unusedVariables false
set_option linter.unusedSectionVars false

/-- the blocks of T are as in the world u -/
def froz {w0 : World} {M : Nat → Prop} (T : Nat → Prop) (u : World) : Chunk w0 M :=
  ⟨T, fun w => ∀ k, T k → k < w.heap.size ∧ w.heap[k]? = u.heap[k]?,
   fun {w w'} h hk k ht => by
     have h1 := h k ht
     have h2 := hk k (.inl ht)
     refine ⟨?_, h2.trans h1.2⟩
     have h3 : w'.heap[k]? = some w.heap[k] := h2.trans (Array.getElem?_eq_getElem h1.1)
     exact lt_of_block h3,
   fun h ht => (h _ ht).1⟩
class PickK {w0 : World} {M : Nat → Prop} (c : Chunk w0 M) (cs : List (Chunk w0 M)) (f : outParam (Chunk w0 M → List (Chunk w0 M))) : Prop where
  eq : cs = f c
  gap : Gap f
instance {w0 : World} {M : Nat → Prop} (c : Chunk w0 M) (r : List (Chunk w0 M)) : PickK c (c :: r) (fun c => c :: r) := ⟨rfl, .head r⟩
instance (priority := low) {w0 : World} {M : Nat → Prop} (c d : Chunk w0 M) (r : List (Chunk w0 M)) (f : Chunk w0 M → List (Chunk w0 M)) [h : PickK c r f] : PickK c (d :: r) (fun c => d :: f c) := ⟨by rw [h.eq], .tail d h.gap⟩
/-- the data piece -/
class PickF {w0 : World} {M : Nat → Prop} (cs : List (Chunk w0 M)) (T : outParam (Nat → Prop)) (u : outParam World) (f : outParam (Chunk w0 M → List (Chunk w0 M))) : Prop where
  eq : cs = f (froz T u)
  gap : Gap f
instance {w0 : World} {M : Nat → Prop} (T : Nat → Prop) (u : World) (r : List (Chunk w0 M)) : PickF (froz T u :: r) T u (fun c => c :: r) := ⟨rfl, .head r⟩
instance (priority := low) {w0 : World} {M : Nat → Prop} (T : Nat → Prop) (u : World) (d : Chunk w0 M) (r : List (Chunk w0 M)) (f : Chunk w0 M → List (Chunk w0 M)) [h : PickF r T u f] : PickF (d :: r) T u (fun c => d :: f c) := ⟨by rw [h.eq], .tail d h.gap⟩

section
variable {w0 w w' u : World} {M T : Nat → Prop} {c d : Chunk w0 M} {cs : List (Chunk w0 M)} {f : Chunk w0 M → List (Chunk w0 M)}
theorem St.frozNil (h : St w0 M cs w) : St w0 M (froz (fun _ => False) w :: cs) w := h.add (Ext.refl' w) (fun k h => h.elim) (fun k h => h.elim)
/-- what was said of the data in u holds now -/
theorem St.frozInto (h : St w0 M cs w) [hp : PickF cs T u f] : Into T T u w := fun k hk _ =>
  ⟨hk, ((hp.eq ▸ h : St w0 M (f (froz T u)) w).at_ hp.gap k hk).2⟩
/-- all that a call has made becomes data -/
theorem St.frozNew (h : St w0 M cs w) (hx : Ext w w') : St w0 M (froz (fun k => w.heap.size ≤ k ∧ k < w'.heap.size) w' :: cs) w' := h.add hx (fun k hk => ⟨hk.2, rfl⟩) (fun k hk => hk.1)
theorem St.join (h : St w0 M (c :: d :: cs) w) : St w0 M (pair c d :: cs) w := by
  have hap := List.pairwise_cons.1 h.apart
  have hap2 := List.pairwise_cons.1 hap.2
  refine ⟨h.keep, ?_, ?_, List.pairwise_cons.2 ⟨fun x hx k hk => hk.elim (hap.1 x (by simp [hx]) k) (hap2.1 x hx k), hap2.2⟩⟩
  · intro x hx
    rcases List.mem_cons.1 hx with rfl | hx
    · exact ⟨h.all c (by simp), h.all d (by simp), hap.1 d (by simp)⟩
    · exact h.all x (by simp [hx])
  · intro x hx k hk
    rcases List.mem_cons.1 hx with rfl | hx
    · exact hk.elim (h.new c (by simp) k) (h.new d (by simp) k)
    · exact h.new x (by simp [hx]) k hk
/-- a piece becomes data, beside what is data already -/
theorem St.freeze (h : St w0 M (c :: cs) w) [hp : PickF cs T u f] : St w0 M (f (froz (fun k => c.own k ∨ T k) w)) w := by
  have h' : St w0 M (c :: f (froz T u)) w := hp.eq ▸ h
  obtain ⟨s, h1, h2⟩ := gap_perm hp.gap (froz T u)
  have h3 : St w0 M (c :: froz T u :: s) w := h'.perm (h1.cons c)
  have h4 := h3.join
  have h5 : St w0 M (froz (fun k => c.own k ∨ T k) w :: s) w := h4.upd (Keep.refl _ _) (fun k hk => ⟨(pair c (froz T u)).lt h4.head hk, rfl⟩) (fun k hk => .inl hk)
  exact h5.perm (h2 _)
/-- a call adds data to data -/
theorem St.frozGrow (h : St w0 M cs w) [hp : PickF cs T u f] (hx : Ext w w') : St w0 M (f (froz (fun k => (w.heap.size ≤ k ∧ k < w'.heap.size) ∨ T k) w')) w' := by
  have h' := h.frozNew hx
  have h2 : St w0 M (f (froz (fun k => (froz (w0 := w0) (M := M) (fun k => w.heap.size ≤ k ∧ k < w'.heap.size) w').own k ∨ T k) w')) w' := h'.freeze
  exact h2
end
theorem Into.widen {S S' S'' : Nat → Prop} {w w' : World} (h : Into S S' w w') (hs : ∀ k, S' k → S'' k) : Into S S'' w w' := fun k hk hl => ⟨hs k (h k hk hl).1, (h k hk hl).2⟩
end Go.Proofs.Ytmjmdncdmmcmaaa

/- Loads of data that a call has made and no longer changes. No condition. -/
namespace Go.Proofs.Ytmjmdncdmmcmaaa
open Go.RowKit
set_option linter.unusedVariables false
set_option linter.unusedSectionVars false

/-- a cell of data -/
structure FC (T : Nat → Prop) (u : World) (b j : Nat) (v : Value) : Prop where
  t : T b
  c : u.cell? ⟨b, j, none⟩ = some v
/-- some cells of data -/
structure FCs (T : Nat → Prop) (u : World) (b j : Nat) (us : List Value) : Prop where
  t : T b
  c : Cells u b j us
theorem froz_cell {w0 w u : World} {M T : Nat → Prop} (h : (froz T u : Chunk w0 M).ok w) {b j : Nat} {v : Value} (ht : T b) (hc : u.cell? ⟨b, j, none⟩ = some v) : w.cell? ⟨b, j, none⟩ = some v := by
  rw [← hc]
  simp only [World.cell?, (h b ht).2]
section
variable {P : Program} {ops : Array Oper} {Q : Exit → Act → World → Prop} {a : Act} {w w0 u : World} {M T : Nat → Prop} {cs fx : List (Chunk w0 M)} {md : Region.Mode} {fuel : Nat} {listed : Array Bool} {late : List Nat} {rest : List Oper} {d : Option Tmp} {tt ty : TypeId} {pos : String} {af : Array Edge} {gd : Option (Nat × Bool)} {x : Operand}
theorem st_ldf (hS : St w0 M cs w) (hw : Region.wanted ⟨d, .load ty x, tt, pos, af, gd⟩ (yielded ops a.tmps) = true) [h1 : Ty1 P ty] {b j : Nat} (hx' : oval a x = some (.pointer (some ⟨b, j, none⟩))) {v : Value} (hc : FC T u b j v) [hm : MemC (froz T u) cs]
    (k : wpList P ops Q rest (a.put d v) w) : wpList P ops Q (⟨d, .load ty x, tt, pos, af, gd⟩ :: rest) a w := st_load1 h1 hw hx' (froz_cell (hS.all _ hm.h) hc.t hc.c) k
theorem st_ldfs {n : Nat} (hS : St w0 M cs w) (hw : Region.wanted ⟨d, .load ty x, tt, pos, af, gd⟩ (yielded ops a.tmps) = true) [h1 : TyN P ty n] {b j : Nat} (hx' : oval a x = some (.pointer (some ⟨b, j, none⟩))) {us : List Value} (hc : FCs T u b j us) (hl : us.length = n) [hm : MemC (froz T u) cs]
    (k : wpList P ops Q rest (a.put d (.agg us.toArray)) w) : wpList P ops Q (⟨d, .load ty x, tt, pos, af, gd⟩ :: rest) a w := st_loadN h1 hw hx' hl (fun i u hu => froz_cell (hS.all _ hm.h) hc.t (hc.c i u hu)) k
theorem dr_ldf [hs : SubC fx cs] (hS : St w0 M cs w) (i : Nat) (hi : ops[i]? = some ⟨d, .load ty x, tt, pos, af, gd⟩) (hn : Region.noSelect ops = true) (hf : (Region.free md ops listed i && lateOk md ops late i) = true) (hr : (Region.ready md ops listed).contains i = true)
    (hQ : ∀ c a v w, Q (.panic c) (a.put d v) w → Q (.panic c) a w) (hw : Region.wanted ⟨d, .load ty x, tt, pos, af, gd⟩ (yielded ops a.tmps) = true) [h1 : Ty1 P ty] {b j : Nat} (hx' : oval a x = some (.pointer (some ⟨b, j, none⟩))) {v : Value} (hc : FC T u b j v) [hm : MemC (froz T u) fx]
    (h : wpAnyL P md ops Q (SF w0 M fx) late fuel (listed.setIfInBounds i true) (a.put d v) w) : wpAnyL P md ops Q (SF w0 M fx) late (fuel + 1) listed a w :=
  dr_load1 h1 hS i hi hn hf hr hQ hw hx' (fun w hw' => froz_cell (hw'.ok hm.h) hc.t hc.c) h
end
end Go.Proofs.Ytmjmdncdmmcmaaa

/- The arms of a walk, each with its arguments found by itself. No condition. -/
namespace Go.Proofs.Ytmjmdncdmmcmaaa
open Go.RowKit
set_option linter.unusedVariables false
set_option linter.unusedSectionVars false
theorem nA {α : Type} (l : List α) (i : Nat) (x : α) : l.toArray.setIfInBounds i x = (l.set i x).toArray := List.setIfInBounds_toArray ..
theorem nB {α : Type} (y : α) (l : List α) (x : α) : (y :: l).set 0 x = x :: l := rfl
theorem nC {α : Type} (y : α) (l : List α) (i : Nat) (x : α) : (y :: l).set (i + 1) x = y :: l.set i x := rfl
section
variable {P : Program} {ops : Array Oper} {Q : Exit → Act → World → Prop} {a : Act} {w w0 : World} {M : Nat → Prop} {cs ds fx : List (Chunk w0 M)} {f : Chunk w0 M → List (Chunk w0 M)} {rest : List Oper} {d : Option Tmp} {tt ty t e : TypeId} {pos : String} {af : Array Edge} {gd : Option (Nat × Bool)} {x y : Operand} {md : Region.Mode} {fuel : Nat} {listed : Array Bool} {late : List Nat} {op : Op}
theorem oL (k : wpList P ops Q (⟨d, .load ty x, tt, pos, af, gd⟩ :: rest) a w) : wpList P ops Q (⟨d, .load ty x, tt, pos, af, gd⟩ :: rest) a w := k
theorem oS (k : wpList P ops Q (⟨d, .store ty x y, tt, pos, af, gd⟩ :: rest) a w) : wpList P ops Q (⟨d, .store ty x y, tt, pos, af, gd⟩ :: rest) a w := k
theorem oP (k : wpList P ops Q (⟨d, .call { callee := .builtin .append, args := #[x, y], argTypes := #[t, t] }, tt, pos, af, gd⟩ :: rest) a w) : wpList P ops Q (⟨d, .call { callee := .builtin .append, args := #[x, y], argTypes := #[t, t] }, tt, pos, af, gd⟩ :: rest) a w := k
theorem oB (k : wpList P ops Q (⟨d, .box ty x, tt, pos, af, gd⟩ :: rest) a w) : wpList P ops Q (⟨d, .box ty x, tt, pos, af, gd⟩ :: rest) a w := k
theorem oC {n : Nat} {parts : Array (Nat × Operand)} (k : wpList P ops Q (⟨d, .buildSlice ty n parts, tt, pos, af, gd⟩ :: rest) a w) : wpList P ops Q (⟨d, .buildSlice ty n parts, tt, pos, af, gd⟩ :: rest) a w := k
theorem sL1 {b j : Nat} {vs : List Value} {v : Value} (hS : St w0 M cs w) [h1 : Ty1 P ty] [hp : PickB b cs vs t f] (hw : Region.wanted ⟨d, .load ty x, tt, pos, af, gd⟩ (yielded ops a.tmps) = true) (hx' : oval a x = some (.pointer (some ⟨b, j, none⟩))) (hj : vs[j]? = some v) (k : wpList P ops Q rest (a.put d v) w) : wpList P ops Q (⟨d, .load ty x, tt, pos, af, gd⟩ :: rest) a w := st_ld hS hw hx' hj k
theorem sL2 {n : Nat} {b : Nat} {us : List Value} (hS : St w0 M cs w) [h1 : TyN P ty n] [hp : PickB b cs us t f] (hw : Region.wanted ⟨d, .load ty x, tt, pos, af, gd⟩ (yielded ops a.tmps) = true) (hx' : oval a x = some (.pointer (some ⟨b, 0, none⟩))) (hl : us.length = n) (k : wpList P ops Q rest (a.put d (.agg us.toArray)) w) : wpList P ops Q (⟨d, .load ty x, tt, pos, af, gd⟩ :: rest) a w := st_lds hS hw hx' hl k
theorem sL3 {n : Nat} {b j : Nat} {us : List Value} (hS : St w0 M cs w) [h1 : TyN P ty n] (hw : Region.wanted ⟨d, .load ty x, tt, pos, af, gd⟩ (yielded ops a.tmps) = true) (hx' : oval a x = some (.pointer (some ⟨b, j, none⟩))) (k : wpList P ops Q rest (a.put d (.agg us.toArray)) w) (hc : Cells w0 b j us := by assumption) (hl : us.length = n := by rfl) (hm : ¬ M b := by first | exact id | assumption | omega) : wpList P ops Q (⟨d, .load ty x, tt, pos, af, gd⟩ :: rest) a w := st_ldos hS hw hx' hc hl hm k
theorem sL4 {b j : Nat} {v : Value} (hS : St w0 M cs w) [h1 : Ty1 P ty] (hw : Region.wanted ⟨d, .load ty x, tt, pos, af, gd⟩ (yielded ops a.tmps) = true) (hx' : oval a x = some (.pointer (some ⟨b, j, none⟩))) (k : wpList P ops Q rest (a.put d v) w) (hc : w0.cell? ⟨b, j, none⟩ = some v := by assumption) (hm : ¬ M b := by first | exact id | assumption | omega) : wpList P ops Q (⟨d, .load ty x, tt, pos, af, gd⟩ :: rest) a w := st_ldo hS hw hx' hc hm k
theorem sL5 {b j : Nat} {vs : List Value} {sz n m cp : Nat} {v : Value} (hS : St w0 M cs w) [h1 : Ty1 P ty] [hp : PickG b cs e sz n m cp vs f] (hw : Region.wanted ⟨d, .load ty x, tt, pos, af, gd⟩ (yielded ops a.tmps) = true) (hx' : oval a x = some (.pointer (some ⟨b, j, none⟩))) (k : wpList P ops Q rest (a.put d v) w) (hj : vs[j]? = some v := by assumption) : wpList P ops Q (⟨d, .load ty x, tt, pos, af, gd⟩ :: rest) a w := st_ldr hS hw hx' hj k
theorem sL6 {n : Nat} {T : Nat → Prop} {u : World} {b j : Nat} {us : List Value} (hS : St w0 M cs w) [h1 : TyN P ty n] [hm : MemC (froz T u) cs] (hw : Region.wanted ⟨d, .load ty x, tt, pos, af, gd⟩ (yielded ops a.tmps) = true) (hx' : oval a x = some (.pointer (some ⟨b, j, none⟩))) (k : wpList P ops Q rest (a.put d (.agg us.toArray)) w) (hc : FCs T u b j us := by assumption) (hl : us.length = n := by rfl) : wpList P ops Q (⟨d, .load ty x, tt, pos, af, gd⟩ :: rest) a w := st_ldfs hS hw hx' hc hl k
theorem sL7 {T : Nat → Prop} {u : World} {b j : Nat} {v : Value} (hS : St w0 M cs w) [h1 : Ty1 P ty] [hm : MemC (froz T u) cs] (hw : Region.wanted ⟨d, .load ty x, tt, pos, af, gd⟩ (yielded ops a.tmps) = true) (hx' : oval a x = some (.pointer (some ⟨b, j, none⟩))) (k : wpList P ops Q rest (a.put d v) w) (hc : FC T u b j v := by assumption) : wpList P ops Q (⟨d, .load ty x, tt, pos, af, gd⟩ :: rest) a w := st_ldf hS hw hx' hc k
theorem sS1 {g j : Nat} {v : Value} {vs : List Value} (hS : St w0 M cs w) [h1 : Ty1 P ty] [hp : PickB g cs vs t f] (hw : Region.wanted ⟨d, .store ty x y, tt, pos, af, gd⟩ (yielded ops a.tmps) = true) (hx' : oval a x = some (.pointer (some ⟨g, j, none⟩))) (hy' : oval a y = some v) (k : ∀ w', St w0 M (f (blk g (vs.set j v) t)) w' → wpList P ops Q rest (a.put d undef) w') (h1 : v.oneCell' = true := by rfl) (hj : j < vs.length := by simp) : wpList P ops Q (⟨d, .store ty x y, tt, pos, af, gd⟩ :: rest) a w := st_st hS hw hx' hy' h1 hj k
theorem sS2 {g j : Nat} {v : Int} {zs : List Int} {n m cp : Nat} (hS : St w0 M cs w) [h1 : Ty1 P ty] [hp : PickG g cs e 1 n m cp (ints zs) f] (hw : Region.wanted ⟨d, .store ty x y, tt, pos, af, gd⟩ (yielded ops a.tmps) = true) (hx' : oval a x = some (.pointer (some ⟨g, j, none⟩))) (hy' : oval a y = some (.int .i64 v)) (k : ∀ w', St w0 M (f (row (.slice (some ⟨g, 0, none⟩) m cp) e 1 n (ints (zs.set j v)))) w' → wpList P ops Q rest (a.put d undef) w') (hj : j < zs.length := by first | omega | (simp; omega)) : wpList P ops Q (⟨d, .store ty x y, tt, pos, af, gd⟩ :: rest) a w := st_strI hS hw hx' hy' hj k
theorem sS3 {g j : Nat} {v : Value} {vs : List Value} {sz n m cp : Nat} (hS : St w0 M cs w) [h1 : Ty1 P ty] [hp : PickG g cs e sz n m cp vs f] (hw : Region.wanted ⟨d, .store ty x y, tt, pos, af, gd⟩ (yielded ops a.tmps) = true) (hx' : oval a x = some (.pointer (some ⟨g, j, none⟩))) (hy' : oval a y = some v) (k : ∀ w', St w0 M (f (row (.slice (some ⟨g, 0, none⟩) m cp) e sz n (vs.set j v))) w' → wpList P ops Q rest (a.put d undef) w') (h1 : v.oneCell' = true := by rfl) (hj : j < vs.length := by first | omega | (simp; omega)) : wpList P ops Q (⟨d, .store ty x y, tt, pos, af, gd⟩ :: rest) a w := st_str hS hw hx' hy' h1 hj k
theorem sS4 {n : Nat} {us : List Value} {g : Nat} {vs : List Value} (hS : St w0 M cs w) [hT : TyN P ty n] [hp : PickB g cs vs t f] (hw : Region.wanted ⟨d, .store ty x y, tt, pos, af, gd⟩ (yielded ops a.tmps) = true) (hx' : oval a x = some (.pointer (some ⟨g, 0, none⟩))) (hy' : oval a y = some (.agg us.toArray)) (k : ∀ w', St w0 M (f (blk g us t)) w' → wpList P ops Q rest (a.put d undef) w') (hz : us.length = n := by rfl) (h1 : ∀ u ∈ us, u.oneCell' = true := by simp [Value.oneCell']) (hj : us.length = vs.length := by rfl) : wpList P ops Q (⟨d, .store ty x y, tt, pos, af, gd⟩ :: rest) a w := st_storeW hS hw hx' hy' hz h1 hj k
theorem sS5 {n : Nat} {us : List Value} {g j : Nat} {vs : List Value} (hS : St w0 M cs w) [hT : TyN P ty n] [hp : PickB g cs vs t f] (hw : Region.wanted ⟨d, .store ty x y, tt, pos, af, gd⟩ (yielded ops a.tmps) = true) (hx' : oval a x = some (.pointer (some ⟨g, j, none⟩))) (hy' : oval a y = some (.agg us.toArray)) (k : ∀ w', St w0 M (f (blk g (puts vs j us) t)) w' → wpList P ops Q rest (a.put d undef) w') (hz : us.length = n := by rfl) (h1 : ∀ u ∈ us, u.oneCell' = true := by simp [Value.oneCell']) (hj : j + us.length ≤ vs.length := by simp) : wpList P ops Q (⟨d, .store ty x y, tt, pos, af, gd⟩ :: rest) a w := st_stores hS hw hx' hy' hz h1 hj k
theorem sB1 {us : List Value} (hS : St w0 M cs w) (hw : Region.wanted ⟨d, .box ty x, tt, pos, af, gd⟩ (yielded ops a.tmps) = true) (hx' : oval a x = some (.agg us.toArray)) (k : ∀ g w', St w0 M (blk g us ty :: cs) w' → wpList P ops Q rest (a.put d (.pointer (some ⟨g, 0, none⟩))) w') : wpList P ops Q (⟨d, .box ty x, tt, pos, af, gd⟩ :: rest) a w := st_box hS hw hx' k
theorem sN1 {us : List Value} (hS : St w0 M cs w) [hz : TyZ P ty us] (hw : Region.wanted ⟨d, .alloc ty, tt, pos, af, gd⟩ (yielded ops a.tmps) = true) (k : ∀ g w', St w0 M (blk g us ty :: cs) w' → wpList P ops Q rest (a.put d (.pointer (some ⟨g, 0, none⟩))) w') : wpList P ops Q (⟨d, .alloc ty, tt, pos, af, gd⟩ :: rest) a w := st_alloc hS hw k
theorem sC0 {sz bytes : Nat} (hS : St w0 M cs w) [hT : ElemC P ty e sz bytes] (hw : Region.wanted ⟨d, .buildSlice ty 0 #[], tt, pos, af, gd⟩ (yielded ops a.tmps) = true) (k : ∀ g w', St w0 M (row (.slice (some ⟨g, 0, none⟩) 0 0) e sz 0 [] :: cs) w' → wpList P ops Q rest (a.put d (.slice (some ⟨g, 0, none⟩) 0 0)) w') : wpList P ops Q (⟨d, .buildSlice ty 0 #[], tt, pos, af, gd⟩ :: rest) a w := st_bs0 hS hw k
theorem sC1 {sz bytes : Nat} {v : Value} (hS : St w0 M cs w) [hT : ElemC P ty e sz bytes] (hw : Region.wanted ⟨d, .buildSlice ty 1 #[(0, x)], tt, pos, af, gd⟩ (yielded ops a.tmps) = true) (hx' : oval a x = some v) (k : ∀ g w', St w0 M (blk g ([v]) e :: cs) w' → wpList P ops Q rest (a.put d (.slice (some ⟨g, 0, none⟩) 1 1)) w') (h1 : v.oneCell' = true := by rfl) (hz : sz = 1 := by rfl) : wpList P ops Q (⟨d, .buildSlice ty 1 #[(0, x)], tt, pos, af, gd⟩ :: rest) a w := st_bs1 hS hw hx' h1 hz k
theorem sC2 {sz bytes : Nat} {us : List Value} (hS : St w0 M cs w) [hT : ElemC P ty e sz bytes] (hw : Region.wanted ⟨d, .buildSlice ty 1 #[(0, x)], tt, pos, af, gd⟩ (yielded ops a.tmps) = true) (hx' : oval a x = some (.agg us.toArray)) (k : ∀ g w', St w0 M (blk g (us) e :: cs) w' → wpList P ops Q rest (a.put d (.slice (some ⟨g, 0, none⟩) 1 1)) w') (hl : us.length = sz := by rfl) (hz : sz ≤ 1000 := by decide) : wpList P ops Q (⟨d, .buildSlice ty 1 #[(0, x)], tt, pos, af, gd⟩ :: rest) a w := st_bs1A hS hw hx' hl hz k
theorem sC3 {sz bytes : Nat} {v u : Value} (hS : St w0 M cs w) [hT : ElemC P ty e sz bytes] (hw : Region.wanted ⟨d, .buildSlice ty 2 #[(0, x), (1, y)], tt, pos, af, gd⟩ (yielded ops a.tmps) = true) (hx' : oval a x = some v) (hy' : oval a y = some u) (k : ∀ g w', St w0 M (blk g ([v, u]) e :: cs) w' → wpList P ops Q rest (a.put d (.slice (some ⟨g, 0, none⟩) 2 2)) w') (h1 : v.oneCell' = true := by rfl) (h2 : u.oneCell' = true := by rfl) (hz : sz = 1 := by rfl) : wpList P ops Q (⟨d, .buildSlice ty 2 #[(0, x), (1, y)], tt, pos, af, gd⟩ :: rest) a w := st_bs2 hS hw hx' hy' h1 h2 hz k
theorem sC4 {sz bytes : Nat} {us vs : List Value} (hS : St w0 M cs w) [hT : ElemC P ty e sz bytes] (hw : Region.wanted ⟨d, .buildSlice ty 2 #[(0, x), (1, y)], tt, pos, af, gd⟩ (yielded ops a.tmps) = true) (hx' : oval a x = some (.agg us.toArray)) (hy' : oval a y = some (.agg vs.toArray)) (k : ∀ g w', St w0 M (blk g (us ++ vs) e :: cs) w' → wpList P ops Q rest (a.put d (.slice (some ⟨g, 0, none⟩) 2 2)) w') (hl : us.length = sz := by rfl) (hl2 : vs.length = sz := by rfl) (hz : sz ≤ 1000 := by decide) : wpList P ops Q (⟨d, .buildSlice ty 2 #[(0, x), (1, y)], tt, pos, af, gd⟩ :: rest) a w := st_bs2A hS hw hx' hy' hl hl2 hz k
theorem sM1 {bytes n : Nat} {z1 z2 : Int} (hS : St w0 M cs w) [hT : ElemC P ty e 1 bytes] [hz : TyZ P e [.int .i64 0]] (hw : Region.wanted ⟨d, .makeSlice ty x y, tt, pos, af, gd⟩ (yielded ops a.tmps) = true) (hx' : oval a x = some (.int .i64 z1)) (hy' : oval a y = some (.int .i64 z2)) (k : ∀ g w', St w0 M (row (.slice (some ⟨g, 0, none⟩) n n) e 1 n (ints (List.replicate n 0)) :: cs) w' → wpList P ops Q rest (a.put d (.slice (some ⟨g, 0, none⟩) n n)) w') (h1 : z1 = n := by first | rfl | omega | simp) (h2 : z2 = n := by first | rfl | omega | simp) (hb : bytes * n ≤ 140737488355328 := by omega) : wpList P ops Q (⟨d, .makeSlice ty x y, tt, pos, af, gd⟩ :: rest) a w := st_mkI hS hw hx' hy' h1 h2 hb k
theorem sP1 {bytes c c1 g : Nat} {ys : List Int} {z : Int} {L1 : Option Addr} {t' : TypeId} (hS : St w0 M cs w) [hT : ElemC P t e 1 bytes] [hd : DropB g cs [.int .i64 z] t' ds] [hp : PickR (.slice L1 ys.length c1) ds e 1 ys.length (ints ys) f] (hw : Region.wanted ⟨d, .call { callee := .builtin .append, args := #[x, y], argTypes := #[t, t] }, tt, pos, af, gd⟩ (yielded ops a.tmps) = true) (hx' : oval a x = some (.slice L1 ys.length c1)) (hy' : oval a y = some (.slice (some ⟨g, 0, none⟩) 1 c)) (k : ∀ L c' w', ys.length + 1 ≤ c' → c' ≤ 9223372036854775807 → St w0 M (f (irow e L c' (ys ++ [z]))) w' → wpList P ops Q rest (a.put d (.slice L (ys ++ [z]).length c')) w') (hb : (ys.length + 1) * bytes ≤ 140737488355328 := by omega) : wpList P ops Q (⟨d, .call { callee := .builtin .append, args := #[x, y], argTypes := #[t, t] }, tt, pos, af, gd⟩ :: rest) a w := st_appI hS hw hx' hy' hb k
theorem sP2 {sz bytes n m c g : Nat} {v : Value} {news : List Value} {t' : TypeId} {vs : List Value} (hS : St w0 M cs w) [hT : ElemC P t e sz bytes] [hd : DropB g cs news t' ds] [hp : PickR v ds e sz n vs f] (hw : Region.wanted ⟨d, .call { callee := .builtin .append, args := #[x, y], argTypes := #[t, t] }, tt, pos, af, gd⟩ (yielded ops a.tmps) = true) (hx' : oval a x = some v) (hy' : oval a y = some (.slice (some ⟨g, 0, none⟩) m c)) (k : ∀ L c' w', n + m ≤ c' → c' ≤ 9223372036854775807 → St w0 M (f (row (.slice L (n + m) c') e sz (n + m) (vs ++ news))) w' → wpList P ops Q rest (a.put d (.slice L (n + m) c')) w') (hl : news.length = m * sz := by rfl) (h1 : ∀ u ∈ news, u.oneCell' = true := by simp [Value.oneCell']) (hb : (n + m) * bytes ≤ 140737488355328 := by omega) : wpList P ops Q (⟨d, .call { callee := .builtin .append, args := #[x, y], argTypes := #[t, t] }, tt, pos, af, gd⟩ :: rest) a w := st_app hS hw hx' hy' hl h1 hb k
theorem sP3 {sz bytes m c g : Nat} {news : List Value} {t' : TypeId} (hS : St w0 M cs w) [hT : ElemC P t e sz bytes] [hd : DropB g cs news t' ds] (hw : Region.wanted ⟨d, .call { callee := .builtin .append, args := #[x, y], argTypes := #[t, t] }, tt, pos, af, gd⟩ (yielded ops a.tmps) = true) (hx' : oval a x = some (.slice none 0 0)) (hy' : oval a y = some (.slice (some ⟨g, 0, none⟩) m c)) (k : ∀ L c' w', m ≤ c' → c' ≤ 9223372036854775807 → St w0 M (row (.slice L m c') e sz m news :: ds) w' → wpList P ops Q rest (a.put d (.slice L m c')) w') (hl : news.length = m * sz := by rfl) (h1 : ∀ u ∈ news, u.oneCell' = true := by simp [Value.oneCell']) (hb : m * bytes ≤ 140737488355328 := by omega) : wpList P ops Q (⟨d, .call { callee := .builtin .append, args := #[x, y], argTypes := #[t, t] }, tt, pos, af, gd⟩ :: rest) a w := st_app0 hS hw hx' hy' hl h1 hb k
theorem dM {v : Value} (hS : St w0 M cs w) (i : Nat) [hs : SubC fx cs] (hi : ops[i]? = some ⟨d, .move x, tt, pos, af, gd⟩) (hw : Region.wanted ⟨d, .move x, tt, pos, af, gd⟩ (yielded ops a.tmps) = true) (hx : oval a x = some v) (h : wpAnyL P md ops Q (SF w0 M fx) late fuel (listed.setIfInBounds i true) (a.put d v) w) (hn : Region.noSelect ops = true := by kernel_rfl) (hf : (Region.free md ops listed i && lateOk md ops late i) = true := by kernel_rfl) (hr : (Region.ready md ops listed).contains i = true := by kernel_rfl) (hQ : ∀ c a v w, Q (.panic c) (a.put d v) w → Q (.panic c) a w := by exact fun _ _ _ _ h => h) : wpAnyL P md ops Q (SF w0 M fx) late (fuel + 1) listed a w := dr_move hS i hi hn hf hr hQ hw hx h
theorem dA {v : Value} (hS : St w0 M cs w) (i : Nat) [hs : SubC fx cs] (hi : ops[i]? = some ⟨d, .assign x, tt, pos, af, gd⟩) (hw : Region.wanted ⟨d, .assign x, tt, pos, af, gd⟩ (yielded ops a.tmps) = true) (hx : oval a x = some v) (h : wpAnyL P md ops Q (SF w0 M fx) late fuel (listed.setIfInBounds i true) (a.put d v) w) (hn : Region.noSelect ops = true := by kernel_rfl) (hf : (Region.free md ops listed i && lateOk md ops late i) = true := by kernel_rfl) (hr : (Region.ready md ops listed).contains i = true := by kernel_rfl) (hQ : ∀ c a v w, Q (.panic c) (a.put d v) w → Q (.panic c) a w := by exact fun _ _ _ _ h => h) : wpAnyL P md ops Q (SF w0 M fx) late (fuel + 1) listed a w := dr_assign hS i hi hn hf hr hQ hw hx h
theorem dP {v : Value} (hS : St w0 M cs w) (i : Nat) [hs : SubC fx cs] (hi : ops[i]? = some ⟨d, op, tt, pos, af, gd⟩) (hw : Region.wanted ⟨d, op, tt, pos, af, gd⟩ (yielded ops a.tmps) = true) (h : wpAnyL P md ops Q (SF w0 M fx) late fuel (listed.setIfInBounds i true) (a.put d v) w) (hn : Region.noSelect ops = true := by kernel_rfl) (hf : (Region.free md ops listed i && lateOk md ops late i) = true := by kernel_rfl) (hr : (Region.ready md ops listed).contains i = true := by kernel_rfl) (hQ : ∀ c a v w, Q (.panic c) (a.put d v) w → Q (.panic c) a w := by exact fun _ _ _ _ h => h) (hy : ∀ w, (execOp a.eval ⟨d, op, tt, pos, af, gd⟩).run P w = .ok (.value v) w := by intro w; first | (go_simp; done) | (go_simp; (try go_ints); rfl)) : wpAnyL P md ops Q (SF w0 M fx) late (fuel + 1) listed a w := dr_pure hS i hi hn hf hr hQ hw hy h
theorem dQ (hS : St w0 M cs w) (i : Nat) [hs : SubC fx cs] (hi : ops[i]? = some ⟨d, op, tt, pos, af, gd⟩) (hw : Region.wanted ⟨d, op, tt, pos, af, gd⟩ (yielded ops a.tmps) = false) (h : wpAnyL P md ops Q (SF w0 M fx) late fuel (listed.setIfInBounds i true) (a.put d undef) w) (hn : Region.noSelect ops = true := by kernel_rfl) (hf : (Region.free md ops listed i && lateOk md ops late i) = true := by kernel_rfl) (hr : (Region.ready md ops listed).contains i = true := by kernel_rfl) (hQ : ∀ c a w, Q (.panic c) (a.put d undef) w → Q (.panic c) a w := by exact fun _ _ _ h => h) : wpAnyL P md ops Q (SF w0 M fx) late (fuel + 1) listed a w := dr_pass hS i hi hn hf hr hQ hw h
theorem dL1 {b j : Nat} {vs : List Value} {v : Value} (hS : St w0 M cs w) (i : Nat) [hs : SubC fx cs] [h1 : Ty1 P ty] [hp : PickB b fx vs t f] (hi : ops[i]? = some ⟨d, .load ty x, tt, pos, af, gd⟩) (hw : Region.wanted ⟨d, .load ty x, tt, pos, af, gd⟩ (yielded ops a.tmps) = true) (hx' : oval a x = some (.pointer (some ⟨b, j, none⟩))) (hj : vs[j]? = some v) (h : wpAnyL P md ops Q (SF w0 M fx) late fuel (listed.setIfInBounds i true) (a.put d v) w) (hn : Region.noSelect ops = true := by kernel_rfl) (hf : (Region.free md ops listed i && lateOk md ops late i) = true := by kernel_rfl) (hr : (Region.ready md ops listed).contains i = true := by kernel_rfl) (hQ : ∀ c a v w, Q (.panic c) (a.put d v) w → Q (.panic c) a w := by exact fun _ _ _ _ h => h) : wpAnyL P md ops Q (SF w0 M fx) late (fuel + 1) listed a w := dr_ld hS i hi hn hf hr hQ hw hx' hj h
theorem dL2 {n : Nat} {b : Nat} {us : List Value} (hS : St w0 M cs w) (i : Nat) [hs : SubC fx cs] [h1 : TyN P ty n] [hp : PickB b fx us t f] (hi : ops[i]? = some ⟨d, .load ty x, tt, pos, af, gd⟩) (hw : Region.wanted ⟨d, .load ty x, tt, pos, af, gd⟩ (yielded ops a.tmps) = true) (hx' : oval a x = some (.pointer (some ⟨b, 0, none⟩))) (hl : us.length = n) (h : wpAnyL P md ops Q (SF w0 M fx) late fuel (listed.setIfInBounds i true) (a.put d (.agg us.toArray)) w) (hn : Region.noSelect ops = true := by kernel_rfl) (hf : (Region.free md ops listed i && lateOk md ops late i) = true := by kernel_rfl) (hr : (Region.ready md ops listed).contains i = true := by kernel_rfl) (hQ : ∀ c a v w, Q (.panic c) (a.put d v) w → Q (.panic c) a w := by exact fun _ _ _ _ h => h) : wpAnyL P md ops Q (SF w0 M fx) late (fuel + 1) listed a w := dr_lds hS i hi hn hf hr hQ hw hx' hl h
theorem dL3 {n : Nat} {b j : Nat} {us : List Value} (hS : St w0 M cs w) (i : Nat) [hs : SubC fx cs] [h1 : TyN P ty n] (hi : ops[i]? = some ⟨d, .load ty x, tt, pos, af, gd⟩) (hw : Region.wanted ⟨d, .load ty x, tt, pos, af, gd⟩ (yielded ops a.tmps) = true) (hx' : oval a x = some (.pointer (some ⟨b, j, none⟩))) (h : wpAnyL P md ops Q (SF w0 M fx) late fuel (listed.setIfInBounds i true) (a.put d (.agg us.toArray)) w) (hn : Region.noSelect ops = true := by kernel_rfl) (hf : (Region.free md ops listed i && lateOk md ops late i) = true := by kernel_rfl) (hr : (Region.ready md ops listed).contains i = true := by kernel_rfl) (hQ : ∀ c a v w, Q (.panic c) (a.put d v) w → Q (.panic c) a w := by exact fun _ _ _ _ h => h) (hc : Cells w0 b j us := by assumption) (hl : us.length = n := by rfl) (hm : ¬ M b := by first | exact id | assumption | omega) : wpAnyL P md ops Q (SF w0 M fx) late (fuel + 1) listed a w := dr_ldos hS i hi hn hf hr hQ hw hx' hc hl hm h
theorem dL4 {b j : Nat} {v : Value} (hS : St w0 M cs w) (i : Nat) [hs : SubC fx cs] [h1 : Ty1 P ty] (hi : ops[i]? = some ⟨d, .load ty x, tt, pos, af, gd⟩) (hw : Region.wanted ⟨d, .load ty x, tt, pos, af, gd⟩ (yielded ops a.tmps) = true) (hx' : oval a x = some (.pointer (some ⟨b, j, none⟩))) (h : wpAnyL P md ops Q (SF w0 M fx) late fuel (listed.setIfInBounds i true) (a.put d v) w) (hn : Region.noSelect ops = true := by kernel_rfl) (hf : (Region.free md ops listed i && lateOk md ops late i) = true := by kernel_rfl) (hr : (Region.ready md ops listed).contains i = true := by kernel_rfl) (hQ : ∀ c a v w, Q (.panic c) (a.put d v) w → Q (.panic c) a w := by exact fun _ _ _ _ h => h) (hc : w0.cell? ⟨b, j, none⟩ = some v := by assumption) (hm : ¬ M b := by first | exact id | assumption | omega) : wpAnyL P md ops Q (SF w0 M fx) late (fuel + 1) listed a w := dr_ldo hS i hi hn hf hr hQ hw hx' hc hm h
theorem dL5 {b j : Nat} {vs : List Value} {sz n m cp : Nat} {v : Value} (hS : St w0 M cs w) (i : Nat) [hs : SubC fx cs] [h1 : Ty1 P ty] [hp : PickG b fx e sz n m cp vs f] (hi : ops[i]? = some ⟨d, .load ty x, tt, pos, af, gd⟩) (hw : Region.wanted ⟨d, .load ty x, tt, pos, af, gd⟩ (yielded ops a.tmps) = true) (hx' : oval a x = some (.pointer (some ⟨b, j, none⟩))) (h : wpAnyL P md ops Q (SF w0 M fx) late fuel (listed.setIfInBounds i true) (a.put d v) w) (hn : Region.noSelect ops = true := by kernel_rfl) (hf : (Region.free md ops listed i && lateOk md ops late i) = true := by kernel_rfl) (hr : (Region.ready md ops listed).contains i = true := by kernel_rfl) (hQ : ∀ c a v w, Q (.panic c) (a.put d v) w → Q (.panic c) a w := by exact fun _ _ _ _ h => h) (hj : vs[j]? = some v := by assumption) : wpAnyL P md ops Q (SF w0 M fx) late (fuel + 1) listed a w := dr_ldr hS i hi hn hf hr hQ hw hx' hj h
theorem dL7 {T : Nat → Prop} {u : World} {b j : Nat} {v : Value} (hS : St w0 M cs w) (i : Nat) [hs : SubC fx cs] [h1 : Ty1 P ty] [hm : MemC (froz T u) fx] (hi : ops[i]? = some ⟨d, .load ty x, tt, pos, af, gd⟩) (hw : Region.wanted ⟨d, .load ty x, tt, pos, af, gd⟩ (yielded ops a.tmps) = true) (hx' : oval a x = some (.pointer (some ⟨b, j, none⟩))) (h : wpAnyL P md ops Q (SF w0 M fx) late fuel (listed.setIfInBounds i true) (a.put d v) w) (hn : Region.noSelect ops = true := by kernel_rfl) (hf : (Region.free md ops listed i && lateOk md ops late i) = true := by kernel_rfl) (hr : (Region.ready md ops listed).contains i = true := by kernel_rfl) (hQ : ∀ c a v w, Q (.panic c) (a.put d v) w → Q (.panic c) a w := by exact fun _ _ _ _ h => h) (hc : FC T u b j v := by assumption) : wpAnyL P md ops Q (SF w0 M fx) late (fuel + 1) listed a w := dr_ldf hS i hi hn hf hr hQ hw hx' hc h
end
end Go.Proofs.Ytmjmdncdmmcmaaa

/- Regions in their written order, operation by operation. No condition. -/
namespace Go.Proofs.Ytmjmdncdmmcmaaa
open Go.RowKit
set_option linter.unusedVariables false
set_option linter.unusedSectionVars false
section
variable {P : Program} {ops : Array Oper} {Q : Exit → Act → World → Prop} {a : Act} {w : World} {rest : List Oper} {d : Option Tmp} {tt ty : TypeId} {pos : String} {af : Array Edge} {gd : Option (Nat × Bool)} {x : Operand} {op : Op}
/-- a list of operations still to be run, as one thing that does not unfold -/
structure WL (P : Program) (ops : Array Oper) (Q : Exit → Act → World → Prop) (l : List Oper) (a : Act) (w : World) : Prop where
  h : wpList P ops Q l a w
theorem lR {id : Nat} {l : List Oper} (h : WL P l.toArray Q l a w) : (Code.region id l.toArray false).wp P Q a w := wp_region_lit h.h
theorem lQ (hw : Region.wanted ⟨d, op, tt, pos, af, gd⟩ (yielded ops a.tmps) = false) (k : WL P ops Q rest (a.put d undef) w) : WL P ops Q (⟨d, op, tt, pos, af, gd⟩ :: rest) a w := ⟨wpList_skip hw k.h⟩
theorem lP {v : Value} (hw : Region.wanted ⟨d, op, tt, pos, af, gd⟩ (yielded ops a.tmps) = true) (k : WL P ops Q rest (a.put d v) w) (hy : (execOp a.eval ⟨d, op, tt, pos, af, gd⟩).run P w = .ok (.value v) w := by first | (go_simp; done) | (go_simp; (try go_ints); rfl)) : WL P ops Q (⟨d, op, tt, pos, af, gd⟩ :: rest) a w := ⟨st_run hw hy k.h⟩
theorem lM {v : Value} (hw : Region.wanted ⟨d, .move x, tt, pos, af, gd⟩ (yielded ops a.tmps) = true) (hx : oval a x = some v) (k : WL P ops Q rest (a.put d v) w) : WL P ops Q (⟨d, .move x, tt, pos, af, gd⟩ :: rest) a w := ⟨st_run hw (by simp only [execOp, (oval_eval hx), Sem.run_bind, Result.andThen_ok, Sem.run_pure]) k.h⟩
theorem lA {v : Value} (hw : Region.wanted ⟨d, .assign x, tt, pos, af, gd⟩ (yielded ops a.tmps) = true) (hx : oval a x = some v) (k : WL P ops Q rest (a.put d v) w) : WL P ops Q (⟨d, .assign x, tt, pos, af, gd⟩ :: rest) a w := ⟨st_run hw (by simp only [execOp, (oval_eval hx), Sem.run_bind, Result.andThen_ok, Sem.run_pure]) k.h⟩
theorem lZ (k : Q .normal a w) : WL P ops Q [] a w := ⟨k⟩
end
end Go.Proofs.Ytmjmdncdmmcmaaa

/- The list of choices (rollbacknetmake.Codes): what New, Left and Next do, over the state of a call. Conditions: the list has at most a thousand choices. -/
namespace Go.Proofs.Ytmjmdncdmmcmaaa
open Go.RowKit
set_option linter.unusedVariables false

abbrev bytes (bs : List Int) : List Value := bs.map (Value.int .u8)
/-- block g is a list of choices of which i are used up -/
structure CodesAt (w : World) (g : Nat) (A : Option Addr) (c : Nat) (bs : List Int) (i : Nat) : Prop where
  blk : w.heap[g]? = some (.cells #[.slice A bs.length c, .int .i64 i] 77 (0, 0))
  le : i ≤ bs.length
  short : bs.length ≤ 1000
  byte : ∀ b ∈ bs, 0 ≤ b ∧ b ≤ 255
  rd : RV (fun k => k ≠ g) w A (bytes bs)
/-- block g is a list of choices of which r are left -/
def Codes (w : World) (g : Nat) (r : List Int) : Prop := ∃ A c bs i, r = bs.drop i ∧ CodesAt w g A c bs i

theorem CodesAt.c0 {w : World} {g : Nat} {A : Option Addr} {c : Nat} {bs : List Int} {i : Nat} (h : CodesAt w g A c bs i) : w.cell? ⟨g, 0, none⟩ = some (.slice A bs.length c) := by
  simp [World.cell?, h.blk]
theorem CodesAt.c1 {w : World} {g : Nat} {A : Option Addr} {c : Nat} {bs : List Int} {i : Nat} (h : CodesAt w g A c bs i) : w.cell? ⟨g, 1, none⟩ = some (.int .i64 i) := by
  simp [World.cell?, h.blk]
theorem CodesAt.fz {w : World} {g : Nat} {A : Option Addr} {c : Nat} {bs : List Int} {i : Nat} (h : CodesAt w g A c bs i) (j : Nat) : w.frozen? ⟨g, j, none⟩ = false := by
  simp [World.frozen?, h.blk]
theorem CodesAt.lt {w : World} {g : Nat} {A : Option Addr} {c : Nat} {bs : List Int} {i : Nat} (h : CodesAt w g A c bs i) : g < w.heap.size := lt_of_block h.blk
theorem CodesAt.keep {w w' : World} {g : Nat} {A : Option Addr} {c : Nat} {bs : List Int} {i : Nat} (h : CodesAt w g A c bs i) (k : Ext w w') : CodesAt w' g A c bs i :=
  ⟨(k.block g h.lt).trans h.blk, h.le, h.short, h.byte, h.rd.ext k⟩
theorem CodesAt.step {w : World} {g : Nat} {A : Option Addr} {c : Nat} {bs : List Int} {i : Nat} (h : CodesAt w g A c bs i) (hi : i < bs.length) : CodesAt (w.setCell ⟨g, 1, none⟩ (.int .i64 ((i : Int) + 1))) g A c bs (i + 1) := by
  refine ⟨?_, by omega, h.short, h.byte, h.rd.keep ⟨rfl, rfl, rfl, by simp [World.setCell], fun k hk hne => Below.heap_setCell _ _ _ _ hne⟩⟩
  simp [World.setCell, Array.getElem?_modify, h.blk]
/-- what changes is block g alone -/
theorem keep_setCell (w : World) (g j : Nat) (u : Value) : Keep (fun k => k ≠ g) w (w.setCell ⟨g, j, none⟩ u) :=
  ⟨rfl, rfl, rfl, by simp [World.setCell], fun k hk hne => Below.heap_setCell _ _ _ _ hne⟩

/-- the next choice, and those that are left -/
def nxt (r : List Int) (n : Nat) : Nat := match r with | [] => 0 | b :: _ => b.toNat % n
theorem nxt_lt (r : List Int) {n : Nat} (hn : 0 < n) : nxt r n < n := by
  cases r with
  | nil => exact hn
  | cons b r => exact Nat.mod_lt _ hn

set_option maxHeartbeats 400000 in
theorem left_at {A : Option Addr} {c i : Nat} {bs : List Int} (g : Nat) (w : World) (h : CodesAt w g A c bs i) :
    Calls Try.prog 84 #[.pointer (some ⟨g, 0, none⟩)] w fun e w' => e = .returned (.bool (decide (i < bs.length))) ∧ ∃ n, w' = w.drewN n := by
  have h0 := h.c0
  have h1 := h.c1
  clear h
  go_enter Try.func84, Try.ntmps84
  go_wp2
  go_quiet (fail)
  go_wp2
  go_ret
  exact ⟨ret_bool (by simp), _, rfl⟩

theorem left_any (g : Nat) (r : List Int) (w : World) (h : Codes w g r) :
    Calls Try.prog 84 #[.pointer (some ⟨g, 0, none⟩)] w fun e w' => e = .returned (.bool (!r.isEmpty)) ∧ ∃ n, w' = w.drewN n := by
  obtain ⟨A, c, bs, i, rfl, h1⟩ := h
  refine (left_at g w h1).mono fun e w' ⟨he, hw⟩ => ⟨he.trans (ret_bool ?_), hw⟩
  have := h1.le
  rw [Bool.eq_iff_iff]; simp

set_option maxHeartbeats 800000 in
theorem next_at {A : Option Addr} {c i : Nat} {bs : List Int} (g n : Nat) (w : World) (h : CodesAt w g A c bs i) (hn : 1 ≤ n) (hn' : n ≤ 1000000) (hi : i < bs.length) :
    Calls Try.prog 46 #[.pointer (some ⟨g, 0, none⟩), .int .i64 n] w fun e w' => e = .returned (.int .i64 ((bs[i].toNat % n : Nat) : Int)) ∧ ∃ m, w' = (w.setCell ⟨g, 1, none⟩ (.int .i64 ((i : Int) + 1))).drewN m := by
  have h0 := h.c0
  have h1 := h.c1
  have hf := h.fz 1
  have hs := h.step hi
  have h2 := hs.c0
  have h3 : (w.setCell ⟨g, 1, none⟩ (.int .i64 ((i : Int) + 1))).cell? ⟨g, 1, none⟩ = some (.int .i64 ((i : Int) + 1)) := by simpa using hs.c1
  have hshort := h.short
  obtain ⟨b, o, rfl, _, hc⟩ := hs.rd i (.int .u8 bs[i]) (by simp [hi])
  have hb := h.byte bs[i] (by simp)
  obtain ⟨hb0, hb1⟩ := hb
  have hi1 : (i : Int) < bs.length := by omega
  have hL := left_at g w h
  have HL := Lib.hid hL
  clear hL h hs
  generalize hbi : bs[i] = y at *
  have HB := Lib.hid hbi
  clear hbi
  go_enter Try.func46, Try.ntmps46
  go_wp2_with fail
  refine (HL.out).mono ?_
  rintro e w' ⟨rfl, m, rfl⟩
  have hd : decide (i < bs.length) = true := by simp [hi]
  rw [hd]
  clear hd
  have hc' : ((w.drewN m).setCell ⟨g, 1, none⟩ (.int .i64 ((i : Int) + 1))).cell? ⟨b, o + i, none⟩ = some (.int .u8 y) := hc
  go_wp2
  have hw : IntKind.i64.wrap (i : Int) = i := IntWalk.i64_in _ (by omega)
  have hw2 : IntKind.i64.wrap y = y := IntWalk.i64_in _ (by omega)
  go_quiet (fail)
  clear hw hw2
  go_wp2
  go_ret
  refine ⟨ret_int ?_, m + nq, World.drewN_drewN (w.setCell ⟨g, 1, none⟩ (.int .i64 ((i : Int) + 1))) m nq⟩
  show y % (n : Int) = _
  rw [Int.natCast_emod, Int.toNat_of_nonneg hb0]

set_option maxHeartbeats 800000 in
theorem next_none {A : Option Addr} {c i : Nat} {bs : List Int} (g : Nat) (n : Int) (w : World) (h : CodesAt w g A c bs i) (hi : ¬ i < bs.length) :
    Calls Try.prog 46 #[.pointer (some ⟨g, 0, none⟩), .int .i64 n] w fun e w' => e = .returned (.int .i64 0) ∧ ∃ m, w' = w.drewN m := by
  have hL := left_at g w h
  have hd : decide (i < bs.length) = false := by simp; omega
  rw [hd] at hL
  clear hd
  have HL := Lib.hid hL
  clear hL h hi
  go_enter Try.func46, Try.ntmps46
  go_wp2_with fail
  refine (HL.out).mono ?_
  rintro e w' ⟨rfl, m, rfl⟩
  go_wp2
  go_ret
  exact ⟨rfl, m, rfl⟩

/-- Next: the next choice; block g alone has changed, nothing new was made -/
theorem next_full {A : Option Addr} {c i : Nat} {bs : List Int} (g n : Nat) (w : World) (h1 : CodesAt w g A c bs i) (hn : 1 ≤ n) (hn' : n ≤ 1000000) :
    Calls Try.prog 46 #[.pointer (some ⟨g, 0, none⟩), .int .i64 n] w fun e w' => e = .returned (.int .i64 (nxt (bs.drop i) n : Int)) ∧ (∃ j, (bs.drop i).tail = bs.drop j ∧ CodesAt w' g A c bs j) ∧ Keep (fun k => k ≠ g) w w' ∧ w'.heap.size = w.heap.size := by
  by_cases hi : i < bs.length
  · refine (next_at g n w h1 hn hn' hi).mono fun e w' ⟨he, m, hw⟩ => ?_
    subst hw
    refine ⟨he.trans (ret_int ?_), ⟨i + 1, by simp, (h1.step hi).keep ((Ext.refl' _).drewN' m)⟩, (keep_setCell w g 1 _).drewN m, by simp [World.setCell]⟩
    rw [List.drop_eq_getElem_cons hi]; rfl
  · refine (next_none g n w h1 hi).mono fun e w' ⟨he, m, hw⟩ => ?_
    subst hw
    have e0 : bs.drop i = [] := List.drop_eq_nil_of_le (by omega)
    refine ⟨he.trans (ret_int ?_), ⟨i, by simp [e0], h1.keep ((Ext.refl' _).drewN' m)⟩, (Keep.refl _ w).drewN m, rfl⟩
    rw [e0]; rfl

set_option maxHeartbeats 400000 in
theorem new_at {S : Nat → Prop} (A : Option Addr) (c m : Nat) (bs : List Int) (w : World) (hm : m ≤ 1000) (ha : RV S w A (bytes bs)) (hc : bs.length ≤ c) (hc' : c ≤ 9223372036854775807) (hb : ∀ b ∈ bs, 0 ≤ b ∧ b ≤ 255) :
    Calls Try.prog 16 #[.slice A bs.length c, .int .i64 m] w fun e w' => e = .returned (.pointer (some ⟨w.heap.size, 0, none⟩)) ∧ (∃ c', CodesAt w' w.heap.size A c' (bs.take m) 0) ∧ Ext w w' ∧ w'.heap.size = w.heap.size + 1 := by
  have key : ∀ (c' : Nat), CodesAt (w.alloc (.cells #[.slice A (bs.take m).length c', .int .i64 0] 77)) w.heap.size A c' (bs.take m) 0 := by
    intro c'
    refine ⟨?_, Nat.zero_le _, by rw [List.length_take]; omega, fun b h => hb b (List.mem_of_mem_take h), ?_⟩
    · show (w.heap.push _)[w.heap.size]? = _; simp
    · have h1 : RV S w A (bytes (bs.take m)) := by rw [bytes, List.map_take]; exact ha.take m
      exact h1.into (fun k hs hk => ⟨by omega, Below.heap_alloc _ _ _ hk⟩)
  have HK := Lib.hid key
  clear key
  by_cases hlt : m < bs.length
  · go_enter Try.func16, Try.ntmps16
    go_wp2
    go_ret
    have := HK.out c
    rw [List.length_take, Nat.min_eq_left (by omega)] at this
    exact ⟨rfl, ⟨_, this⟩, (Ext.refl' w).alloc' _, by simp⟩
  · go_enter Try.func16, Try.ntmps16
    go_wp2
    go_ret
    have := HK.out c
    rw [List.length_take, Nat.min_eq_right (by omega)] at this
    exact ⟨rfl, ⟨_, this⟩, (Ext.refl' w).alloc' _, by simp⟩


/-- where a list of choices lies -/
structure CK where
  A : Option Addr
  c : Nat
  bs : List Int
/-- block g is the list of choices κ, of which r are left -/
def CdsAt (w : World) (g : Nat) (κ : CK) (r : List Int) : Prop := ∃ i, r = κ.bs.drop i ∧ CodesAt w g κ.A κ.c κ.bs i
theorem CdsAt.lt {w : World} {g : Nat} {κ : CK} {r : List Int} (h : CdsAt w g κ r) : g < w.heap.size := let ⟨_, _, h1⟩ := h; h1.lt
/-- the choices r that are left, as a piece of memory -/
def cds {w0 : World} {M : Nat → Prop} (g : Nat) (κ : CK) (r : List Int) : Chunk w0 M where
  own k := k = g
  ok w := CdsAt w g κ r ∧ RV (fun k => Froz w0 M k ∧ k ≠ g) w κ.A (bytes κ.bs)
  loc {w w'} h hk := by
    obtain ⟨⟨i, e, h1⟩, h5⟩ := h
    have h5' : RV (fun k => Froz w0 M k ∧ k ≠ g) w' κ.A (bytes κ.bs) := h5.into (fun k hs _ => ⟨hs, hk k (.inr hs.1)⟩)
    exact ⟨⟨i, e, ⟨(hk g (.inl rfl)).trans h1.blk, h1.le, h1.short, h1.byte, h5'.sub fun _ h => h.2⟩⟩, h5'⟩
  lt h e := e ▸ h.1.lt
section
variable {w0 w : World} {M : Nat → Prop} {cs : List (Chunk w0 M)} {f : Chunk w0 M → List (Chunk w0 M)}
class PickC {w0 : World} {M : Nat → Prop} (g : Nat) (cs : List (Chunk w0 M)) (κ : outParam CK) (r : outParam (List Int)) (f : outParam (Chunk w0 M → List (Chunk w0 M))) : Prop where
  eq : cs = f (cds g κ r)
  gap : Gap f
instance (g : Nat) (κ : CK) (r : List Int) (s : List (Chunk w0 M)) : PickC g (cds g κ r :: s) κ r (fun c => c :: s) := ⟨rfl, .head s⟩
instance (priority := low) (g : Nat) (κ : CK) (r : List Int) (d : Chunk w0 M) (s : List (Chunk w0 M)) (f : Chunk w0 M → List (Chunk w0 M)) [h : PickC g s κ r f] : PickC g (d :: s) κ r (fun c => d :: f c) := ⟨by rw [h.eq], .tail d h.gap⟩
theorem St.codes {g : Nat} {κ : CK} {r : List Int} (h : St w0 M cs w) [hp : PickC g cs κ r f] : CdsAt w g κ r := ((hp.eq ▸ h : St w0 M (f (cds g κ r)) w).at_ hp.gap).1
/-- what a call does that uses up choices -/
theorem St.used {g : Nat} {κ : CK} {r r' : List Int} {w' : World} (h : St w0 M cs w) [hp : PickC g cs κ r f] (hc : CdsAt w' g κ r') (hk : Keep (fun k => k ≠ g) w w') : St w0 M (f (cds g κ r')) w' := by
  have h' : St w0 M (f (cds g κ r)) w := hp.eq ▸ h
  exact h'.updG hp.gap hk ⟨hc, (h'.at_ hp.gap).2.into (fun k hs hk' => ⟨hs, hk.block k hk' hs.2⟩)⟩ (fun k e => .inl e)
theorem St.usedAdd {g : Nat} {κ : CK} {r r' : List Int} {w' : World} {d : Chunk w0 M} (h : St w0 M cs w) [hp : PickC g cs κ r f] (hc : CdsAt w' g κ r') (hk : Keep (fun k => k ≠ g) w w') (hd : d.ok w') (hnew : ∀ k, d.own k → w.heap.size ≤ k) : St w0 M (d :: f (cds g κ r')) w' := by
  have h' : St w0 M (f (cds g κ r)) w := hp.eq ▸ h
  exact h'.updAdd hp.gap hk ⟨hc, (h'.at_ hp.gap).2.into (fun k hs hk' => ⟨hs, hk.block k hk' hs.2⟩)⟩ (fun k e => e) hd hnew
/-- the state at the entry of a function that uses up choices -/
theorem St.startC {g : Nat} {κ : CK} {r : List Int} (h : CdsAt w g κ r) : St w (fun k => k = g) [cds g κ r] w := by
  obtain ⟨i, e, h1⟩ := h
  refine ⟨Keep.refl _ _, ?_, ?_, by simp⟩
  · intro c hc
    rw [List.mem_singleton.1 hc]
    exact ⟨⟨i, e, h1⟩, h1.rd.into (fun k hs hk => ⟨⟨⟨hk, hs⟩, hs⟩, rfl⟩)⟩
  · intro c hc k hk
    rw [List.mem_singleton.1 hc] at hk
    exact .inr hk
theorem next_st {g n : Nat} {κ : CK} {r : List Int} (h : St w0 M cs w) [hp : PickC g cs κ r f] (hn : 1 ≤ n) (hn' : n ≤ 1000000) :
    Calls Try.prog 46 #[.pointer (some ⟨g, 0, none⟩), .int .i64 n] w fun e w' => e = .returned (.int .i64 (nxt r n : Int)) ∧ St w0 M (f (cds g κ r.tail)) w' := by
  obtain ⟨i, e, h1⟩ := h.codes (g := g) (κ := κ) (r := r) (f := f)
  subst e
  exact (next_full g n w h1 hn hn').mono fun e w' ⟨he, ⟨j, hj, hc'⟩, hk, hz⟩ => ⟨he, h.used (r := κ.bs.drop i) ⟨j, hj, hc'⟩ hk⟩
/-- Next of a number that may be spelled in any way -/
theorem next_z {g : Nat} (n : Nat) {z : Int} {κ : CK} {r : List Int} (h : St w0 M cs w) [hp : PickC g cs κ r f] (hz : z = n) (hn : 1 ≤ n) (hn' : n ≤ 1000000) :
    Calls Try.prog 46 #[.pointer (some ⟨g, 0, none⟩), .int .i64 z] w fun e w' => e = .returned (.int .i64 (nxt r n : Int)) ∧ St w0 M (f (cds g κ r.tail)) w' := by
  subst hz; exact next_st h hn hn'
/-- New, for a list in old memory -/
theorem new_st {A : Option Addr} {c m : Nat} {bs : List Int} (h : St w0 M cs w) (hm : m ≤ 1000) (ha : RV (Froz w0 M) w0 A (bytes bs)) (hc : bs.length ≤ c) (hc' : c ≤ 9223372036854775807) (hb : ∀ b ∈ bs, 0 ≤ b ∧ b ≤ 255) :
    Calls Try.prog 16 #[.slice A bs.length c, .int .i64 m] w fun e w' => ∃ g κ, e = .returned (.pointer (some ⟨g, 0, none⟩)) ∧ St w0 M (cds g κ (bs.take m) :: cs) w' := by
  have haw : RV (Froz w0 M) w A (bytes bs) := ha.into (fun k hs hk => ⟨hs, h.keep.block k hk hs.2⟩)
  refine (new_at A c m bs w hm haw hc hc' hb).mono fun e w' ⟨he, ⟨c', hcd⟩, hx, hz⟩ => ⟨w.heap.size, ⟨A, c', bs.take m⟩, he, h.add hx ⟨⟨0, rfl, hcd⟩, ?_⟩ (fun k e => Nat.le_of_eq e.symm)⟩
  have h1 : RV (Froz w0 M) w A (bytes (bs.take m)) := by rw [bytes, List.map_take]; exact haw.take m
  exact h1.into (fun k hs hk => ⟨⟨hs, by omega⟩, hx.block k hk⟩)
theorem left_st {g : Nat} {κ : CK} {r : List Int} (h : St w0 M cs w) [hp : PickC g cs κ r f] :
    Calls Try.prog 84 #[.pointer (some ⟨g, 0, none⟩)] w fun e w' => e = .returned (.bool (!r.isEmpty)) ∧ St w0 M cs w' := by
  obtain ⟨i, e, h1⟩ := h.codes (g := g) (κ := κ) (r := r) (f := f)
  exact (left_any g r w ⟨_, _, _, i, e, h1⟩).mono fun e w' ⟨he, n, hw⟩ => ⟨he, by subst hw; exact h.drewN n⟩
end
end Go.Proofs.Ytmjmdncdmmcmaaa

