/- The state of a call: the memory that it owns, listed piece by piece; all else is as it was. No condition. -/
import Derived.Test.YtmjmdncdmmcmaaaMem
namespace Go.Proofs.Ytmjmdncdmmcmaaa
open Go.RowKit
set_option linter.unusedVariables false
set_option linter.unusedSectionVars false

/-- an old block that the call may not change -/
def Froz (w0 : World) (M : Nat → Prop) (k : Nat) : Prop := k < w0.heap.size ∧ ¬ M k
/-- a piece of memory that the call owns -/
structure Chunk (w0 : World) (M : Nat → Prop) where
  own : Nat → Prop
  ok : World → Prop
  loc : ∀ {w w' : World}, ok w → (∀ k, own k ∨ Froz w0 M k → w'.heap[k]? = w.heap[k]?) → ok w'
  lt : ∀ {w : World} {k : Nat}, ok w → own k → k < w.heap.size
/-- the call began in w0, may change the old blocks of M, owns the pieces cs -/
structure St (w0 : World) (M : Nat → Prop) (cs : List (Chunk w0 M)) (w : World) : Prop where
  keep : Keep (fun k => ¬ M k) w0 w
  all : ∀ c ∈ cs, c.ok w
  new : ∀ c ∈ cs, ∀ k, c.own k → w0.heap.size ≤ k ∨ M k
  apart : cs.Pairwise (fun c d => ∀ k, c.own k → ¬ d.own k)
abbrev NoM : Nat → Prop := fun _ => False

section
variable {w0 : World} {M : Nat → Prop} {c c' d : Chunk w0 M} {cs ds l r : List (Chunk w0 M)} {w w' : World}
theorem St.start (w : World) (M : Nat → Prop) : St w M [] w := ⟨Keep.refl _ _, by simp, by simp, by simp⟩
theorem St.updAt (h : St w0 M (l ++ c :: r) w) (hk : Keep (fun k => ¬ c.own k) w w') (hok : c'.ok w') (hown : ∀ k, c'.own k → c.own k ∨ w.heap.size ≤ k) : St w0 M (l ++ c' :: r) w' := by
  have hnew := h.new c (by simp)
  have hold : ∀ k, Froz w0 M k → w'.heap[k]? = w.heap[k]? := fun k hf =>
    hk.block k (Nat.lt_of_lt_of_le hf.1 h.keep.size) (fun hc => by rcases hnew k hc with h1 | h1; exact absurd hf.1 (by omega); exact hf.2 h1)
  have hap := h.apart
  rw [List.pairwise_append, List.pairwise_cons] at hap
  obtain ⟨ha1, ⟨ha2, ha3⟩, ha4⟩ := hap
  have hother : ∀ d ∈ l ++ r, ∀ k, d.own k → ¬ c.own k := by
    intro d hd k hk hc
    rcases List.mem_append.1 hd with hd | hd
    · exact ha4 d hd c (by simp) k hk hc
    · exact ha2 d hd k hc hk
  have hmem : ∀ d ∈ l ++ r, d ∈ l ++ c :: r := by
    intro d hd; rcases List.mem_append.1 hd with hd | hd <;> simp [hd]
  have hlt : ∀ d ∈ l ++ r, ∀ k, d.own k → k < w.heap.size := fun d hd k hk => d.lt (h.all d (hmem d hd)) hk
  have hok' : ∀ d ∈ l ++ r, d.ok w' := fun d hd => d.loc (h.all d (hmem d hd)) (fun k hk' => by
    rcases hk' with hk' | hk'
    · exact hk.block k (hlt d hd k hk') (hother d hd k hk')
    · exact hold k hk')
  have hnc : ∀ d ∈ l ++ r, ∀ k, d.own k → ¬ c'.own k := fun d hd k hk hc' => by
    rcases hown k hc' with h1 | h1
    · exact hother d hd k hk h1
    · have := hlt d hd k hk; omega
  refine ⟨⟨hk.os.trans h.keep.os, hk.tape.trans h.keep.tape, hk.output.trans h.keep.output, Nat.le_trans h.keep.size hk.size, fun k hk1 hm => (hold k ⟨hk1, hm⟩).trans (h.keep.block k hk1 hm)⟩, ?_, ?_, ?_⟩
  · intro d hd
    rcases List.mem_append.1 hd with hd | hd
    · exact hok' d (by simp [hd])
    · rcases List.mem_cons.1 hd with rfl | hd
      · exact hok
      · exact hok' d (by simp [hd])
  · intro d hd k hk'
    rcases List.mem_append.1 hd with hd | hd
    · exact h.new d (by simp [hd]) k hk'
    · rcases List.mem_cons.1 hd with rfl | hd
      · rcases hown k hk' with h1 | h1
        · exact hnew k h1
        · have := h.keep.size; exact .inl (by omega)
      · exact h.new d (by simp [hd]) k hk'
  · rw [List.pairwise_append, List.pairwise_cons]
    refine ⟨ha1, ⟨fun d hd k h1 h2 => hnc d (by simp [hd]) k h2 h1, ha3⟩, fun x hx y hy => ?_⟩
    rcases List.mem_cons.1 hy with rfl | hy
    · exact fun k h1 h2 => hnc x (by simp [hx]) k h1 h2
    · exact ha4 x hx y (by simp [hy])
/-- nothing -/
def nop : Chunk w0 M := ⟨fun _ => False, fun _ => True, fun _ _ => trivial, fun _ h => h.elim⟩
theorem St.emp (h : St w0 M cs w) : St w0 M (nop :: cs) w := ⟨h.keep, fun c hc => by rcases List.mem_cons.1 hc with rfl | hc; exact trivial; exact h.all c hc,
  fun c hc => by rcases List.mem_cons.1 hc with rfl | hc; exact fun k hk => hk.elim; exact h.new c hc, List.pairwise_cons.2 ⟨fun _ _ _ hk => hk.elim, h.apart⟩⟩
theorem St.upd (h : St w0 M (c :: cs) w) (hk : Keep (fun k => ¬ c.own k) w w') (hok : c'.ok w') (hown : ∀ k, c'.own k → c.own k ∨ w.heap.size ≤ k) : St w0 M (c' :: cs) w' := St.updAt (l := []) h hk hok hown
theorem St.add (h : St w0 M cs w) (hk : Ext w w') (hok : c.ok w') (hown : ∀ k, c.own k → w.heap.size ≤ k) : St w0 M (c :: cs) w' :=
  h.emp.upd (.ofExt hk) hok (fun k hk => .inr (hown k hk))
theorem St.dropAt (h : St w0 M (l ++ c :: r) w) : St w0 M (l ++ r) w := by
  have hap := h.apart
  rw [List.pairwise_append, List.pairwise_cons] at hap
  obtain ⟨ha1, ⟨ha2, ha3⟩, ha4⟩ := hap
  have hmem : ∀ d ∈ l ++ r, d ∈ l ++ c :: r := by
    intro d hd; rcases List.mem_append.1 hd with hd | hd <;> simp [hd]
  exact ⟨h.keep, fun d hd => h.all d (hmem d hd), fun d hd => h.new d (hmem d hd), List.pairwise_append.2 ⟨ha1, ha3, fun x hx y hy => ha4 x hx y (by simp [hy])⟩⟩
theorem St.drop (h : St w0 M (c :: cs) w) : St w0 M cs w := St.dropAt (l := []) h
theorem St.ext (h : St w0 M cs w) (hk : Ext w w') : St w0 M cs w' := (h.add (c := nop) hk trivial (fun _ h => h.elim)).drop
theorem St.drew (h : St w0 M cs w) : St w0 M cs w.drew := h.ext ((Ext.refl' w).drewN' 1)
theorem St.drewN (h : St w0 M cs w) (n : Nat) : St w0 M cs (w.drewN n) := h.ext ((Ext.refl' w).drewN' n)
theorem St.le (h : St w0 M cs w) : w0.heap.size ≤ w.heap.size := h.keep.size
theorem St.head (h : St w0 M (c :: cs) w) : c.ok w := h.all c (by simp)
theorem St.mem (h : St w0 M (l ++ c :: r) w) : c.ok w := h.all c (by simp)
theorem St.perm (h : St w0 M cs w) (hp : cs.Perm ds) : St w0 M ds w := by
  refine ⟨h.keep, fun c hc => h.all c (hp.mem_iff.2 hc), fun c hc => h.new c (hp.mem_iff.2 hc), ?_⟩
  exact (hp.pairwise_iff (fun h k hk hk' => h k hk' hk)).1 h.apart
theorem St.sub (h : St w0 M cs w) (h2 : l.Sublist cs) : St w0 M l w := ⟨h.keep, fun c hc => h.all c (h2.subset hc), fun c hc => h.new c (h2.subset hc), h.apart.sublist h2⟩
/-- an old cell -/
theorem St.oldCell (h : St w0 M cs w) {p : Addr} {u : Value} (hc : w0.cell? p = some u) (hm : ¬ M p.block) : w.cell? p = some u := h.keep.cell hm hc
theorem St.into {S : Nat → Prop} (h : St w0 M cs w) (hS : ∀ k, S k → ¬ M k) : Into S S w0 w := fun k hs hk => ⟨hs, h.keep.block k hk (hS k hs)⟩
end

theorem St.toExt {w0 w : World} {cs : List (Chunk w0 NoM)} (h : St w0 NoM cs w) : Ext w0 w := h.keep.ext (fun _ _ => id)
/-- block g, all of it -/
def blk {w0 : World} {M : Nat → Prop} (g : Nat) (vs : List Value) (t : TypeId) : Chunk w0 M :=
  ⟨fun k => k = g, fun w => w.heap[g]? = some (.cells vs.toArray t (0, 0)), fun h hk => (hk g (.inl rfl)).trans h, fun h e => e ▸ lt_of_block h⟩
theorem own_of_block {w w' : World} {base : Nat} {e : TypeId} {size : Nat} {v : Value} {n : Nat} {vs : List Value} (h : w.ownsRow base e size v n vs) (hb : ∀ k, v.ownBlock = some k → w'.heap[k]? = w.heap[k]?) : w'.ownsRow base e size v n vs := by
  obtain ⟨h1, h2⟩ := h
  refine ⟨h1, ?_⟩
  rcases h2 with h2 | ⟨g, cap, cur, hv, hg, hh, r⟩
  · exact .inl h2
  · exact .inr ⟨g, cap, cur, hv, hg, (hb g (by subst hv; rfl)).trans hh, r⟩
/-- the row of the slice v, n elements of e, sz cells each: the cells vs -/
def row {w0 : World} {M : Nat → Prop} (v : Value) (e : TypeId) (sz n : Nat) (vs : List Value) : Chunk w0 M :=
  ⟨fun k => v.ownBlock = some k, fun w => w.ownsRow 0 e sz v n vs, fun h hk => own_of_block h (fun k e => hk k (.inl e)), fun h e => own_lt h _ e⟩

/-- a list of pieces with a gap -/
structure Gap {w0 : World} {M : Nat → Prop} (f : Chunk w0 M → List (Chunk w0 M)) : Prop where
  ex : ∃ l r, ∀ c, f c = l ++ c :: r
theorem Gap.head {w0 : World} {M : Nat → Prop} (r : List (Chunk w0 M)) : Gap (fun c => c :: r) := ⟨[], r, fun _ => rfl⟩
theorem Gap.tail {w0 : World} {M : Nat → Prop} {f : Chunk w0 M → List (Chunk w0 M)} (d : Chunk w0 M) (h : Gap f) : Gap (fun c => d :: f c) := by
  obtain ⟨l, r, h⟩ := h.ex
  exact ⟨d :: l, r, fun c => by rw [h]; rfl⟩
class PickB {w0 : World} {M : Nat → Prop} (g : Nat) (cs : List (Chunk w0 M)) (vs : outParam (List Value)) (t : outParam TypeId) (f : outParam (Chunk w0 M → List (Chunk w0 M))) : Prop where
  eq : cs = f (blk g vs t)
  gap : Gap f
instance {w0 : World} {M : Nat → Prop} (g : Nat) (vs : List Value) (t : TypeId) (r : List (Chunk w0 M)) : PickB g (blk g vs t :: r) vs t (fun c => c :: r) := ⟨rfl, .head r⟩
instance (priority := low) {w0 : World} {M : Nat → Prop} (g : Nat) (vs : List Value) (t : TypeId) (d : Chunk w0 M) (r : List (Chunk w0 M)) (f : Chunk w0 M → List (Chunk w0 M)) [h : PickB g r vs t f] : PickB g (d :: r) vs t (fun c => d :: f c) := ⟨by rw [h.eq], .tail d h.gap⟩
class PickR {w0 : World} {M : Nat → Prop} (v : Value) (cs : List (Chunk w0 M)) (e : outParam TypeId) (sz n : outParam Nat) (vs : outParam (List Value)) (f : outParam (Chunk w0 M → List (Chunk w0 M))) : Prop where
  eq : cs = f (row v e sz n vs)
  gap : Gap f
instance {w0 : World} {M : Nat → Prop} (v : Value) (e : TypeId) (sz n : Nat) (vs : List Value) (r : List (Chunk w0 M)) : PickR v (row v e sz n vs :: r) e sz n vs (fun c => c :: r) := ⟨rfl, .head r⟩
instance (priority := low) {w0 : World} {M : Nat → Prop} (v : Value) (e : TypeId) (sz n : Nat) (vs : List Value) (d : Chunk w0 M) (r : List (Chunk w0 M)) (f : Chunk w0 M → List (Chunk w0 M)) [h : PickR v r e sz n vs f] : PickR v (d :: r) e sz n vs (fun c => d :: f c) := ⟨by rw [h.eq], .tail d h.gap⟩
/-- the row that lies in block g -/
class PickG {w0 : World} {M : Nat → Prop} (g : Nat) (cs : List (Chunk w0 M)) (e : outParam TypeId) (sz n m cp : outParam Nat) (vs : outParam (List Value)) (f : outParam (Chunk w0 M → List (Chunk w0 M))) : Prop where
  eq : cs = f (row (.slice (some ⟨g, 0, none⟩) m cp) e sz n vs)
  gap : Gap f
instance {w0 : World} {M : Nat → Prop} (g : Nat) (e : TypeId) (sz n m cp : Nat) (vs : List Value) (r : List (Chunk w0 M)) : PickG g (row (.slice (some ⟨g, 0, none⟩) m cp) e sz n vs :: r) e sz n m cp vs (fun c => c :: r) := ⟨rfl, .head r⟩
instance (priority := low) {w0 : World} {M : Nat → Prop} (g : Nat) (e : TypeId) (sz n m cp : Nat) (vs : List Value) (d : Chunk w0 M) (r : List (Chunk w0 M)) (f : Chunk w0 M → List (Chunk w0 M)) [h : PickG g r e sz n m cp vs f] : PickG g (d :: r) e sz n m cp vs (fun c => d :: f c) := ⟨by rw [h.eq], .tail d h.gap⟩

section
variable {w0 : World} {M : Nat → Prop} {c c' : Chunk w0 M} {cs : List (Chunk w0 M)} {f : Chunk w0 M → List (Chunk w0 M)} {w w' : World}
theorem St.updG (hf : Gap f) (h : St w0 M (f c) w) (hk : Keep (fun k => ¬ c.own k) w w') (hok : c'.ok w') (hown : ∀ k, c'.own k → c.own k ∨ w.heap.size ≤ k) : St w0 M (f c') w' := by
  obtain ⟨l, r, e⟩ := hf.ex
  rw [e] at h ⊢
  exact h.updAt hk hok hown
theorem St.at_ (hf : Gap f) (h : St w0 M (f c) w) : c.ok w := by
  obtain ⟨l, r, e⟩ := hf.ex
  rw [e] at h
  exact h.mem
end

/-- two pieces as one -/
def pair {w0 : World} {M : Nat → Prop} (c d : Chunk w0 M) : Chunk w0 M :=
  ⟨fun k => c.own k ∨ d.own k, fun w => c.ok w ∧ d.ok w ∧ ∀ k, c.own k → ¬ d.own k, fun h hk => ⟨c.loc h.1 (fun k h1 => hk k (h1.imp .inl id)), d.loc h.2.1 (fun k h1 => hk k (h1.imp .inr id)), h.2.2⟩,
    fun h e => e.elim (fun e => c.lt h.1 e) (fun e => d.lt h.2.1 e)⟩
section
variable {w0 : World} {M : Nat → Prop} {c c' d : Chunk w0 M} {cs l r : List (Chunk w0 M)} {f : Chunk w0 M → List (Chunk w0 M)} {w w' : World}
theorem St.split (h : St w0 M (pair c d :: cs) w) : St w0 M (c :: d :: cs) w := by
  have hp := h.head
  have hap := List.pairwise_cons.1 h.apart
  refine ⟨h.keep, ?_, ?_, List.pairwise_cons.2 ⟨?_, List.pairwise_cons.2 ⟨fun x hx k hk => hap.1 x hx k (.inr hk), hap.2⟩⟩⟩
  · intro x hx
    rcases List.mem_cons.1 hx with rfl | hx
    · exact hp.1
    · rcases List.mem_cons.1 hx with rfl | hx
      · exact hp.2.1
      · exact h.all x (by simp [hx])
  · intro x hx k hk
    rcases List.mem_cons.1 hx with rfl | hx
    · exact h.new (pair x d) (by simp) k (.inl hk)
    · rcases List.mem_cons.1 hx with rfl | hx
      · exact h.new (pair c x) (by simp) k (.inr hk)
      · exact h.new x (by simp [hx]) k hk
  · intro x hx k hk
    rcases List.mem_cons.1 hx with rfl | hx
    · exact hp.2.2 k hk
    · exact hap.1 x hx k (.inl hk)
theorem gap_perm (hf : Gap f) (c : Chunk w0 M) : ∃ s, (f c).Perm (c :: s) ∧ ∀ d, (d :: s).Perm (f d) := by
  obtain ⟨l, r, e⟩ := hf.ex
  exact ⟨l ++ r, by rw [e]; exact List.perm_middle, fun d => by rw [e]; exact List.perm_middle.symm⟩
/-- one piece changes, another is new -/
theorem St.updAdd (hf : Gap f) (h : St w0 M (f c) w) (hk : Keep (fun k => ¬ c.own k) w w') (hok : c'.ok w') (hown : ∀ k, c'.own k → c.own k) (hd : d.ok w') (hnew : ∀ k, d.own k → w.heap.size ≤ k) : St w0 M (d :: f c') w' := by
  obtain ⟨s, h1, h2⟩ := gap_perm hf c
  have hlt : ∀ k, c.own k → k < w.heap.size := fun k hk => c.lt (h.at_ hf) hk
  have h3 : St w0 M (pair d c' :: s) w' := (h.perm h1).upd hk ⟨hd, hok, fun k h1 h2 => by have := hlt k (hown k h2); have := hnew k h1; omega⟩ (fun k h1 => h1.elim (fun h => .inr (hnew k h)) (fun h => .inl (hown k h)))
  exact h3.split.perm ((h2 c').cons d)
end
/-- from b, o on lie the cells us -/
def Cells (w : World) (b o : Nat) (us : List Value) : Prop := ∀ i u, us[i]? = some u → w.cell? ⟨b, o + i, none⟩ = some u
class Ty1 (P : Program) (t : TypeId) : Prop where
  flat : (match P.underlying t with | some (.struct _) | some (.array _ _) | none => false | _ => true) = true
  size : (P.info? t).map (·.size) = some 1
class TyN (P : Program) (t : TypeId) (n : outParam Nat) : Prop where
  agg : (match P.underlying t with | some (.struct _) | some (.array _ _) => true | _ => false) = true
  size : (P.info? t).map (·.size) = some n
class TyZ (P : Program) (t : TypeId) (zs : outParam (List Value)) : Prop where
  zero : (P.info? t).map (fun i => i.zero.map (·.cells.toList)) = some (some zs)

section
variable {P : Program} {w : World} {t : TypeId} {n b o : Nat} {us : List Value} {v : Value}
theorem run_sizeOf (h : (P.info? t).map (·.size) = some n) : (sizeOf t).run P w = .ok n w := by
  cases hi : P.info? t with
  | none => rw [hi] at h; cases h
  | some i => rw [hi] at h; injection h with h; simp [sizeOf, typeInfo, hi, h]
theorem run_isAgg1 (h : Ty1 P t) : (isAgg t).run P w = .ok false w := by
  have hf := h.flat
  cases hu : P.underlying t with
  | none => rw [hu] at hf; cases hf
  | some d => rw [hu] at hf; cases d <;> simp [isAgg, underlying, hu] at hf ⊢
theorem run_isAggN (h : TyN P t n) : (isAgg t).run P w = .ok true w := by
  have hf := h.agg
  cases hu : P.underlying t with
  | none => rw [hu] at hf; cases hf
  | some d => rw [hu] at hf; cases d <;> simp [isAgg, underlying, hu] at hf ⊢
theorem run_load1 (h : Ty1 P t) (hc : w.cell? ⟨b, o, none⟩ = some v) : (Instr.loadAt t (.pointer (some ⟨b, o, none⟩))).run P w = .ok v w := by
  simp [Instr.loadAt, Instr.sureAddr, loadVar, run_isAgg1 h, hc]
theorem run_loadCellsFrom (b o : Nat) : ∀ (us : List Value) (i : Nat) (acc : Array Value), (∀ j u, us[j]? = some u → w.cell? ⟨b, o + i + j, none⟩ = some u) → (loadCellsFrom ⟨b, o, none⟩ i us.length acc).run P w = .ok (acc ++ us.toArray) w
  | [], i, acc, _ => by simp [loadCellsFrom]
  | u :: us, i, acc, h => by
    have h0 := h 0 u rfl
    have ih := run_loadCellsFrom b o us (i + 1) (acc.push u) (fun j x hx => by
      have := h (j + 1) x hx
      rw [show o + (i + 1) + j = o + i + (j + 1) by omega]; exact this)
    simp only [Nat.add_zero] at h0
    simp only [List.length_cons, loadCellsFrom, Sem.run_bind, add_mk, run_load, h0, Result.andThen_ok, ih]
    simp
theorem run_loadN (h : TyN P t n) (hl : us.length = n) (hc : Cells w b o us) : (Instr.loadAt t (.pointer (some ⟨b, o, none⟩))).run P w = .ok (.agg us.toArray) w := by
  have := run_loadCellsFrom (P := P) (w := w) b o us 0 #[] (fun j u hu => by simpa using hc j u hu)
  subst hl
  simp [Instr.loadAt, Instr.sureAddr, loadVar, run_isAggN h, run_sizeOf h.size, loadCells, this]
end
end Go.Proofs.Ytmjmdncdmmcmaaa
