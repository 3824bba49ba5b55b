/- One operation of a walk, over the state of a call. No condition. -/
import Derived.Test.YtmjmdncdmmcmaaaSt
import Derived.Great.BuildSlice
import Derived.Deep.LoopGhost
namespace Go.Proofs.Ytmjmdncdmmcmaaa
open Go.RowKit
set_option linter.unusedVariables false
set_option linter.unusedSectionVars false

/-- vs with us laid over it from place o on -/
def puts (vs : List Value) : Nat → List Value → List Value
  | _, [] => vs
  | o, u :: us => puts (vs.set o u) (o + 1) us
theorem puts_length : ∀ (us vs : List Value) (o : Nat), (puts vs o us).length = vs.length
  | [], _, _ => rfl
  | u :: us, vs, o => by rw [puts, puts_length us]; simp
theorem puts_app : ∀ (us ps vs : List Value), us.length = vs.length → puts (ps ++ vs) ps.length us = ps ++ us
  | [], ps, vs, h => by
    have : vs = [] := List.eq_nil_of_length_eq_zero h.symm
    subst this; rfl
  | u :: us, ps, v :: vs, h => by
    have h' : us.length = vs.length := by simpa using h
    have := puts_app us (ps ++ [u]) vs h'
    simp only [List.append_assoc, List.singleton_append, List.length_append, List.length_cons, List.length_nil, Nat.zero_add] at this
    rw [puts, List.set_append_right _ _ (Nat.le_refl _), Nat.sub_self, List.set_cons_zero]
    exact this
theorem puts_whole (us vs : List Value) (h : us.length = vs.length) : puts vs 0 us = us := by simpa using puts_app us [] vs h
theorem setCells_heap {b : Nat} {t : TypeId} : ∀ (us : List Value) (o : Nat) (w : World) (vs : List Value), w.heap[b]? = some (.cells vs.toArray t (0, 0)) →
    (w.setCells b o us).heap[b]? = some (.cells (puts vs o us).toArray t (0, 0)) ∧ Keep (fun k => ¬ k = b) w (w.setCells b o us)
  | [], o, w, vs, h => ⟨h, Keep.refl _ _⟩
  | u :: us, o, w, vs, h => by
    have h1 : (w.setCell ⟨b, o, none⟩ u).heap[b]? = some (.cells (vs.set o u).toArray t (0, 0)) := by simp [World.setCell, Array.getElem?_modify, h]
    obtain ⟨i1, i2⟩ := setCells_heap us (o + 1) _ _ h1
    have h2 : Keep (fun k => ¬ k = b) w (w.setCell ⟨b, o, none⟩ u) := ⟨rfl, rfl, rfl, by simp [World.setCell], fun k _ hk => Below.heap_setCell _ _ _ _ hk⟩
    exact ⟨i1, h2.trans i2⟩

/-- what an operand holds -/
def oval (a : Act) : Operand → Option Value
  | .tmp t => a.tmps.toList[t]?
  | .const v => some v
  | .global g => some (.pointer (some ⟨g, 0, none⟩))
  | .func f => some (.func (.func f) #[] #[])
theorem oval_eval {a : Act} {x : Operand} {v : Value} (h : oval a x = some v) : a.eval x = v := by
  cases x with
  | tmp t => simp only [oval, Array.getElem?_toList] at h; simp [Act.eval, h]
  | const u => injection h
  | global g => injection h
  | func f => injection h

/-- the row of a slice that begins at L -/
class PickL {w0 : World} {M : Nat → Prop} (L : Option Addr) (cs : List (Chunk w0 M)) (k c : outParam Nat) (e : outParam TypeId) (sz n : outParam Nat) (vs : outParam (List Value)) (f : outParam (Chunk w0 M → List (Chunk w0 M))) : Prop where
  eq : cs = f (row (.slice L k c) e sz n vs)
  gap : Gap f
instance {w0 : World} {M : Nat → Prop} (L : Option Addr) (k c : Nat) (e : TypeId) (sz n : Nat) (vs : List Value) (r : List (Chunk w0 M)) : PickL L (row (.slice L k c) e sz n vs :: r) k c e sz n vs (fun c => c :: r) := ⟨rfl, .head r⟩
instance (priority := low) {w0 : World} {M : Nat → Prop} (L : Option Addr) (k c : Nat) (e : TypeId) (sz n : Nat) (vs : List Value) (d : Chunk w0 M) (r : List (Chunk w0 M)) (f : Chunk w0 M → List (Chunk w0 M)) [h : PickL L r k c e sz n vs f] : PickL L (d :: r) k c e sz n vs (fun c => d :: f c) := ⟨by rw [h.eq], .tail d h.gap⟩
class ElemC (P : Program) (t : TypeId) (e : outParam TypeId) (sz bytes : outParam Nat) : Prop where
  h : ElemTy P t e sz bytes
/-- block g may be forgotten -/
class DropB {w0 : World} {M : Nat → Prop} (g : Nat) (cs : List (Chunk w0 M)) (vs : outParam (List Value)) (t : outParam TypeId) (ds : outParam (List (Chunk w0 M))) : Prop where
  mem : blk g vs t ∈ cs
  sub : ds.Sublist cs
instance {w0 : World} {M : Nat → Prop} (g : Nat) (vs : List Value) (t : TypeId) (r : List (Chunk w0 M)) : DropB g (blk g vs t :: r) vs t r := ⟨by simp, List.sublist_cons_self _ _⟩
instance (priority := low) {w0 : World} {M : Nat → Prop} (g : Nat) (vs : List Value) (t : TypeId) (d : Chunk w0 M) (r s : List (Chunk w0 M)) [h : DropB g r vs t s] : DropB g (d :: r) vs t (d :: s) := ⟨by simp [h.mem], h.sub.cons_cons d⟩

section
variable {P : Program} {ops : Array Oper} {Q : Exit → Act → World → Prop} {a : Act} {w w0 : World} {M : Nat → Prop} {cs ds : List (Chunk w0 M)} {f : Chunk w0 M → List (Chunk w0 M)} {rest : List Oper} {d : Option Tmp} {tt ty t e : TypeId} {pos : String} {af : Array Edge} {gd : Option (Nat × Bool)} {x y : Operand}

theorem st_run {op : Op} {v : Value} {w' : World} (hw : Region.wanted ⟨d, op, tt, pos, af, gd⟩ (yielded ops a.tmps) = true) (h : (execOp a.eval ⟨d, op, tt, pos, af, gd⟩).run P w = .ok (.value v) w')
    (k : wpList P ops Q rest (a.put d v) w') : wpList P ops Q (⟨d, op, tt, pos, af, gd⟩ :: rest) a w := by
  unfold wpList
  rw [if_pos hw]
  exact .inl (by unfold Oper.wp; rw [h]; exact k)
theorem st_skip {op : Op} {w' : World} (hw : Region.wanted ⟨d, op, tt, pos, af, gd⟩ (yielded ops a.tmps) = true) (h : (execOp a.eval ⟨d, op, tt, pos, af, gd⟩).run P w = .ok .skip w')
    (k : wpList P ops Q rest (a.put d undef) w') : wpList P ops Q (⟨d, op, tt, pos, af, gd⟩ :: rest) a w := by
  unfold wpList
  rw [if_pos hw]
  exact .inl (by unfold Oper.wp; rw [h]; exact k)

/-! loads -/
theorem st_load1 (h1 : Ty1 P ty) {b j : Nat} {v : Value} (hw : Region.wanted ⟨d, .load ty x, tt, pos, af, gd⟩ (yielded ops a.tmps) = true) (hx' : oval a x = some (.pointer (some ⟨b, j, none⟩))) (hc : w.cell? ⟨b, j, none⟩ = some v)
    (k : wpList P ops Q rest (a.put d v) w) : wpList P ops Q (⟨d, .load ty x, tt, pos, af, gd⟩ :: rest) a w :=
  st_run hw (by simp only [execOp, (oval_eval hx'), Sem.run_bind, run_load1 h1 hc, Result.andThen_ok, Sem.run_pure]) k
theorem st_loadN {n : Nat} (h1 : TyN P ty n) {b j : Nat} {us : List Value} (hw : Region.wanted ⟨d, .load ty x, tt, pos, af, gd⟩ (yielded ops a.tmps) = true) (hx' : oval a x = some (.pointer (some ⟨b, j, none⟩))) (hl : us.length = n) (hc : Cells w b j us)
    (k : wpList P ops Q rest (a.put d (.agg us.toArray)) w) : wpList P ops Q (⟨d, .load ty x, tt, pos, af, gd⟩ :: rest) a w :=
  st_run hw (by simp only [execOp, (oval_eval hx'), Sem.run_bind, run_loadN h1 hl hc, Result.andThen_ok, Sem.run_pure]) k
/-- a cell of a block -/
theorem st_ld (hS : St w0 M cs w) (hw : Region.wanted ⟨d, .load ty x, tt, pos, af, gd⟩ (yielded ops a.tmps) = true) [h1 : Ty1 P ty] {g j : Nat} (hx' : oval a x = some (.pointer (some ⟨g, j, none⟩))) {vs : List Value} [hp : PickB g cs vs t f] {v : Value} (hj : vs[j]? = some v)
    (k : wpList P ops Q rest (a.put d v) w) : wpList P ops Q (⟨d, .load ty x, tt, pos, af, gd⟩ :: rest) a w :=
  st_load1 h1 hw hx' (cell_of_heap ((hp.eq ▸ hS : St w0 M (f (blk g vs t)) w).at_ hp.gap : w.heap[g]? = _) (by simpa using hj)) k
/-- a whole block -/
theorem st_lds {n : Nat} (hS : St w0 M cs w) (hw : Region.wanted ⟨d, .load ty x, tt, pos, af, gd⟩ (yielded ops a.tmps) = true) [h1 : TyN P ty n] {g : Nat} (hx' : oval a x = some (.pointer (some ⟨g, 0, none⟩))) {vs : List Value} [hp : PickB g cs vs t f] (hl : vs.length = n)
    (k : wpList P ops Q rest (a.put d (.agg vs.toArray)) w) : wpList P ops Q (⟨d, .load ty x, tt, pos, af, gd⟩ :: rest) a w :=
  st_loadN h1 hw hx' hl (fun i u hu => by rw [Nat.zero_add]; exact cell_of_heap ((hp.eq ▸ hS : St w0 M (f (blk g vs t)) w).at_ hp.gap : w.heap[g]? = _) (by simpa using hu)) k
/-- some cells of a block -/
theorem st_ldp {n : Nat} (hS : St w0 M cs w) (hw : Region.wanted ⟨d, .load ty x, tt, pos, af, gd⟩ (yielded ops a.tmps) = true) [h1 : TyN P ty n] {g j : Nat} (hx' : oval a x = some (.pointer (some ⟨g, j, none⟩))) {vs : List Value} [hp : PickB g cs vs t f] {us : List Value} (hu : (vs.drop j).take n = us) (hl : us.length = n)
    (k : wpList P ops Q rest (a.put d (.agg us.toArray)) w) : wpList P ops Q (⟨d, .load ty x, tt, pos, af, gd⟩ :: rest) a w :=
  st_loadN h1 hw hx' hl (fun i u hi => cell_of_heap ((hp.eq ▸ hS : St w0 M (f (blk g vs t)) w).at_ hp.gap : w.heap[g]? = _) (by
    rw [← hu, List.getElem?_take] at hi
    split at hi
    · simpa using hi
    · cases hi)) k
/-- a cell of a row -/
theorem st_ldr (hS : St w0 M cs w) (hw : Region.wanted ⟨d, .load ty x, tt, pos, af, gd⟩ (yielded ops a.tmps) = true) [h1 : Ty1 P ty] {g j : Nat} (hx' : oval a x = some (.pointer (some ⟨g, j, none⟩))) {vs : List Value} {sz n m cp : Nat} [hp : PickG g cs e sz n m cp vs f] {v : Value} (hj : vs[j]? = some v)
    (k : wpList P ops Q rest (a.put d v) w) : wpList P ops Q (⟨d, .load ty x, tt, pos, af, gd⟩ :: rest) a w := by
  have hx := oval_eval hx'
  have ho : w.ownsRow 0 e sz (.slice (some ⟨g, 0, none⟩) m cp) n vs := (hp.eq ▸ hS : St w0 M (f (row _ e sz n vs)) w).at_ hp.gap
  have h2 := ho.cells (g := g) rfl j v hj
  rw [add_mk, Nat.zero_add] at h2
  exact st_load1 h1 hw hx' h2 k
/-- an element of a row, of several cells -/
theorem st_ldrs {q : Nat} (hS : St w0 M cs w) (hw : Region.wanted ⟨d, .load ty x, tt, pos, af, gd⟩ (yielded ops a.tmps) = true) [h1 : TyN P ty q] {g j : Nat} (hx' : oval a x = some (.pointer (some ⟨g, j, none⟩))) {vs : List Value} {sz n m cp : Nat} [hp : PickG g cs e sz n m cp vs f] {us : List Value} (hl : us.length = q) (hj : ∀ i u, us[i]? = some u → vs[j + i]? = some u)
    (k : wpList P ops Q rest (a.put d (.agg us.toArray)) w) : wpList P ops Q (⟨d, .load ty x, tt, pos, af, gd⟩ :: rest) a w := by
  have hx := oval_eval hx'
  have ho : w.ownsRow 0 e sz (.slice (some ⟨g, 0, none⟩) m cp) n vs := (hp.eq ▸ hS : St w0 M (f (row _ e sz n vs)) w).at_ hp.gap
  refine st_loadN h1 hw hx' hl (fun i u hi => ?_) k
  have h2 := ho.cells (g := g) rfl (j + i) u (hj i u hi)
  rw [add_mk, Nat.zero_add] at h2
  exact h2
/-- an old cell -/
theorem st_ldo (hS : St w0 M cs w) (hw : Region.wanted ⟨d, .load ty x, tt, pos, af, gd⟩ (yielded ops a.tmps) = true) [h1 : Ty1 P ty] {b j : Nat} (hx' : oval a x = some (.pointer (some ⟨b, j, none⟩))) {v : Value} (hc : w0.cell? ⟨b, j, none⟩ = some v) (hm : ¬ M b)
    (k : wpList P ops Q rest (a.put d v) w) : wpList P ops Q (⟨d, .load ty x, tt, pos, af, gd⟩ :: rest) a w := st_load1 h1 hw hx' (hS.oldCell hc hm) k
theorem st_ldos {n : Nat} (hS : St w0 M cs w) (hw : Region.wanted ⟨d, .load ty x, tt, pos, af, gd⟩ (yielded ops a.tmps) = true) [h1 : TyN P ty n] {b j : Nat} (hx' : oval a x = some (.pointer (some ⟨b, j, none⟩))) {us : List Value} (hc : Cells w0 b j us) (hl : us.length = n) (hm : ¬ M b)
    (k : wpList P ops Q rest (a.put d (.agg us.toArray)) w) : wpList P ops Q (⟨d, .load ty x, tt, pos, af, gd⟩ :: rest) a w := st_loadN h1 hw hx' hl (fun i u hu => hS.oldCell (hc i u hu) hm) k

/-! stores -/
theorem run_storeAt {v : Value} {us vs : List Value} {g j : Nat} (hz : (P.info? ty).map (·.size) = some us.length) (hv : v.cells = us.toArray) (h1 : ∀ u ∈ us, u.oneCell' = true) (hb : w.heap[g]? = some (.cells vs.toArray t (0, 0))) (hj : j + us.length ≤ vs.length) :
    (Instr.storeAt ty (.pointer (some ⟨g, j, none⟩)) v).run P w = .ok () (w.setCells g j us) := by
  have := run_storeCells_cells (P := P) g j us 0 w (fun i hi => by
      rw [cell_of_heap hb (u := vs[j + 0 + i]'(by omega)) (by simp)]; rfl) (fun i hi => frozen_of_heap hb _) h1
  simp only [Instr.storeAt, Instr.sureAddr, storeVar, hv, Sem.run_bind, Sem.run_pure, Result.andThen_ok, run_sizeOf hz, List.size_toArray, ne_eq, not_true, if_false, Nat.add_zero] at this ⊢
  exact this
theorem st_storesG (hS : St w0 M cs w) (hw : Region.wanted ⟨d, .store ty x y, tt, pos, af, gd⟩ (yielded ops a.tmps) = true) {us : List Value} {g j : Nat} (hx' : oval a x = some (.pointer (some ⟨g, j, none⟩))) {v : Value} (hy' : oval a y = some v) (hv : v.cells = us.toArray) (hz : (P.info? ty).map (·.size) = some us.length) (h1 : ∀ u ∈ us, u.oneCell' = true)
    {vs : List Value} [hp : PickB g cs vs t f] (hj : j + us.length ≤ vs.length) (k : ∀ w', St w0 M (f (blk g (puts vs j us) t)) w' → wpList P ops Q rest (a.put d undef) w') : wpList P ops Q (⟨d, .store ty x y, tt, pos, af, gd⟩ :: rest) a w := by
  have hx := oval_eval hx'
  have hy := oval_eval hy'
  have hS' : St w0 M (f (blk g vs t)) w := hp.eq ▸ hS
  have hb : w.heap[g]? = _ := hS'.at_ hp.gap
  have hh := setCells_heap us j w vs hb
  refine st_skip hw (w' := w.setCells g j us) (by simp only [execOp, hx, hy, Sem.run_bind, run_storeAt hz hv h1 hb hj, Result.andThen_ok, Sem.run_pure]) (k _ ?_)
  exact hS'.updG hp.gap hh.2 hh.1 (fun k e => .inl e)
theorem st_stores {n : Nat} (hS : St w0 M cs w) (hw : Region.wanted ⟨d, .store ty x y, tt, pos, af, gd⟩ (yielded ops a.tmps) = true) [hT : TyN P ty n] {us : List Value} {g j : Nat} (hx' : oval a x = some (.pointer (some ⟨g, j, none⟩))) (hy' : oval a y = some (.agg us.toArray)) (hz : us.length = n) (h1 : ∀ u ∈ us, u.oneCell' = true)
    {vs : List Value} [hp : PickB g cs vs t f] (hj : j + us.length ≤ vs.length) (k : ∀ w', St w0 M (f (blk g (puts vs j us) t)) w' → wpList P ops Q rest (a.put d undef) w') : wpList P ops Q (⟨d, .store ty x y, tt, pos, af, gd⟩ :: rest) a w :=
  st_storesG hS hw hx' hy' rfl (hz ▸ hT.size) h1 hj k
/-- a store over a whole block -/
theorem st_storeW {n : Nat} (hS : St w0 M cs w) (hw : Region.wanted ⟨d, .store ty x y, tt, pos, af, gd⟩ (yielded ops a.tmps) = true) [hT : TyN P ty n] {us : List Value} {g : Nat} (hx' : oval a x = some (.pointer (some ⟨g, 0, none⟩))) (hy' : oval a y = some (.agg us.toArray)) (hz : us.length = n) (h1 : ∀ u ∈ us, u.oneCell' = true)
    {vs : List Value} [hp : PickB g cs vs t f] (hj : us.length = vs.length) (k : ∀ w', St w0 M (f (blk g us t)) w' → wpList P ops Q rest (a.put d undef) w') : wpList P ops Q (⟨d, .store ty x y, tt, pos, af, gd⟩ :: rest) a w :=
  st_storesG hS hw hx' hy' rfl (hz ▸ hT.size) h1 (by omega) (by rw [puts_whole us vs hj]; exact k)
/-- a store of one cell into a block -/
theorem st_st (hS : St w0 M cs w) (hw : Region.wanted ⟨d, .store ty x y, tt, pos, af, gd⟩ (yielded ops a.tmps) = true) [h1 : Ty1 P ty] {g j : Nat} (hx' : oval a x = some (.pointer (some ⟨g, j, none⟩))) {v : Value} (hy' : oval a y = some (v)) (h1 : v.oneCell' = true)
    {vs : List Value} [hp : PickB g cs vs t f] (hj : j < vs.length) (k : ∀ w', St w0 M (f (blk g (vs.set j v) t)) w' → wpList P ops Q rest (a.put d undef) w') : wpList P ops Q (⟨d, .store ty x y, tt, pos, af, gd⟩ :: rest) a w :=
  st_storesG hS hw (us := [v]) hx' hy' (by cases v <;> first | rfl | cases h1) (Ty1.size) (by simpa using h1) (by simp; omega) k
/-- a store of one cell into a row -/
theorem st_str (hS : St w0 M cs w) (hw : Region.wanted ⟨d, .store ty x y, tt, pos, af, gd⟩ (yielded ops a.tmps) = true) [h1 : Ty1 P ty] {g j : Nat} (hx' : oval a x = some (.pointer (some ⟨g, j, none⟩))) {v : Value} (hy' : oval a y = some (v)) (h1 : v.oneCell' = true)
    {vs : List Value} {sz n m cp : Nat} [hp : PickG g cs e sz n m cp vs f] (hj : j < vs.length) (k : ∀ w', St w0 M (f (row (.slice (some ⟨g, 0, none⟩) m cp) e sz n (vs.set j v))) w' → wpList P ops Q rest (a.put d undef) w') : wpList P ops Q (⟨d, .store ty x y, tt, pos, af, gd⟩ :: rest) a w := by
  have hx := oval_eval hx'
  have hy := oval_eval hy'
  have hS' : St w0 M (f (row (.slice (some ⟨g, 0, none⟩) m cp) e sz n vs)) w := hp.eq ▸ hS
  have ho : w.ownsRow 0 e sz (.slice (some ⟨g, 0, none⟩) m cp) n vs := hS'.at_ hp.gap
  have hmn : m = n := by
    rcases ho.2 with ⟨hv, _⟩ | ⟨g', cap, cur, hv, _⟩
    · cases hv
    · injection hv
  subst hmn
  obtain ⟨cur, hcur⟩ := own_heap ho
  have hl : vs.length = m * sz := ho.1
  have hc := (ho.cellAt j (by omega)).trans (List.getElem?_eq_getElem hj)
  have hrun : (Instr.storeAt ty (.pointer (some ⟨g, j, none⟩)) v).run P w = .ok () (w.setCell ⟨g, j, none⟩ v) := by
    have hcv : v.cells = #[v] := by cases v <;> first | rfl | cases h1
    simp [Instr.storeAt, Instr.sureAddr, storeVar, hcv, run_sizeOf (Ty1.size (P := P) (t := ty)), storeCells, add_mk, run_store P w _ v _ h1, hc, ho.frozenAt j]
  refine st_skip hw (w' := w.setCell ⟨g, j, none⟩ v) (by simp only [execOp, hx, hy, Sem.run_bind, hrun, Result.andThen_ok, Sem.run_pure]) (k _ ?_)
  refine hS'.updG hp.gap ⟨rfl, rfl, rfl, by simp [World.setCell], fun k _ hk => Below.heap_setCell _ _ _ _ (fun e => hk (by subst e; rfl))⟩ (ho.stored j v).1 (fun k e => .inl e)

/-! new memory -/
theorem st_newP {op : Op} {us : List Value} (hS : St w0 M cs w) (hw : Region.wanted ⟨d, op, tt, pos, af, gd⟩ (yielded ops a.tmps) = true)
    (h : (execOp a.eval ⟨d, op, tt, pos, af, gd⟩).run P w = .ok (.value (.pointer (some ⟨w.heap.size, 0, none⟩))) (w.alloc (.cells us.toArray e)))
    (k : ∀ g w', St w0 M (blk g us e :: cs) w' → wpList P ops Q rest (a.put d (.pointer (some ⟨g, 0, none⟩))) w') : wpList P ops Q (⟨d, op, tt, pos, af, gd⟩ :: rest) a w :=
  st_run hw h (k w.heap.size _ (hS.add ((Ext.refl' w).alloc' _) (heap_new w _) (fun k e => Nat.le_of_eq e.symm)))
theorem st_newS {op : Op} {us : List Value} {n m : Nat} (hS : St w0 M cs w) (hw : Region.wanted ⟨d, op, tt, pos, af, gd⟩ (yielded ops a.tmps) = true)
    (h : (execOp a.eval ⟨d, op, tt, pos, af, gd⟩).run P w = .ok (.value (.slice (some ⟨w.heap.size, 0, none⟩) n m)) (w.alloc (.cells us.toArray e)))
    (k : ∀ g w', St w0 M (blk g us e :: cs) w' → wpList P ops Q rest (a.put d (.slice (some ⟨g, 0, none⟩) n m)) w') : wpList P ops Q (⟨d, op, tt, pos, af, gd⟩ :: rest) a w :=
  st_run hw h (k w.heap.size _ (hS.add ((Ext.refl' w).alloc' _) (heap_new w _) (fun k e => Nat.le_of_eq e.symm)))
theorem st_alloc (hS : St w0 M cs w) (hw : Region.wanted ⟨d, .alloc ty, tt, pos, af, gd⟩ (yielded ops a.tmps) = true) {us : List Value} [hz : TyZ P ty us]
    (k : ∀ g w', St w0 M (blk g us ty :: cs) w' → wpList P ops Q rest (a.put d (.pointer (some ⟨g, 0, none⟩))) w') : wpList P ops Q (⟨d, .alloc ty, tt, pos, af, gd⟩ :: rest) a w := by
  refine st_newP hS hw ?_ k
  have h := hz.zero
  cases hi : P.info? ty with
  | none => rw [hi] at h; cases h
  | some i =>
    rw [hi] at h
    cases hzz : i.zero with
    | none => simp [hzz] at h
    | some z =>
      simp [hzz] at h
      have hzc : z.cells = us.toArray := by rw [← h]
      simp [execOp, Instr.alloc, zeroValue, typeInfo, hi, hzz, newVar, newRow, hzc]
theorem st_box (hS : St w0 M cs w) (hw : Region.wanted ⟨d, .box ty x, tt, pos, af, gd⟩ (yielded ops a.tmps) = true) {us : List Value} (hx' : oval a x = some (.agg us.toArray))
    (k : ∀ g w', St w0 M (blk g us ty :: cs) w' → wpList P ops Q rest (a.put d (.pointer (some ⟨g, 0, none⟩))) w') : wpList P ops Q (⟨d, .box ty x, tt, pos, af, gd⟩ :: rest) a w := by
  have hx : (a.eval x).cells = us.toArray := by rw [oval_eval hx']; rfl
  refine st_newP hS hw ?_ k
  simp [execOp, Instr.box, newVar, newRow, hx]

theorem st_box1 (hS : St w0 M cs w) (hw : Region.wanted ⟨d, .box ty x, tt, pos, af, gd⟩ (yielded ops a.tmps) = true) {v : Value} (hx' : oval a x = some v) (h1 : v.oneCell' = true)
    (k : ∀ g w', St w0 M (blk g [v] ty :: cs) w' → wpList P ops Q rest (a.put d (.pointer (some ⟨g, 0, none⟩))) w') : wpList P ops Q (⟨d, .box ty x, tt, pos, af, gd⟩ :: rest) a w := by
  have hx : (a.eval x).cells = [v].toArray := by rw [oval_eval hx']; cases v <;> first | rfl | cases h1
  refine st_newP hS hw ?_ k
  simp [execOp, Instr.box, newVar, newRow, hx]
/-- a slice literal, every place written -/
theorem st_bsG {n sz bytes : Nat} {parts : Array (Nat × Operand)} {xs : List Value} [hT : ElemC P ty e sz bytes] (hS : St w0 M cs w) (hw : Region.wanted ⟨d, .buildSlice ty n parts, tt, pos, af, gd⟩ (yielded ops a.tmps) = true)
    (hp : (parts.map fun (i, x) => (i, a.eval x)).toList = (xs.zipIdx 0).map fun x => (x.2, x.1)) (hn : xs.length = n) (h0 : 0 < n) (hmax : n * sz ≤ 2 ^ 24) (hc : ∀ v ∈ xs, v.cells.size = sz)
    (k : ∀ g w', St w0 M (blk g (xs.flatMap fun v => v.cells.toList) e :: cs) w' → wpList P ops Q rest (a.put d (.slice (some ⟨g, 0, none⟩) n n)) w') : wpList P ops Q (⟨d, .buildSlice ty n parts, tt, pos, af, gd⟩ :: rest) a w := by
  obtain ⟨i, z, hi, hz, hsz, _, hzs⟩ := hT.h.hi
  refine st_newS hS hw ?_ k
  have hpos := Nat.mul_pos h0 hT.h.hsz
  have := run_buildSlice (P := P) w ty e n (parts.map fun (i, x) => (i, a.eval x)) (xs.flatMap fun v => v.cells.toList).toArray i z hT.h.ht hi hz (by rw [hsz]; omega) (by rw [hsz]; omega) (by
    rw [hp, hsz]
    exact Great.fill_whole hT.h.hsz xs _ hc (by simp [hn]))
  simp only [execOp, Sem.run_bind, this, Result.andThen_ok, Sem.run_pure]
theorem st_bs1 {sz bytes : Nat} [hT : ElemC P ty e sz bytes] (hS : St w0 M cs w) (hw : Region.wanted ⟨d, .buildSlice ty 1 #[(0, x)], tt, pos, af, gd⟩ (yielded ops a.tmps) = true) {v : Value} (hx' : oval a x = some v) (h1 : v.oneCell' = true) (hz : sz = 1)
    (k : ∀ g w', St w0 M (blk g [v] e :: cs) w' → wpList P ops Q rest (a.put d (.slice (some ⟨g, 0, none⟩) 1 1)) w') : wpList P ops Q (⟨d, .buildSlice ty 1 #[(0, x)], tt, pos, af, gd⟩ :: rest) a w := by
  have hx := oval_eval hx'
  have hv : v.cells = #[v] := by cases v <;> first | rfl | cases h1
  exact st_bsG (xs := [v]) hS hw (by simp [hx]) rfl (by omega) (by rw [hz]; decide) (by simp [hv, hz]) (by simpa [hv] using k)
theorem st_bs1A {sz bytes : Nat} [hT : ElemC P ty e sz bytes] (hS : St w0 M cs w) (hw : Region.wanted ⟨d, .buildSlice ty 1 #[(0, x)], tt, pos, af, gd⟩ (yielded ops a.tmps) = true) {us : List Value} (hx' : oval a x = some (.agg us.toArray)) (hl : us.length = sz) (hz : sz ≤ 1000)
    (k : ∀ g w', St w0 M (blk g us e :: cs) w' → wpList P ops Q rest (a.put d (.slice (some ⟨g, 0, none⟩) 1 1)) w') : wpList P ops Q (⟨d, .buildSlice ty 1 #[(0, x)], tt, pos, af, gd⟩ :: rest) a w := by
  have hx := oval_eval hx'
  exact st_bsG (xs := [.agg us.toArray]) hS hw (by simp [hx]) rfl (by omega) (by omega) (by simp [Value.cells, hl]) (by simpa [Value.cells] using k)
theorem st_bs2 {sz bytes : Nat} [hT : ElemC P ty e sz bytes] (hS : St w0 M cs w) (hw : Region.wanted ⟨d, .buildSlice ty 2 #[(0, x), (1, y)], tt, pos, af, gd⟩ (yielded ops a.tmps) = true) {v u : Value} (hx' : oval a x = some v) (hy' : oval a y = some u) (h1 : v.oneCell' = true) (h2 : u.oneCell' = true) (hz : sz = 1)
    (k : ∀ g w', St w0 M (blk g [v, u] e :: cs) w' → wpList P ops Q rest (a.put d (.slice (some ⟨g, 0, none⟩) 2 2)) w') : wpList P ops Q (⟨d, .buildSlice ty 2 #[(0, x), (1, y)], tt, pos, af, gd⟩ :: rest) a w := by
  have hx := oval_eval hx'
  have hy := oval_eval hy'
  have hv : v.cells = #[v] := by cases v <;> first | rfl | cases h1
  have hu : u.cells = #[u] := by cases u <;> first | rfl | cases h2
  exact st_bsG (xs := [v, u]) hS hw (by simp [hx, hy]) rfl (by omega) (by rw [hz]; decide) (by simp [hv, hu, hz]) (by simpa [hv, hu] using k)
theorem st_bs2A {sz bytes : Nat} [hT : ElemC P ty e sz bytes] (hS : St w0 M cs w) (hw : Region.wanted ⟨d, .buildSlice ty 2 #[(0, x), (1, y)], tt, pos, af, gd⟩ (yielded ops a.tmps) = true) {us vs : List Value} (hx' : oval a x = some (.agg us.toArray)) (hy' : oval a y = some (.agg vs.toArray)) (hl : us.length = sz) (hl2 : vs.length = sz) (hz : sz ≤ 1000)
    (k : ∀ g w', St w0 M (blk g (us ++ vs) e :: cs) w' → wpList P ops Q rest (a.put d (.slice (some ⟨g, 0, none⟩) 2 2)) w') : wpList P ops Q (⟨d, .buildSlice ty 2 #[(0, x), (1, y)], tt, pos, af, gd⟩ :: rest) a w := by
  have hx := oval_eval hx'
  have hy := oval_eval hy'
  exact st_bsG (xs := [.agg us.toArray, .agg vs.toArray]) hS hw (by simp [hx, hy]) rfl (by omega) (by omega) (by simp [Value.cells, hl, hl2]) (by simpa [Value.cells] using k)

/-! append -/
theorem grown_keep {w w' : World} {v : Value} (h : w.grownBy w' v.ownBlock) : Keep (fun k => ¬ v.ownBlock = some k) w w' := ⟨h.os, h.tape, h.output, h.size, fun k hk hn => h.block k hk (fun e => hn e.symm)⟩
theorem st_appG {sz bytes n m c : Nat} [hT : ElemC P t e sz bytes] (hS : St w0 M cs w) (hw : Region.wanted ⟨d, .call { callee := .builtin .append, args := #[x, y], argTypes := #[t, t] }, tt, pos, af, gd⟩ (yielded ops a.tmps) = true)
    {v : Value} (hx' : oval a x = some (v)) {A : Option Addr} (hy' : oval a y = some (.slice A m c)) {vs : List Value} [hp : PickR v cs e sz n vs f] {news : List Value} {S : Nat → Prop} (hr : RV S w A news) (hl : news.length = m * sz) (h1 : ∀ u ∈ news, u.oneCell' = true) (hb : (n + m) * bytes ≤ 140737488355328)
    (k : ∀ L c' w', n + m ≤ c' → c' ≤ 9223372036854775807 → St w0 M (f (row (.slice L (n + m) c') e sz (n + m) (vs ++ news))) w' → wpList P ops Q rest (a.put d (.slice L (n + m) c')) w') :
    wpList P ops Q (⟨d, .call { callee := .builtin .append, args := #[x, y], argTypes := #[t, t] }, tt, pos, af, gd⟩ :: rest) a w := by
  have hx := oval_eval hx'
  have hy := oval_eval hy'
  have hS' : St w0 M (f (row v e sz n vs)) w := hp.eq ▸ hS
  have ho : w.ownsRow 0 e sz v n vs := hS'.at_ hp.gap
  obtain ⟨v', w', hrun, h2, h3, h4⟩ := run_app hT.h w 0 tt v n vs ho A m c news hl hr h1 hb (Nat.zero_le _)
  obtain ⟨L, c', rfl, hc1, hc2⟩ := own_form h2
  refine st_run hw (v := .slice L (n + m) c') (w' := w') ?_ (k L c' w' hc1 hc2 ?_)
  · simp only [execOp, resolve, invoke, builtin, Sem.run_bind, Sem.run_pure, Result.andThen_ok, List.map_toArray, List.map_cons, List.map_nil, hx, hy, hrun]
  · exact hS'.updG hp.gap (grown_keep h3) h2 (fun k (e : Value.ownBlock _ = _) => by
      rcases h4 with h4 | h4
      · exact .inl (h4.symm.trans e)
      · rw [h4] at e; injection e with e; exact .inr (Nat.le_of_eq e))
/-- append onto nil -/
theorem st_appN {sz bytes m c : Nat} [hT : ElemC P t e sz bytes] (hS : St w0 M cs w) (hw : Region.wanted ⟨d, .call { callee := .builtin .append, args := #[x, y], argTypes := #[t, t] }, tt, pos, af, gd⟩ (yielded ops a.tmps) = true)
    (hx' : oval a x = some (.slice none 0 0)) {A : Option Addr} (hy' : oval a y = some (.slice A m c)) {news : List Value} {S : Nat → Prop} (hr : RV S w A news) (hl : news.length = m * sz) (h1 : ∀ u ∈ news, u.oneCell' = true) (hb : m * bytes ≤ 140737488355328)
    (k : ∀ L c' w', m ≤ c' → c' ≤ 9223372036854775807 → St w0 M (row (.slice L m c') e sz m news :: cs) w' → wpList P ops Q rest (a.put d (.slice L m c')) w') :
    wpList P ops Q (⟨d, .call { callee := .builtin .append, args := #[x, y], argTypes := #[t, t] }, tt, pos, af, gd⟩ :: rest) a w := by
  have hx := oval_eval hx'
  have hy := oval_eval hy'
  have hS2 : St w0 M (row (.slice none 0 0) e sz 0 [] :: cs) w := hS.emp.upd (Keep.refl _ _) (ownsRow_nil w 0 e sz) (fun k e => by cases e)
  refine st_appG (f := fun c => c :: cs) (n := 0) (vs := []) hS2 hw hx' hy' hr hl h1 (by simpa using hb) ?_
  rw [Nat.zero_add, List.nil_append]
  exact k
theorem RV.ofBlk {g : Nat} {us : List Value} (h : w.heap[g]? = some (.cells us.toArray t (0, 0))) : RV All w (some ⟨g, 0, none⟩) us := fun j u hu => ⟨g, 0, rfl, trivial, by rw [Nat.zero_add]; exact cell_of_heap h (by simpa using hu)⟩
theorem RV.ofRow {v : Value} {sz n : Nat} {us : List Value} {A : Option Addr} {k c : Nat} (h : w.ownsRow 0 e sz v n us) (hv : v = .slice A k c) : RV All w A us := by
  subst hv
  have hk : k = n := by
    rcases h.2 with ⟨hv, hn⟩ | ⟨g', cap, cur, hv, _⟩
    · injection hv with _ h1 _; omega
    · injection hv
  subst hk
  exact RV.ofOwn' h (fun _ _ => trivial)
/-- append of what was just laid out -/
theorem st_app {sz bytes n m c g : Nat} [hT : ElemC P t e sz bytes] (hS : St w0 M cs w) (hw : Region.wanted ⟨d, .call { callee := .builtin .append, args := #[x, y], argTypes := #[t, t] }, tt, pos, af, gd⟩ (yielded ops a.tmps) = true)
    {v : Value} (hx' : oval a x = some (v)) (hy' : oval a y = some (.slice (some ⟨g, 0, none⟩) m c)) {news : List Value} {t' : TypeId} [hd : DropB g cs news t' ds] {vs : List Value} [hp : PickR v ds e sz n vs f] (hl : news.length = m * sz) (h1 : ∀ u ∈ news, u.oneCell' = true) (hb : (n + m) * bytes ≤ 140737488355328)
    (k : ∀ L c' w', n + m ≤ c' → c' ≤ 9223372036854775807 → St w0 M (f (row (.slice L (n + m) c') e sz (n + m) (vs ++ news))) w' → wpList P ops Q rest (a.put d (.slice L (n + m) c')) w') :
    wpList P ops Q (⟨d, .call { callee := .builtin .append, args := #[x, y], argTypes := #[t, t] }, tt, pos, af, gd⟩ :: rest) a w :=
  st_appG (hS.sub hd.sub) hw hx' hy' (RV.ofBlk (hS.all _ hd.mem : w.heap[g]? = _)) hl h1 hb k
theorem st_app0 {sz bytes m c g : Nat} [hT : ElemC P t e sz bytes] (hS : St w0 M cs w) (hw : Region.wanted ⟨d, .call { callee := .builtin .append, args := #[x, y], argTypes := #[t, t] }, tt, pos, af, gd⟩ (yielded ops a.tmps) = true)
    (hx' : oval a x = some (.slice none 0 0)) (hy' : oval a y = some (.slice (some ⟨g, 0, none⟩) m c)) {news : List Value} {t' : TypeId} [hd : DropB g cs news t' ds] (hl : news.length = m * sz) (h1 : ∀ u ∈ news, u.oneCell' = true) (hb : m * bytes ≤ 140737488355328)
    (k : ∀ L c' w', m ≤ c' → c' ≤ 9223372036854775807 → St w0 M (row (.slice L m c') e sz m news :: ds) w' → wpList P ops Q rest (a.put d (.slice L m c')) w') :
    wpList P ops Q (⟨d, .call { callee := .builtin .append, args := #[x, y], argTypes := #[t, t] }, tt, pos, af, gd⟩ :: rest) a w :=
  st_appN (hS.sub hd.sub) hw hx' hy' (RV.ofBlk (hS.all _ hd.mem : w.heap[g]? = _)) hl h1 hb k
end

/-! an empty literal, make -/
section
variable {P : Program} {ops : Array Oper} {Q : Exit → Act → World → Prop} {a : Act} {w w0 : World} {M : Nat → Prop} {cs ds : List (Chunk w0 M)} {f : Chunk w0 M → List (Chunk w0 M)} {rest : List Oper} {d : Option Tmp} {tt ty t e : TypeId} {pos : String} {af : Array Edge} {gd : Option (Nat × Bool)} {x y : Operand}
theorem st_bs0 {sz bytes : Nat} [hT : ElemC P ty e sz bytes] (hS : St w0 M cs w) (hw : Region.wanted ⟨d, .buildSlice ty 0 #[], tt, pos, af, gd⟩ (yielded ops a.tmps) = true)
    (k : ∀ g w', St w0 M (row (.slice (some ⟨g, 0, none⟩) 0 0) e sz 0 [] :: cs) w' → wpList P ops Q rest (a.put d (.slice (some ⟨g, 0, none⟩) 0 0)) w') : wpList P ops Q (⟨d, .buildSlice ty 0 #[], tt, pos, af, gd⟩ :: rest) a w := by
  obtain ⟨i, z, hi, hz, hsz, _, hzs⟩ := hT.h.hi
  have hrun : (execOp a.eval ⟨d, .buildSlice ty 0 #[], tt, pos, af, gd⟩).run P w = .ok (.value (.slice (some ⟨w.heap.size, 0, none⟩) 0 0)) (w.alloc (.cells #[] e)) := by
    simp [execOp, Instr.buildSlice, run_underlying hT.h.ht, sizeOf, typeInfo, hi, Instr.fill, newRow]
    congr 2
    apply Array.ext <;> simp
  refine st_run hw hrun (k w.heap.size _ (hS.add ((Ext.refl' w).alloc' _) ⟨by simp, .inr ⟨w.heap.size, 0, #[], rfl, Nat.zero_le _, heap_new w _, Nat.le_refl _, by unfold maxLen; omega, by simp, by simp⟩⟩ (fun k (e : some w.heap.size = some k) => by injection e with e; omega)))
theorem st_mkG {sz bytes n : Nat} {z1 z2 : Int} [hT : ElemC P ty e sz bytes] (hS : St w0 M cs w) (hw : Region.wanted ⟨d, .makeSlice ty x y, tt, pos, af, gd⟩ (yielded ops a.tmps) = true)
    (hx' : oval a x = some (.int .i64 z1)) (hy' : oval a y = some (.int .i64 z2)) (h1 : z1 = n) (h2 : z2 = n) (hb : bytes * n ≤ 140737488355328)
    (k : ∀ g w' (z : Value), (P.info? e).map (·.zero) = some (some z) → St w0 M (row (.slice (some ⟨g, 0, none⟩) n n) e sz n (madeCells z.cells (n * sz)).toList :: cs) w' → wpList P ops Q rest (a.put d (.slice (some ⟨g, 0, none⟩) n n)) w') : wpList P ops Q (⟨d, .makeSlice ty x y, tt, pos, af, gd⟩ :: rest) a w := by
  obtain ⟨i, z, hi, hz, hsz, hby, hzs⟩ := hT.h.hi
  subst h1 h2
  have hn : n ≤ maxLen := by
    have : n ≤ bytes * n := Nat.le_mul_of_pos_left _ hT.h.hby
    unfold maxLen; omega
  obtain ⟨w', hr, ho, hg⟩ := run_make_full (P := P) w w.heap.size ty e i z sz hT.h.ht hi hz hsz .i64 .i64 n (by rw [hby]; omega) hn (Nat.le_refl _)
  have hrun : (execOp a.eval ⟨d, .makeSlice ty x y, tt, pos, af, gd⟩).run P w = .ok (.value (.slice (some ⟨w.heap.size, 0, none⟩) n n)) w' := by
    simp only [execOp, oval_eval hx', oval_eval hy', Sem.run_bind, hr, Result.andThen_ok, Sem.run_pure]
  have hx : Ext w w' := ⟨hg.os, hg.tape, hg.output, hg.size, fun k hk => hg.block k hk (by simp)⟩
  exact st_run hw hrun (k w.heap.size _ z (by simp [hi, hz]) (hS.add hx (own_base ho (Nat.zero_le _)) (fun k e => own_block ho k e)))
theorem made1 {z u : Value} (h : z.cells = #[u]) (n : Nat) : (madeCells z.cells n).toList = List.replicate n u := by
  rw [h]
  apply List.ext_getElem
  · simp [madeCells]
  · intro i h1 h2
    simp [madeCells, Nat.mod_one]
end

/-! rows of numbers -/
/-- the row of a slice of numbers -/
abbrev irow {w0 : World} {M : Nat → Prop} (e : TypeId) (L : Option Addr) (c : Nat) (ys : List Int) : Chunk w0 M := row (.slice L ys.length c) e 1 ys.length (ints ys)
section
variable {P : Program} {ops : Array Oper} {Q : Exit → Act → World → Prop} {a : Act} {w w0 : World} {M : Nat → Prop} {cs ds : List (Chunk w0 M)} {f : Chunk w0 M → List (Chunk w0 M)} {rest : List Oper} {d : Option Tmp} {tt ty t e : TypeId} {pos : String} {af : Array Edge} {gd : Option (Nat × Bool)} {x y : Operand}
theorem row_snoc {L : Option Addr} {c : Nat} {ys : List Int} {z : Int} : (row (.slice L (ys.length + 1) c) e 1 (ys.length + 1) (ints ys ++ [.int .i64 z]) : Chunk w0 M) = irow e L c (ys ++ [z]) := by
  simp [irow, ints]
/-- append of one number -/
theorem st_appI {bytes c c1 g : Nat} {ys : List Int} {z : Int} {L1 : Option Addr} [hT : ElemC P t e 1 bytes] (hS : St w0 M cs w) (hw : Region.wanted ⟨d, .call { callee := .builtin .append, args := #[x, y], argTypes := #[t, t] }, tt, pos, af, gd⟩ (yielded ops a.tmps) = true)
    (hx' : oval a x = some (.slice L1 ys.length c1)) (hy' : oval a y = some (.slice (some ⟨g, 0, none⟩) 1 c)) {t' : TypeId} [hd : DropB g cs [.int .i64 z] t' ds] [hp : PickR (.slice L1 ys.length c1) ds e 1 ys.length (ints ys) f] (hb : (ys.length + 1) * bytes ≤ 140737488355328)
    (k : ∀ L c' w', ys.length + 1 ≤ c' → c' ≤ 9223372036854775807 → St w0 M (f (irow e L c' (ys ++ [z]))) w' → wpList P ops Q rest (a.put d (.slice L (ys ++ [z]).length c')) w') :
    wpList P ops Q (⟨d, .call { callee := .builtin .append, args := #[x, y], argTypes := #[t, t] }, tt, pos, af, gd⟩ :: rest) a w := by
  refine st_app hS hw hx' hy' (by simp) (by simp [Value.oneCell']) hb ?_
  intro L c' w' h1 h2 h3
  have := k L c' w' h1 h2
  rw [List.length_append] at this
  rw [row_snoc] at h3
  exact this h3
theorem ints_replicate (n : Nat) (z : Int) : ints (List.replicate n z) = List.replicate n (.int .i64 z) := by simp [ints]
/-- make([]int, n) -/
theorem st_mkI {bytes n : Nat} {z1 z2 : Int} [hT : ElemC P ty e 1 bytes] (hS : St w0 M cs w) (hw : Region.wanted ⟨d, .makeSlice ty x y, tt, pos, af, gd⟩ (yielded ops a.tmps) = true)
    (hx' : oval a x = some (.int .i64 z1)) (hy' : oval a y = some (.int .i64 z2)) [hz : TyZ P e [.int .i64 0]] (h1 : z1 = n) (h2 : z2 = n) (hb : bytes * n ≤ 140737488355328)
    (k : ∀ g w', St w0 M (row (.slice (some ⟨g, 0, none⟩) n n) e 1 n (ints (List.replicate n 0)) :: cs) w' → wpList P ops Q rest (a.put d (.slice (some ⟨g, 0, none⟩) n n)) w') : wpList P ops Q (⟨d, .makeSlice ty x y, tt, pos, af, gd⟩ :: rest) a w := by
  refine st_mkG (n := n) hS hw hx' hy' h1 h2 hb ?_
  intro g w' z hz' h
  have hzc : z.cells = #[.int .i64 0] := by
    have h3 := hz.zero
    cases hi : P.info? e with
    | none => rw [hi] at h3; cases h3
    | some i =>
      rw [hi] at h3 hz'
      simp only [Option.map_some, Option.some.injEq] at h3 hz'
      rw [hz'] at h3
      simp only [Option.map_some, Option.some.injEq] at h3
      exact Array.toList_inj.1 h3
  rw [made1 hzc, Nat.mul_one] at h
  refine k g w' ?_
  rw [ints_replicate]
  exact h
/-- a number into a row of numbers -/
theorem st_strI (hS : St w0 M cs w) (hw : Region.wanted ⟨d, .store ty x y, tt, pos, af, gd⟩ (yielded ops a.tmps) = true) [h1 : Ty1 P ty] {g j : Nat} (hx' : oval a x = some (.pointer (some ⟨g, j, none⟩))) {v : Int} (hy' : oval a y = some (.int .i64 v))
    {zs : List Int} {n m cp : Nat} [hp : PickG g cs e 1 n m cp (ints zs) f] (hj : j < zs.length) (k : ∀ w', St w0 M (f (row (.slice (some ⟨g, 0, none⟩) m cp) e 1 n (ints (zs.set j v)))) w' → wpList P ops Q rest (a.put d undef) w') : wpList P ops Q (⟨d, .store ty x y, tt, pos, af, gd⟩ :: rest) a w := by
  refine st_str hS hw hx' hy' rfl (by simpa using hj) ?_
  intro w' h
  refine k w' ?_
  rw [ints, List.map_set]; exact h
/-- append of old numbers onto a row of numbers -/
theorem st_appO {bytes c c1 m : Nat} {ys xs : List Int} {L1 A : Option Addr} {S : Nat → Prop} [hT : ElemC P t e 1 bytes] (hS : St w0 M cs w) (hw : Region.wanted ⟨d, .call { callee := .builtin .append, args := #[x, y], argTypes := #[t, t] }, tt, pos, af, gd⟩ (yielded ops a.tmps) = true)
    (hx' : oval a x = some (.slice L1 ys.length c1)) (hy' : oval a y = some (.slice A m c)) [hp : PickR (.slice L1 ys.length c1) cs e 1 ys.length (ints ys) f] (hr : RI S w A xs) (hm : xs.length = m) (hb : (ys.length + m) * bytes ≤ 140737488355328)
    (k : ∀ L c' w', ys.length + m ≤ c' → c' ≤ 9223372036854775807 → St w0 M (f (irow e L c' (ys ++ xs))) w' → wpList P ops Q rest (a.put d (.slice L (ys ++ xs).length c')) w') :
    wpList P ops Q (⟨d, .call { callee := .builtin .append, args := #[x, y], argTypes := #[t, t] }, tt, pos, af, gd⟩ :: rest) a w := by
  refine st_appG hS hw hx' hy' hr (by simp [hm]) (oneCell_ints xs) hb ?_
  intro L c' w' h1 h2 h3
  subst hm
  have := k L c' w' h1 h2
  rw [irow, ints, List.map_append, List.length_append] at this
  exact this h3
/-- append of numbers onto nil -/
theorem st_appON {bytes c m : Nat} {xs : List Int} {A : Option Addr} {S : Nat → Prop} [hT : ElemC P t e 1 bytes] (hS : St w0 M cs w) (hw : Region.wanted ⟨d, .call { callee := .builtin .append, args := #[x, y], argTypes := #[t, t] }, tt, pos, af, gd⟩ (yielded ops a.tmps) = true)
    (hx' : oval a x = some (.slice none 0 0)) (hy' : oval a y = some (.slice A m c)) (hr : RI S w A xs) (hm : xs.length = m) (hb : m * bytes ≤ 140737488355328)
    (k : ∀ L c' w', m ≤ c' → c' ≤ 9223372036854775807 → St w0 M (irow e L c' xs :: cs) w' → wpList P ops Q rest (a.put d (.slice L xs.length c')) w') :
    wpList P ops Q (⟨d, .call { callee := .builtin .append, args := #[x, y], argTypes := #[t, t] }, tt, pos, af, gd⟩ :: rest) a w := by
  refine st_appN hS hw hx' hy' hr (by simp [hm]) (oneCell_ints xs) hb ?_
  intro L c' w' h1 h2 h3
  subst hm
  exact k L c' w' h1 h2 h3
end
theorem RI.atS {S : Nat → Prop} {w : World} {A : Option Addr} {xs : List Int} (h : RI S w A xs) {k : Nat} (hk : k < xs.length) : ∃ b o, A = some ⟨b, o, none⟩ ∧ S b ∧ w.cell? ⟨b, o + k, none⟩ = some (.int .i64 xs[k]) :=
  let ⟨b, o, e, hs, hc⟩ := h k _ (by simp [hk]); ⟨b, o, e, hs, hc⟩
theorem RI.getN {S : Nat → Prop} {w : World} {A : Option Addr} {xs : List Int} (h : RI S w A xs) : RI All w A xs := h.sub (fun _ _ => trivial)
theorem ints_get {xs : List Int} {k : Nat} (h : k < xs.length) : (ints xs)[k]? = some (.int .i64 xs[k]) := by simp [ints, h]

/-! results -/
/-- a new row is returned, all old memory is as it was -/
def RetRow (w : World) (e : TypeId) (sz n : Nat) (vs : List Value) (en : Ending) (w' : World) : Prop := ∃ L c, en = .returned (.slice L n c) ∧ w'.ownsRow w.heap.size e sz (.slice L n c) n vs ∧ Ext w w'
section
variable {w0 w w' : World} {M : Nat → Prop} {cs : List (Chunk w0 M)} {f : Chunk w0 M → List (Chunk w0 M)} {v : Value} {e : TypeId} {sz n : Nat} {vs : List Value}
theorem St.addRow (h : St w0 M cs w) (ho : w'.ownsRow w.heap.size e sz v n vs) (hx : Ext w w') : St w0 M (row v e sz n vs :: cs) w' := h.add hx (own_base ho (Nat.zero_le _)) (fun k e => own_block ho k e)
theorem St.addNil (h : St w0 M cs w) (e : TypeId) (sz : Nat) : St w0 M (row (.slice none 0 0) e sz 0 [] :: cs) w := h.addRow (ownsRow_nil w _ e sz) (Ext.refl' w)
theorem St.rowOk (h : St w0 M cs w) [hp : PickR v cs e sz n vs f] : w.ownsRow 0 e sz v n vs := (hp.eq ▸ h : St w0 M (f (row v e sz n vs)) w).at_ hp.gap
theorem St.rowForm (h : St w0 M cs w) (A : Option Addr) {k c : Nat} [hp : PickL A cs k c e sz n vs f] : n ≤ c ∧ c ≤ 9223372036854775807 := by
  have ho : w.ownsRow 0 e sz (.slice A k c) n vs := (hp.eq ▸ h : St w0 M (f (row (.slice A k c) e sz n vs)) w).at_ hp.gap
  obtain ⟨A', c', hv, h1, h2⟩ := own_form ho
  injection hv with _ _ h3
  subst h3; exact ⟨h1, h2⟩
theorem St.rowSome (h : St w0 M cs w) (A : Option Addr) {k c : Nat} [hp : PickL A cs k c e sz n vs f] (hn : 0 < n) : ∃ g, A = some ⟨g, 0, none⟩ := by
  have ho : w.ownsRow 0 e sz (.slice A k c) n vs := (hp.eq ▸ h : St w0 M (f (row (.slice A k c) e sz n vs)) w).at_ hp.gap
  obtain ⟨g, c', hv, _⟩ := own_some ho hn
  injection hv with h1
  exact ⟨g, h1⟩
theorem St.rv (h : St w0 M cs w) {A : Option Addr} {k c : Nat} [hp : PickL A cs k c e sz n vs f] : RV All w A vs := RV.ofRow ((hp.eq ▸ h : St w0 M (f (row (.slice A k c) e sz n vs)) w).at_ hp.gap) rfl
theorem own_rebase {base : Nat} (h : w.ownsRow 0 e sz v n vs) (hb : ∀ k, v.ownBlock = some k → base ≤ k) : w.ownsRow base e sz v n vs := by
  obtain ⟨h1, h2⟩ := h
  refine ⟨h1, ?_⟩
  rcases h2 with h2 | ⟨g, cap, cur, hv, hg, r⟩
  · exact .inl h2
  · exact .inr ⟨g, cap, cur, hv, hb g (by subst hv; rfl), r⟩
end
theorem St.ri {w0 w : World} {M : Nat → Prop} {cs : List (Chunk w0 M)} {f : Chunk w0 M → List (Chunk w0 M)} {e : TypeId} {A : Option Addr} {k c n : Nat} {xs : List Int} (h : St w0 M cs w) [hp : PickL A cs k c e 1 n (ints xs) f] : RI All w A xs := h.rv (f := f)
theorem St.rowOwn {w0 w : World} {cs : List (Chunk w0 NoM)} {f : Chunk w0 NoM → List (Chunk w0 NoM)} {v : Value} {e : TypeId} {sz n : Nat} {vs : List Value} (h : St w0 NoM cs w) [hp : PickR v cs e sz n vs f] : w.ownsRow w0.heap.size e sz v n vs := by
  have h' : St w0 NoM (f (row v e sz n vs)) w := hp.eq ▸ h
  obtain ⟨l, r, he⟩ := hp.gap.ex
  rw [he] at h'
  exact own_rebase h'.mem (fun k hk => (h'.new (row v e sz n vs) (by simp) k hk).resolve_right id)
/-- a row that the call has made: it lies in no block that M names -/
theorem St.rowNew {w0 w : World} {M : Nat → Prop} {cs : List (Chunk w0 M)} {f : Chunk w0 M → List (Chunk w0 M)} {v : Value} {e : TypeId} {sz n : Nat} {vs : List Value} (h : St w0 M cs w) [hp : PickR v cs e sz n vs f] (hM : ∀ k, M k → v.ownBlock ≠ some k) : w.ownsRow w0.heap.size e sz v n vs := by
  have h' : St w0 M (f (row v e sz n vs)) w := hp.eq ▸ h
  obtain ⟨l, r, he⟩ := hp.gap.ex
  rw [he] at h'
  exact own_rebase h'.mem (fun k hk => (h'.new (row v e sz n vs) (by simp) k hk).resolve_right (fun hm => hM k hm hk))
theorem St.ret {w0 w : World} {cs : List (Chunk w0 NoM)} {f : Chunk w0 NoM → List (Chunk w0 NoM)} {L : Option Addr} {c k : Nat} {e : TypeId} {sz n : Nat} {vs : List Value} (h : St w0 NoM cs w) [hp : PickR (.slice L k c) cs e sz n vs f] (hk : k = n) : RetRow w0 e sz n vs (.returned (.slice L k c)) w := by
  subst hk; exact ⟨L, c, rfl, h.rowOwn, h.toExt⟩
end Go.Proofs.Ytmjmdncdmmcmaaa
