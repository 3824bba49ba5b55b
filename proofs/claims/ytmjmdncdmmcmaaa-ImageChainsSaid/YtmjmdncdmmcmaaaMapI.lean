/- Maps keyed by numbers: look-up, update, as operations of a walk. No condition. -/
import Derived.Test.YtmjmdncdmmcmaaaArms
import Derived.Test.YtmjmdncdmmcmaaaTypes
import Derived.MapKept
import Derived.Carry
namespace Go.Proofs.Ytmjmdncdmmcmaaa
open Go.RowKit
set_option linter.unusedVariables false
set_option linter.unusedSectionVars false

/-- a number as a value -/
abbrev ptv (k : Int) : Value := .int .i64 k
theorem ck_pt (e : Bool) (k : Int) (w : World) : (Instr.checkKey e 10000 3 (ptv k)).run Try.prog w = .ok () w := by
  show (Instr.checkKey e (9999 + 1) 3 (.int .i64 k)).run Try.prog w = .ok () w
  rw [Instr.checkKey]
  simp only [Sem.run_bind, run_underlying Try.underlying3, Result.andThen_ok, Sem.run_pure]

/-- entries as a list of points and values -/
def EntL (es : List MapEntry) (L : List (Int × Value)) : Prop := es.map (fun e => (e.key, e.val)) = L.map (fun x => (ptv x.1, x.2))
theorem EntL.cons {e : MapEntry} {es : List MapEntry} {L : List (Int × Value)} (h : EntL (e :: es) L) : ∃ k v L', L = (k, v) :: L' ∧ e.key = ptv k ∧ e.val = v ∧ EntL es L' := by
  cases L with
  | nil => simp [EntL] at h
  | cons x L =>
    simp only [EntL, List.map_cons, List.cons.injEq, Prod.mk.injEq] at h
    exact ⟨x.1, x.2, L, rfl, h.1.1, h.1.2, h.2⟩
theorem EntL.nil {L : List (Int × Value)} (h : EntL [] L) : L = [] := by
  cases L with
  | nil => rfl
  | cons x L => simp [EntL] at h
/-- what finding a key yields -/
def Found (k : Int) (L : List (Int × Value)) (i0 : Nat) (r : Option (Nat × Value)) : Prop :=
  (r = none ∧ L.lookup k = none) ∨ ∃ i v, r = some (i0 + i, v) ∧ L.lookup k = some v ∧ L[i]? = some (k, v) ∧ (L.take i).lookup k = none
theorem findNow_int {kd : IntKind} (k : Int) : ∀ (es : List MapEntry) (L : List (Int × Value)) (i0 : Nat), EntL es L → ∃ r, Instr.findNow (.int kd) (ptv k) es i0 = some r ∧ Found k L i0 r
  | [], L, i0, h => by
    have := h.nil
    subst this
    exact ⟨none, rfl, .inl ⟨rfl, rfl⟩⟩
  | e :: es, L, i0, h => by
    obtain ⟨l, v, L', rfl, hk, hv, h'⟩ := h.cons
    have hs : Instr.sameNow (.int kd) (ptv k) e.key = some (k == l) := by rw [hk]; simp [Instr.sameNow]
    rw [Instr.findNow, hs]
    by_cases hkl : k = l
    · subst hkl
      refine ⟨some (i0, v), by simp [hv], .inr ⟨0, v, rfl, by simp, rfl, rfl⟩⟩
    · obtain ⟨r, hr, hf⟩ := findNow_int k es L' (i0 + 1) h'
      have hb : (k == l) = false := by simpa using hkl
      refine ⟨r, by rw [hb]; exact hr, ?_⟩
      rcases hf with ⟨h1, h2⟩ | ⟨i, u, h1, h2, h3, h4⟩
      · exact .inl ⟨h1, by rw [List.lookup_cons, hb]; exact h2⟩
      · exact .inr ⟨i + 1, u, by rw [h1]; congr 2; omega, by rw [List.lookup_cons, hb]; exact h2, by simpa using h3, by rw [List.take_succ_cons, List.lookup_cons, hb]; exact h4⟩
theorem run_findKey_pt (k : Int) (w : World) (es : List MapEntry) (L : List (Int × Value)) (h : EntL es L) : ∃ r, (Instr.findKey 3 (ptv k) es).run Try.prog w = .ok r w ∧ Found k L 0 r := by
  obtain ⟨r, hr, hf⟩ := findNow_int (kd := .i64) k es L 0 h
  refine ⟨r, ?_, hf⟩
  simp only [Instr.findKey, Sem.run_bind, run_underlying Try.underlying3, Result.andThen_ok, hr, Sem.run_pure]

/-- block g is a map, m says what it holds -/
def MapAt (w : World) (g : Nat) (m : Int → Option Value) : Prop := ∃ (es : Array MapEntry) (clock : Nat) (L : List (Int × Value)), w.heap[g]? = some (.map es clock) ∧ EntL es.toList L ∧ ∀ k, L.lookup k = m k
def mpc {w0 : World} {M : Nat → Prop} (g : Nat) (m : Int → Option Value) : Chunk w0 M :=
  ⟨fun k => k = g, fun w => MapAt w g m, fun {w w'} h hk => by obtain ⟨es, c, L, h1, h2, h3⟩ := h; exact ⟨es, c, L, (hk g (.inl rfl)).trans h1, h2, h3⟩, fun {w k} h e => by obtain ⟨es, c, L, h1, _⟩ := h; subst e; exact lt_of_block h1⟩
class PickM {w0 : World} {M : Nat → Prop} (g : Nat) (cs : List (Chunk w0 M)) (m : outParam (Int → Option Value)) (f : outParam (Chunk w0 M → List (Chunk w0 M))) : Prop where
  eq : cs = f (mpc g m)
  gap : Gap f
instance {w0 : World} {M : Nat → Prop} (g : Nat) (m : Int → Option Value) (r : List (Chunk w0 M)) : PickM g (mpc g m :: r) m (fun c => c :: r) := ⟨rfl, .head r⟩
instance (priority := low) {w0 : World} {M : Nat → Prop} (g : Nat) (m : Int → Option Value) (d : Chunk w0 M) (r : List (Chunk w0 M)) (f : Chunk w0 M → List (Chunk w0 M)) [h : PickM g r m f] : PickM g (d :: r) m (fun c => d :: f c) := ⟨by rw [h.eq], .tail d h.gap⟩
class MapT (P : Program) (t : TypeId) (e : outParam TypeId) (z : outParam Value) : Prop where
  und : P.underlying t = some (.map 3 e)
  zero : (P.info? e).map (·.zero) = some (some z)
def mget (m : Int → Option Value) (z : Value) (k : Int) : Value := (m k).getD z
def mput (m : Int → Option Value) (k : Int) (v : Value) : Int → Option Value := fun l => if l = k then some v else m l

theorem run_look {t e : TypeId} {z : Value} (hT : MapT Try.prog t e z) {w : World} {g : Nat} {m : Int → Option Value} (h : MapAt w g m) (k : Int) :
    (Instr.lookup t (.map (some g)) (ptv k) true).run Try.prog w = .ok (.tuple #[mget m z k, .bool (m k).isSome]) w ∧ (Instr.lookup t (.map (some g)) (ptv k) false).run Try.prog w = .ok (mget m z k) w := by
  obtain ⟨es, c, L, h1, h2, h3⟩ := h
  obtain ⟨r, hr, hf⟩ := run_findKey_pt k w es.toList L h2
  have hz : (zeroValue e).run Try.prog w = .ok z w := by
    have := hT.zero
    cases hi : (Try.prog).info? e with
    | none => rw [hi] at this; cases this
    | some i =>
      rw [hi] at this
      simp only [Option.map_some, Option.some.injEq] at this
      simp [zeroValue, typeInfo, hi, this]
  have hg : (getObj g).run Try.prog w = .ok (.map es c) w := by simp [getObj, Sem.run, h1]
  rcases hf with ⟨rfl, hl⟩ | ⟨i, v, rfl, hl, _, _⟩
  · rw [h3] at hl
    constructor <;> simp [Instr.lookup, run_underlying hT.und, hg, ck_pt, hr, hz, mget, hl]
  · rw [h3] at hl
    constructor <;> simp [Instr.lookup, run_underlying hT.und, hg, ck_pt, hr, mget, hl]
theorem lookup_set {k : Int} {v : Value} : ∀ {L : List (Int × Value)} {i : Nat} {u : Value}, L[i]? = some (k, u) → ∀ l, (L.set i (k, v)).lookup l = if l = k then (if (L.take i).lookup k = none then some v else (L.take i).lookup k) else L.lookup l
  | [], i, u, h, l => by simp at h
  | x :: L, 0, u, h, l => by
    simp only [List.getElem?_cons_zero, Option.some.injEq] at h
    subst h
    rw [List.set_cons_zero, List.lookup_cons, List.lookup_cons]
    by_cases e : l = k
    · subst e; simp
    · have hb : (l == k) = false := by simpa using e
      rw [hb, if_neg e]
  | (k1, v1) :: L, i + 1, u, h, l => by
    have ih := lookup_set (v := v) (L := L) (i := i) (u := u) (by simpa using h) l
    rw [List.set_cons_succ, List.lookup_cons, List.lookup_cons, List.take_succ_cons, List.lookup_cons, ih]
    by_cases e : l = k1
    · subst e
      simp only [BEq.rfl]
      by_cases e2 : l = k
      · subst e2; simp
      · rw [if_neg e2]
    · have hb : (l == k1) = false := by simpa using e
      rw [hb]
      by_cases e2 : l = k
      · subst e2
        rw [if_pos rfl, if_pos rfl, hb]
      · rw [if_neg e2, if_neg e2]
theorem lookup_snoc {k : Int} {v : Value} : ∀ {L : List (Int × Value)}, L.lookup k = none → ∀ l, (L ++ [(k, v)]).lookup l = if l = k then some v else L.lookup l
  | [], _, l => by
    rw [List.nil_append, List.lookup_cons]
    by_cases e : l = k
    · subst e; simp
    · have hb : (l == k) = false := by simpa using e
      rw [hb, if_neg e]
  | (k1, v1) :: L, h, l => by
    have hk : ¬ k = k1 := fun e => by subst e; simp at h
    have hb : (k == k1) = false := by simpa using hk
    rw [List.lookup_cons, hb] at h
    have ih := lookup_snoc (v := v) h l
    rw [List.cons_append, List.lookup_cons, List.lookup_cons, ih]
    by_cases e : l = k1
    · subst e
      have hne : ¬ l = k := fun e => hk e.symm
      simp [hne]
    · have hb2 : (l == k1) = false := by simpa using e
      rw [hb2]
theorem run_upd {t e : TypeId} {z : Value} (hT : MapT Try.prog t e z) {w : World} {g : Nat} {m : Int → Option Value} (h : MapAt w g m) (k : Int) (v : Value) :
    ∃ w', (Instr.mapUpdate t (.map (some g)) (ptv k) v).run Try.prog w = .ok () w' ∧ MapAt w' g (mput m k v) ∧ Keep (fun k => ¬ k = g) w w' := by
  obtain ⟨es, c, L, h1, h2, h3⟩ := h
  obtain ⟨r, hr, hf⟩ := run_findKey_pt k w es.toList L h2
  have hg : (getObj g).run Try.prog w = .ok (.map es c) w := by simp [getObj, Sem.run, h1]
  have hs : ∀ o, (setObj g o).run Try.prog w = .ok () { w with heap := w.heap.setIfInBounds g o } := fun o => by simp [setObj, Sem.run, h1]
  have hgl := lt_of_block h1
  have hk : ∀ o, Keep (fun k => ¬ k = g) w { w with heap := w.heap.setIfInBounds g o } := fun o => ⟨rfl, rfl, rfl, by simp, fun i hi hne => by simp [Ne.symm hne]⟩
  rcases hf with ⟨rfl, hl⟩ | ⟨i, u, rfl, hl, hi, ht⟩
  · refine ⟨{ w with heap := w.heap.setIfInBounds g (.map (es.push ⟨ptv k, v, c⟩) (c + 1)) }, ?_, ⟨es.push ⟨ptv k, v, c⟩, c + 1, L ++ [(k, v)], by simp [hgl], ?_, fun l => ?_⟩, hk _⟩
    · simp only [Instr.mapUpdate, Sem.run_bind, run_underlying hT.und, Result.andThen_ok, hg, ck_pt, hr, hs]
    · have h2' : es.toList.map (fun e => (e.key, e.val)) = L.map (fun x => (ptv x.1, x.2)) := h2
      simp only [EntL, Array.toList_push, List.map_append, h2', List.map_cons, List.map_nil]
    · rw [lookup_snoc hl, mput, h3]
  · have hlen : es.size = L.length := by have := congrArg List.length h2; simpa using this
    have hil : i < L.length := (List.getElem?_eq_some_iff.1 hi).1
    have hie : i < es.size := by omega
    have hkey : es[i].key = ptv k := by
      have h4 := congrArg (fun l => l[i]?) h2
      simp only [List.getElem?_map, hi, Array.getElem?_toList, Array.getElem?_eq_getElem hie, Option.map_some, Option.some.injEq, Prod.mk.injEq] at h4
      exact h4.1
    have hst : (Instr.keyThatStays (ptv k) (ptv k)).run Try.prog w = .ok (ptv k) w := by
      have : Instr.sameBits 10000 (ptv k) (ptv k) = true := by simp [Instr.sameBits]
      simp [Instr.keyThatStays, this]
    refine ⟨{ w with heap := w.heap.setIfInBounds g (.map (es.modify i fun e => { e with key := ptv k, val := v }) c) }, ?_, ⟨es.modify i fun e => { e with key := ptv k, val := v }, c, L.set i (k, v), by simp [hgl], ?_, fun l => ?_⟩, hk _⟩
    · simp only [Instr.mapUpdate, Sem.run_bind, run_underlying hT.und, Result.andThen_ok, hg, ck_pt, hr, Nat.zero_add, Array.getElem?_eq_getElem hie, Option.map_some, Option.getD_some, hkey, hst, hs]
    · unfold EntL
      apply List.ext_getElem?
      intro j
      have h4 := congrArg (fun l => l[j]?) h2
      simp only [List.getElem?_map, Array.getElem?_toList, Array.getElem?_modify, List.getElem?_set] at h4 ⊢
      by_cases e : i = j
      · subst e
        simp [hie, hil]
      · simp only [e, if_false]; exact h4
    · rw [lookup_set hi, ht, if_pos rfl, mput, h3]
section
variable {ops : Array Oper} {Q : Exit → Act → World → Prop} {a : Act} {w w0 : World} {M : Nat → Prop} {cs fx : List (Chunk w0 M)} {f : Chunk w0 M → List (Chunk w0 M)} {rest : List Oper} {d : Option Tmp} {tt t e : TypeId} {pos : String} {af : Array Edge} {gd : Option (Nat × Bool)} {x y z : Operand} {md : Region.Mode} {fuel : Nat} {listed : Array Bool} {late : List Nat} {g : Nat} {i : Int} {m : Int → Option Value} {v zv : Value}
theorem oK {c : Bool} (k : wpList Try.prog ops Q (⟨d, .lookup t x y c, tt, pos, af, gd⟩ :: rest) a w) : wpList Try.prog ops Q (⟨d, .lookup t x y c, tt, pos, af, gd⟩ :: rest) a w := k
theorem oU (k : wpList Try.prog ops Q (⟨d, .mapUpdate t x y z, tt, pos, af, gd⟩ :: rest) a w) : wpList Try.prog ops Q (⟨d, .mapUpdate t x y z, tt, pos, af, gd⟩ :: rest) a w := k
theorem St.mapAt (h : St w0 M cs w) [hp : PickM g cs m f] : MapAt w g m := (hp.eq ▸ h : St w0 M (f (mpc g m)) w).at_ hp.gap
theorem look_some [hT : MapT Try.prog t e zv] (hx' : oval a x = some (.map (some g))) (hy' : oval a y = some (.int .i64 i)) (hm : m i = some v) (h : MapAt w g m) : (execOp a.eval ⟨d, .lookup t x y true, tt, pos, af, gd⟩).run Try.prog w = .ok (.value (.tuple #[v, .bool true])) w := by
  have := (run_look hT h i).1
  rw [mget, hm] at this
  simp only [execOp, oval_eval hx', oval_eval hy', Sem.run_bind, this, Result.andThen_ok, Sem.run_pure, Option.getD_some, Option.isSome_some]
theorem look_none [hT : MapT Try.prog t e zv] (hx' : oval a x = some (.map (some g))) (hy' : oval a y = some (.int .i64 i)) (hm : m i = none) (h : MapAt w g m) : (execOp a.eval ⟨d, .lookup t x y true, tt, pos, af, gd⟩).run Try.prog w = .ok (.value (.tuple #[zv, .bool false])) w := by
  have := (run_look hT h i).1
  rw [mget, hm] at this
  simp only [execOp, oval_eval hx', oval_eval hy', Sem.run_bind, this, Result.andThen_ok, Sem.run_pure, Option.getD_none, Option.isSome_none]
theorem look_one [hT : MapT Try.prog t e zv] (hx' : oval a x = some (.map (some g))) (hy' : oval a y = some (.int .i64 i)) (h : MapAt w g m) : (execOp a.eval ⟨d, .lookup t x y false, tt, pos, af, gd⟩).run Try.prog w = .ok (.value (mget m zv i)) w := by
  have := (run_look hT h i).2
  simp only [execOp, oval_eval hx', oval_eval hy', Sem.run_bind, this, Result.andThen_ok, Sem.run_pure]
theorem sK1 (hS : St w0 M cs w) [hT : MapT Try.prog t e zv] (hw : Region.wanted ⟨d, .lookup t x y true, tt, pos, af, gd⟩ (yielded ops a.tmps) = true) (hx' : oval a x = some (.map (some g))) (hy' : oval a y = some (.int .i64 i)) [hp : PickM g cs m f] (k : wpList Try.prog ops Q rest (a.put d (.tuple #[v, .bool true])) w) (hm : m i = some v := by assumption) :
    wpList Try.prog ops Q (⟨d, .lookup t x y true, tt, pos, af, gd⟩ :: rest) a w := st_run hw (look_some hx' hy' hm hS.mapAt) k
theorem sK2 (hS : St w0 M cs w) [hT : MapT Try.prog t e zv] (hw : Region.wanted ⟨d, .lookup t x y true, tt, pos, af, gd⟩ (yielded ops a.tmps) = true) (hx' : oval a x = some (.map (some g))) (hy' : oval a y = some (.int .i64 i)) [hp : PickM g cs m f] (k : wpList Try.prog ops Q rest (a.put d (.tuple #[zv, .bool false])) w) (hm : m i = none := by assumption) :
    wpList Try.prog ops Q (⟨d, .lookup t x y true, tt, pos, af, gd⟩ :: rest) a w := st_run hw (look_none hx' hy' hm hS.mapAt) k
theorem sK3 (hS : St w0 M cs w) [hT : MapT Try.prog t e zv] (hw : Region.wanted ⟨d, .lookup t x y false, tt, pos, af, gd⟩ (yielded ops a.tmps) = true) (hx' : oval a x = some (.map (some g))) (hy' : oval a y = some (.int .i64 i)) [hp : PickM g cs m f] (k : wpList Try.prog ops Q rest (a.put d (mget m zv i)) w) :
    wpList Try.prog ops Q (⟨d, .lookup t x y false, tt, pos, af, gd⟩ :: rest) a w := st_run hw (look_one hx' hy' hS.mapAt) k
/-- a map is written -/
theorem sU1 (hS : St w0 M cs w) [hT : MapT Try.prog t e zv] (hw : Region.wanted ⟨d, .mapUpdate t x y z, tt, pos, af, gd⟩ (yielded ops a.tmps) = true) (hx' : oval a x = some (.map (some g))) (hy' : oval a y = some (.int .i64 i)) (hz' : oval a z = some v) [hp : PickM g cs m f] (k : ∀ w', St w0 M (f (mpc g (mput m i v))) w' → wpList Try.prog ops Q rest (a.put d undef) w') :
    wpList Try.prog ops Q (⟨d, .mapUpdate t x y z, tt, pos, af, gd⟩ :: rest) a w := by
  have hS' : St w0 M (f (mpc g m)) w := hp.eq ▸ hS
  obtain ⟨w', h1, h2, h3⟩ := run_upd hT (hS'.at_ hp.gap) i v
  refine st_skip hw (w' := w') (by simp only [execOp, oval_eval hx', oval_eval hy', oval_eval hz', Sem.run_bind, h1, Result.andThen_ok, Sem.run_pure]) (k w' (hS'.updG hp.gap h3 h2 (fun k e => .inl e)))
/-- a new map -/
theorem sW1 (hS : St w0 M cs w) (hw : Region.wanted ⟨d, .makeMap t none, tt, pos, af, gd⟩ (yielded ops a.tmps) = true) (k : ∀ g w', St w0 M (mpc g (fun _ => none) :: cs) w' → wpList Try.prog ops Q rest (a.put d (.map (some g))) w') :
    wpList Try.prog ops Q (⟨d, .makeMap t none, tt, pos, af, gd⟩ :: rest) a w :=
  st_run hw (w' := w.alloc (.map #[] 0)) (v := .map (some w.heap.size)) (by simp only [execOp, Option.map_none, Sem.run_bind, run_makeMap, Result.andThen_ok, Sem.run_pure]) (k w.heap.size _ (hS.add ((Ext.refl' w).alloc' _) ⟨#[], 0, [], heap_new w _, rfl, fun _ => rfl⟩ (fun k e => Nat.le_of_eq e.symm)))
theorem dK1 [hs : SubC fx cs] (hS : St w0 M cs w) (n : Nat) [hT : MapT Try.prog t e zv] (hi : ops[n]? = some ⟨d, .lookup t x y true, tt, pos, af, gd⟩) (hw : Region.wanted ⟨d, .lookup t x y true, tt, pos, af, gd⟩ (yielded ops a.tmps) = true) (hx' : oval a x = some (.map (some g))) (hy' : oval a y = some (.int .i64 i)) [hp : PickM g fx m f]
    (h : wpAnyL Try.prog md ops Q (SF w0 M fx) late fuel (listed.setIfInBounds n true) (a.put d (.tuple #[v, .bool true])) w) (hm : m i = some v := by assumption) (hn : Region.noSelect ops = true := by kernel_rfl) (hf : (Region.free md ops listed n && lateOk md ops late n) = true := by kernel_rfl) (hr : (Region.ready md ops listed).contains n = true := by kernel_rfl) (hQ : ∀ c a v w, Q (.panic c) (a.put d v) w → Q (.panic c) a w := by exact fun _ _ _ _ h => h) :
    wpAnyL Try.prog md ops Q (SF w0 M fx) late (fuel + 1) listed a w :=
  dr_take hS n hi hn hf hr (fun c a w => hQ c a _ w) hw (fun w hw' => look_some hx' hy' hm (hw'.ok (c := mpc g m) (by rw [hp.eq]; exact gap_mem hp.gap))) h
theorem dK2 [hs : SubC fx cs] (hS : St w0 M cs w) (n : Nat) [hT : MapT Try.prog t e zv] (hi : ops[n]? = some ⟨d, .lookup t x y true, tt, pos, af, gd⟩) (hw : Region.wanted ⟨d, .lookup t x y true, tt, pos, af, gd⟩ (yielded ops a.tmps) = true) (hx' : oval a x = some (.map (some g))) (hy' : oval a y = some (.int .i64 i)) [hp : PickM g fx m f]
    (h : wpAnyL Try.prog md ops Q (SF w0 M fx) late fuel (listed.setIfInBounds n true) (a.put d (.tuple #[zv, .bool false])) w) (hm : m i = none := by assumption) (hn : Region.noSelect ops = true := by kernel_rfl) (hf : (Region.free md ops listed n && lateOk md ops late n) = true := by kernel_rfl) (hr : (Region.ready md ops listed).contains n = true := by kernel_rfl) (hQ : ∀ c a v w, Q (.panic c) (a.put d v) w → Q (.panic c) a w := by exact fun _ _ _ _ h => h) :
    wpAnyL Try.prog md ops Q (SF w0 M fx) late (fuel + 1) listed a w :=
  dr_take hS n hi hn hf hr (fun c a w => hQ c a _ w) hw (fun w hw' => look_none hx' hy' hm (hw'.ok (c := mpc g m) (by rw [hp.eq]; exact gap_mem hp.gap))) h
theorem dK3 [hs : SubC fx cs] (hS : St w0 M cs w) (n : Nat) [hT : MapT Try.prog t e zv] (hi : ops[n]? = some ⟨d, .lookup t x y false, tt, pos, af, gd⟩) (hw : Region.wanted ⟨d, .lookup t x y false, tt, pos, af, gd⟩ (yielded ops a.tmps) = true) (hx' : oval a x = some (.map (some g))) (hy' : oval a y = some (.int .i64 i)) [hp : PickM g fx m f]
    (h : wpAnyL Try.prog md ops Q (SF w0 M fx) late fuel (listed.setIfInBounds n true) (a.put d (mget m zv i)) w) (hn : Region.noSelect ops = true := by kernel_rfl) (hf : (Region.free md ops listed n && lateOk md ops late n) = true := by kernel_rfl) (hr : (Region.ready md ops listed).contains n = true := by kernel_rfl) (hQ : ∀ c a v w, Q (.panic c) (a.put d v) w → Q (.panic c) a w := by exact fun _ _ _ _ h => h) :
    wpAnyL Try.prog md ops Q (SF w0 M fx) late (fuel + 1) listed a w :=
  dr_take hS n hi hn hf hr (fun c a w => hQ c a _ w) hw (fun w hw' => look_one hx' hy' (hw'.ok (c := mpc g m) (by rw [hp.eq]; exact gap_mem hp.gap))) h
end
instance : MapT Try.prog 70 27 (.agg #[.int .i64 0, .slice none 0 0]) := ⟨Try.underlying70, by kernel_rfl⟩
end Go.Proofs.Ytmjmdncdmmcmaaa
