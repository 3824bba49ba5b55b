/- A region that draws its order, over the state of a call: what only reads is taken first, what writes goes in its order; calls. No condition. -/
import Derived.Test.YtmjmdncdmmcmaaaOps
import Derived.OrdersHeld
namespace Go.Proofs.Ytmjmdncdmmcmaaa
open Go.RowKit
set_option linter.unusedVariables false
set_option linter.unusedSectionVars false

class MemC {w0 : World} {M : Nat → Prop} (c : Chunk w0 M) (cs : List (Chunk w0 M)) : Prop where
  h : c ∈ cs
instance {w0 : World} {M : Nat → Prop} (c : Chunk w0 M) (r : List (Chunk w0 M)) : MemC c (c :: r) := ⟨by simp⟩
instance (priority := low) {w0 : World} {M : Nat → Prop} (c d : Chunk w0 M) (r : List (Chunk w0 M)) [h : MemC c r] : MemC c (d :: r) := ⟨by simp [h.h]⟩
/-- all of fix are among cs -/
class SubC {w0 : World} {M : Nat → Prop} (fx cs : List (Chunk w0 M)) : Prop where
  h : ∀ c ∈ fx, c ∈ cs
instance {w0 : World} {M : Nat → Prop} (cs : List (Chunk w0 M)) : SubC [] cs := ⟨by simp⟩
instance {w0 : World} {M : Nat → Prop} (c : Chunk w0 M) (fx cs : List (Chunk w0 M)) [h1 : MemC c cs] [h2 : SubC fx cs] : SubC (c :: fx) cs := ⟨by
  intro d hd
  rcases List.mem_cons.1 hd with rfl | hd
  · exact h1.h
  · exact h2.h d hd⟩
/-- the list without piece i -/
class DropAt {w0 : World} {M : Nat → Prop} (i : Nat) (cs : List (Chunk w0 M)) (ds : outParam (List (Chunk w0 M))) : Prop where
  t : True
instance {w0 : World} {M : Nat → Prop} (c : Chunk w0 M) (r : List (Chunk w0 M)) : DropAt 0 (c :: r) r := ⟨trivial⟩
instance {w0 : World} {M : Nat → Prop} (i : Nat) (c : Chunk w0 M) (r s : List (Chunk w0 M)) [h : DropAt i r s] : DropAt (i + 1) (c :: r) (c :: s) := ⟨trivial⟩
/-! results that lie in a variable -/
section
variable {P : Program} {a : Act} {w w0 : World} {M : Nat → Prop} {cs : List (Chunk w0 M)} {f : Chunk w0 M → List (Chunk w0 M)}
theorem getD_of {a : Act} {t : Tmp} {v : Value} (h : oval a (.tmp t) = some v) : a.tmps.getD t undef = v := oval_eval h
/-- the one result lies in block g -/
theorem st_retC {fn : Func} {R : Ending → World → Prop} {s : Tmp} {ty t : TypeId} {n g : Nat} {vs : List Value} (hS : St w0 M cs w) (hres : fn.results = #[.cell s ty]) (hd : a.defers = []) (hp : oval a (.tmp s) = some (.pointer (some ⟨g, 0, none⟩))) [hb : PickB g cs vs t f] [hT : TyN P ty n] (hl : vs.length = n)
    (hR : R (.returned (.agg vs.toArray)) w) : bodyPost P fn R .ret a w := by
  refine bodyPost_ret (v := .agg vs.toArray) ?_ hd hR
  have h1 := run_loadN (P := P) (w := w) (b := g) (o := 0) hT hl (fun i u hu => by rw [Nat.zero_add]; exact cell_of_heap ((hb.eq ▸ hS : St w0 M (f (blk g vs t)) w).at_ hb.gap : w.heap[g]? = _) (by simpa using hu))
  simp only [Instr.loadAt, Instr.sureAddr, Sem.run_bind, Sem.run_pure, Result.andThen_ok] at h1
  have hg : (a.tmps[s]?).getD undef = .pointer (some ⟨g, 0, none⟩) := by simpa using getD_of hp
  simp [results, hres, hg, h1, asAddr]
/-- two results: the first lies in block g, the second in a slot -/
theorem st_retCT {fn : Func} {R : Ending → World → Prop} {s s2 : Tmp} {ty t : TypeId} {n g : Nat} {vs : List Value} {v2 : Value} (hS : St w0 M cs w) (hres : fn.results = #[.cell s ty, .tmp s2]) (hd : a.defers = []) (hp : oval a (.tmp s) = some (.pointer (some ⟨g, 0, none⟩))) (hp2 : oval a (.tmp s2) = some v2) [hb : PickB g cs vs t f] [hT : TyN P ty n] (hl : vs.length = n)
    (hR : R (.returned (.tuple #[.agg vs.toArray, v2])) w) : bodyPost P fn R .ret a w := by
  refine bodyPost_ret (v := .tuple #[.agg vs.toArray, v2]) ?_ hd hR
  have h1 := run_loadN (P := P) (w := w) (b := g) (o := 0) hT hl (fun i u hu => by rw [Nat.zero_add]; exact cell_of_heap ((hb.eq ▸ hS : St w0 M (f (blk g vs t)) w).at_ hb.gap : w.heap[g]? = _) (by simpa using hu))
  simp only [Instr.loadAt, Instr.sureAddr, Sem.run_bind, Sem.run_pure, Result.andThen_ok] at h1
  have hg : (a.tmps[s]?).getD undef = .pointer (some ⟨g, 0, none⟩) := by simpa using getD_of hp
  have hg2 : (a.tmps[s2]?).getD undef = v2 := by simpa using getD_of hp2
  simp [results, hres, hg, hg2, h1, asAddr]
end
class TakeK {w0 : World} {M : Nat → Prop} (c : Chunk w0 M) (cs : List (Chunk w0 M)) (rs : outParam (List (Chunk w0 M))) : Prop where
  p : cs.Perm (c :: rs)
instance {w0 : World} {M : Nat → Prop} (c : Chunk w0 M) (r : List (Chunk w0 M)) : TakeK c (c :: r) r := ⟨List.Perm.refl _⟩
instance (priority := low) {w0 : World} {M : Nat → Prop} (c d : Chunk w0 M) (r s : List (Chunk w0 M)) [h : TakeK c r s] : TakeK c (d :: r) (d :: s) := ⟨(h.p.cons d).trans (List.Perm.swap c d s)⟩
/-- ds is what cs holds, in another order, or less -/
class PermC {w0 : World} {M : Nat → Prop} (ds cs : List (Chunk w0 M)) : Prop where
  p : ∃ rs, cs.Perm (ds ++ rs)
instance {w0 : World} {M : Nat → Prop} (cs : List (Chunk w0 M)) : PermC [] cs := ⟨cs, List.Perm.refl _⟩
instance {w0 : World} {M : Nat → Prop} (c : Chunk w0 M) (ds cs rs : List (Chunk w0 M)) [h1 : TakeK c cs rs] [h2 : PermC ds rs] : PermC (c :: ds) cs := ⟨by
  obtain ⟨qs, h3⟩ := h2.p
  exact ⟨qs, h1.p.trans (h3.cons c)⟩⟩
theorem St.re {w0 w : World} {M : Nat → Prop} {ds cs : List (Chunk w0 M)} (h : St w0 M cs w) [hp : PermC ds cs] : St w0 M ds w := by
  obtain ⟨rs, h1⟩ := hp.p
  exact (h.perm h1).sub (List.sublist_append_left _ _)
/-- Whatever order is picked from here on; S holds behind every operation but the late ones. -/
def wpAnyL (P : Program) (md : Region.Mode) (ops : Array Oper) (Q : Exit → Act → World → Prop) (S : World → Prop) (late : List Nat) : Nat → Array Bool → Act → World → Prop
  | 0, listed, a, w => Region.ready md ops listed = [] ∧ Q .normal a w
  | fuel + 1, listed, a, w =>
    (Region.ready md ops listed = [] → Q .normal a w) ∧
    ∀ i ∈ Region.ready md ops listed, wpOp P ops Q i (fun a' w' => (late.contains i = true ∨ S w') ∧ wpAnyL P md ops Q S late fuel (listed.setIfInBounds i true) a' w') a w
/-- every late operation waits for number i -/
def lateOk (md : Region.Mode) (ops : Array Oper) (late : List Nat) (i : Nat) : Bool := late.all fun j => match ops[j]? with | some o => o.after.any (fun e => Region.binds md e && e.on == i) | none => false
section
variable {P : Program} {ops : Array Oper} {Q : Exit → Act → World → Prop} {md : Region.Mode} {S : World → Prop} {late : List Nat}
theorem wpAny_of_late : ∀ (fuel : Nat) (listed : Array Bool) (a : Act) (w : World), wpAnyL P md ops Q S late fuel listed a w → wpAny P md ops Q fuel listed a w
  | 0, _, _, _, h => h
  | fuel + 1, _, _, _, h => ⟨h.1, fun i hi => wpOp_mono (fun a' w' h' => wpAny_of_late fuel _ a' w' h'.2) (h.2 i hi)⟩
theorem wpAnyL_first {i : Nat} {oi : Oper} {v : Value} (hi : ops[i]? = some oi) (hsel : ∀ (j : Nat) (o : Oper) cs b, ops[j]? = some o → o.op ≠ .select cs b)
    (hQ : ∀ c a w, Q (.panic c) (a.put oi.dst v) w → Q (.panic c) a w) (hlate : lateOk md ops late i = true) :
    ∀ (fuel : Nat) (listed : Array Bool) (a : Act) (w : World),
      (∀ j oj, ops[j]? = some oj → j ≠ i → listed.getD j true = false → (∀ e ∈ oj.after, Region.binds md e = true → e.on ≠ i) → oi.apart ops oj = true) →
      i ∈ Region.ready md ops listed → YieldsIf P ops S oi v a → S w →
      wpAnyL P md ops Q S late fuel (listed.setIfInBounds i true) (a.put oi.dst v) w → wpAnyL P md ops Q S late (fuel + 1) listed a w := by
  intro fuel
  induction fuel with
  | zero =>
    intro listed a w _ hr hy hS H
    refine ⟨fun h => (by rw [h] at hr; cases hr), fun j hj => ?_⟩
    by_cases hji : j = i
    · subst hji; exact hy.wpOp hi hS ⟨.inr hS, H⟩
    · have := ready_mono hj hji
      rw [H.1] at this
      cases this
  | succ fuel ih =>
    intro listed a w hfree hr hy hS H
    refine ⟨fun h => (by rw [h] at hr; cases hr), fun j hj => ?_⟩
    by_cases hji : j = i
    · subst hji; exact hy.wpOp hi hS ⟨.inr hS, H⟩
    · have h1 := H.2 j (ready_mono hj hji)
      obtain ⟨hjun, oj, hoj, hall⟩ := mem_ready.1 hj
      have hnot : ∀ e ∈ oj.after, Region.binds md e = true → e.on ≠ i := fun e he hb heq => by
        have h1 := hall e he hb
        have h0 := (mem_ready.1 hr).1
        rw [heq] at h1
        rcases Nat.lt_or_ge i listed.size with h' | h'
        · simp [h'] at h0 h1; rw [h0] at h1; cases h1
        · simp [Array.getElem?_eq_none h'] at h1
      have hnl : ¬ late.contains j = true := fun hl => by
        have h2 := List.all_eq_true.1 hlate j (by simpa using hl)
        rw [hoj] at h2
        simp only [Array.any_eq_true, Bool.and_eq_true, beq_iff_eq] at h2
        obtain ⟨q, hq, hb, he⟩ := h2
        exact hnot _ (Array.getElem_mem hq) hb he
      have h2 := wpOp_putIf hoj (hfree j oj hoj hji hjun hnot) (fun cs b => hsel i oi cs b hi) (fun cs b => hsel j oj cs b hoj) hQ hy h1
      have hfree' : ∀ k ok, ops[k]? = some ok → k ≠ i → (listed.setIfInBounds j true).getD k true = false →
          (∀ e ∈ ok.after, Region.binds md e = true → e.on ≠ i) → oi.apart ops ok = true := fun k ok hk hki hun hno => by
        refine hfree k ok hk hki ?_ hno
        by_cases hjk : j = k
        · subst hjk; exact hjun
        · rw [getD_set_ne true hjk] at hun; exact hun
      refine wpOp_mono (fun a' w' h3 => ?_) h2
      have hS' := h3.2.1.resolve_left hnl
      refine ⟨.inr hS', ih (listed.setIfInBounds j true) a' w' hfree' (ready_mono hr (Ne.symm hji)) h3.1 hS' ?_⟩
      rw [Array.setIfInBounds_comm _ _ hji]
      exact h3.2.2
end
/-- the pieces fx are as they were -/
def SF (w0 : World) (M : Nat → Prop) (fx : List (Chunk w0 M)) (w : World) : Prop := ∃ cs, St w0 M cs w ∧ ∀ c ∈ fx, c ∈ cs
section
variable {P : Program} {ops : Array Oper} {Q : Exit → Act → World → Prop} {a : Act} {w w0 : World} {M : Nat → Prop} {cs fx : List (Chunk w0 M)} {f : Chunk w0 M → List (Chunk w0 M)} {md : Region.Mode} {fuel : Nat} {listed : Array Bool} {late : List Nat}
theorem SF.ok {c : Chunk w0 M} (h : SF w0 M fx w) (hc : c ∈ fx) : c.ok w := let ⟨_, h1, h2⟩ := h; h1.all c (h2 c hc)
theorem SF.old (h : SF w0 M fx w) {p : Addr} {u : Value} (hc : w0.cell? p = some u) (hm : ¬ M p.block) : w.cell? p = some u := let ⟨_, h1, _⟩ := h; h1.oldCell hc hm
theorem gap_mem {c : Chunk w0 M} (hf : Gap f) : c ∈ f c := by
  obtain ⟨l, r, e⟩ := hf.ex
  rw [e]; simp

theorem dr_start {id : Nat} (late : List Nat) (fx : List (Chunk w0 M)) (hS : St w0 M cs w) (hm : P.follows .mixedOrders = true) (h : ∀ w, St w0 M cs w → wpAnyL P .any ops Q (SF w0 M fx) late ops.size (Array.replicate ops.size false) a w) : (Code.region id ops true).wp P Q a w :=
  wp_region_any hm (wpAny_of_late _ _ _ _ (h _ (hS.drew : St w0 M cs w.drew)))
theorem dr_start0 {id n : Nat} (late : List Nat) (hS : St w0 M cs w) (hm : P.follows .mixedOrders = true) (hn : ops.size = n) (h : ∀ w, St w0 M cs w → wpAnyL P .any ops Q (SF w0 M cs) late n (Array.replicate n false) a w) : (Code.region id ops true).wp P Q a w := by
  subst hn; exact dr_start late cs hS hm h
theorem dr_start1 {id n : Nat} (late : List Nat) (i : Nat) (hS : St w0 M cs w) [hd : DropAt i cs fx] (hm : P.follows .mixedOrders = true) (hn : ops.size = n) (h : ∀ w, St w0 M cs w → wpAnyL P .any ops Q (SF w0 M fx) late n (Array.replicate n false) a w) : (Code.region id ops true).wp P Q a w := by
  subst hn; exact dr_start late fx hS hm h
theorem dr_start2 {id n : Nat} (late : List Nat) (i j : Nat) {gx : List (Chunk w0 M)} (hS : St w0 M cs w) [hd : DropAt i cs gx] [hd' : DropAt j gx fx] (hm : P.follows .mixedOrders = true) (hn : ops.size = n) (h : ∀ w, St w0 M cs w → wpAnyL P .any ops Q (SF w0 M fx) late n (Array.replicate n false) a w) : (Code.region id ops true).wp P Q a w := by
  subst hn; exact dr_start late fx hS hm h
theorem dr_done (hr : Region.ready md ops listed = []) (h : Q .normal a w) : wpAnyL P md ops Q (SF w0 M fx) late fuel listed a w := by
  cases fuel with
  | zero => exact ⟨hr, h⟩
  | succ n => exact ⟨fun _ => h, by rw [hr]; simp⟩

/-! taken first -/
section
variable {dst : Option Tmp} {op : Op} {tt ty t e : TypeId} {pos : String} {af : Array Edge} {gd : Option (Nat × Bool)} {x y : Operand}
theorem dr_take [hs : SubC fx cs] (hS : St w0 M cs w) (i : Nat) {v : Value} (hi : ops[i]? = some ⟨dst, op, tt, pos, af, gd⟩) (hn : Region.noSelect ops = true) (hf : (Region.free md ops listed i && lateOk md ops late i) = true) (hr : (Region.ready md ops listed).contains i = true)
    (hQ : ∀ c a w, Q (.panic c) (a.put dst v) w → Q (.panic c) a w) (hw : Region.wanted ⟨dst, op, tt, pos, af, gd⟩ (yielded ops a.tmps) = true) (hy : ∀ w, SF w0 M fx w → (execOp a.eval ⟨dst, op, tt, pos, af, gd⟩).run P w = .ok (.value v) w)
    (h : wpAnyL P md ops Q (SF w0 M fx) late fuel (listed.setIfInBounds i true) (a.put dst v) w) : wpAnyL P md ops Q (SF w0 M fx) late (fuel + 1) listed a w :=
  wpAnyL_first hi (Region.noSelect_spec hn) hQ (Bool.and_eq_true_iff.1 hf).2 fuel listed a w (Region.free_spec hi (Bool.and_eq_true_iff.1 hf).1) (by simpa using hr) (.inl ⟨hw, hy⟩) ⟨cs, hS, hs.h⟩ h
theorem dr_pass [hs : SubC fx cs] (hS : St w0 M cs w) (i : Nat) (hi : ops[i]? = some ⟨dst, op, tt, pos, af, gd⟩) (hn : Region.noSelect ops = true) (hf : (Region.free md ops listed i && lateOk md ops late i) = true) (hr : (Region.ready md ops listed).contains i = true)
    (hQ : ∀ c a w, Q (.panic c) (a.put dst undef) w → Q (.panic c) a w) (hw : Region.wanted ⟨dst, op, tt, pos, af, gd⟩ (yielded ops a.tmps) = false)
    (h : wpAnyL P md ops Q (SF w0 M fx) late fuel (listed.setIfInBounds i true) (a.put dst undef) w) : wpAnyL P md ops Q (SF w0 M fx) late (fuel + 1) listed a w :=
  wpAnyL_first hi (Region.noSelect_spec hn) hQ (Bool.and_eq_true_iff.1 hf).2 fuel listed a w (Region.free_spec hi (Bool.and_eq_true_iff.1 hf).1) (by simpa using hr) (.inr ⟨hw, rfl⟩) ⟨cs, hS, hs.h⟩ h
theorem dr_pure [hs : SubC fx cs] (hS : St w0 M cs w) (i : Nat) {v : Value} (hi : ops[i]? = some ⟨dst, op, tt, pos, af, gd⟩) (hn : Region.noSelect ops = true) (hf : (Region.free md ops listed i && lateOk md ops late i) = true) (hr : (Region.ready md ops listed).contains i = true)
    (hQ : ∀ c a v w, Q (.panic c) (a.put dst v) w → Q (.panic c) a w) (hw : Region.wanted ⟨dst, op, tt, pos, af, gd⟩ (yielded ops a.tmps) = true) (hy : ∀ w, (execOp a.eval ⟨dst, op, tt, pos, af, gd⟩).run P w = .ok (.value v) w)
    (h : wpAnyL P md ops Q (SF w0 M fx) late fuel (listed.setIfInBounds i true) (a.put dst v) w) : wpAnyL P md ops Q (SF w0 M fx) late (fuel + 1) listed a w :=
  dr_take hS i hi hn hf hr (fun c a w => hQ c a v w) hw (fun w _ => hy w) h
theorem dr_move [hs : SubC fx cs] (hS : St w0 M cs w) (i : Nat) {v : Value} (hi : ops[i]? = some ⟨dst, .move x, tt, pos, af, gd⟩) (hn : Region.noSelect ops = true) (hf : (Region.free md ops listed i && lateOk md ops late i) = true) (hr : (Region.ready md ops listed).contains i = true)
    (hQ : ∀ c a v w, Q (.panic c) (a.put dst v) w → Q (.panic c) a w) (hw : Region.wanted ⟨dst, .move x, tt, pos, af, gd⟩ (yielded ops a.tmps) = true) (hx : oval a x = some v)
    (h : wpAnyL P md ops Q (SF w0 M fx) late fuel (listed.setIfInBounds i true) (a.put dst v) w) : wpAnyL P md ops Q (SF w0 M fx) late (fuel + 1) listed a w :=
  dr_pure hS i hi hn hf hr hQ hw (fun w => by simp [execOp, oval_eval hx]) h
theorem dr_assign [hs : SubC fx cs] (hS : St w0 M cs w) (i : Nat) {v : Value} (hi : ops[i]? = some ⟨dst, .assign x, tt, pos, af, gd⟩) (hn : Region.noSelect ops = true) (hf : (Region.free md ops listed i && lateOk md ops late i) = true) (hr : (Region.ready md ops listed).contains i = true)
    (hQ : ∀ c a v w, Q (.panic c) (a.put dst v) w → Q (.panic c) a w) (hw : Region.wanted ⟨dst, .assign x, tt, pos, af, gd⟩ (yielded ops a.tmps) = true) (hx : oval a x = some v)
    (h : wpAnyL P md ops Q (SF w0 M fx) late fuel (listed.setIfInBounds i true) (a.put dst v) w) : wpAnyL P md ops Q (SF w0 M fx) late (fuel + 1) listed a w :=
  dr_pure hS i hi hn hf hr hQ hw (fun w => by simp [execOp, oval_eval hx]) h
theorem dr_load1 (h1 : Ty1 P ty) [hs : SubC fx cs] (hS : St w0 M cs w) (i : Nat) (hi : ops[i]? = some ⟨dst, .load ty x, tt, pos, af, gd⟩) (hn : Region.noSelect ops = true) (hf : (Region.free md ops listed i && lateOk md ops late i) = true) (hr : (Region.ready md ops listed).contains i = true)
    (hQ : ∀ c a v w, Q (.panic c) (a.put dst v) w → Q (.panic c) a w) (hw : Region.wanted ⟨dst, .load ty x, tt, pos, af, gd⟩ (yielded ops a.tmps) = true) {b j : Nat} (hx' : oval a x = some (.pointer (some ⟨b, j, none⟩))) {v : Value} (hc : ∀ w, SF w0 M fx w → w.cell? ⟨b, j, none⟩ = some v)
    (h : wpAnyL P md ops Q (SF w0 M fx) late fuel (listed.setIfInBounds i true) (a.put dst v) w) : wpAnyL P md ops Q (SF w0 M fx) late (fuel + 1) listed a w :=
  dr_take hS i hi hn hf hr (fun c a w => hQ c a v w) hw (fun w hw' => by simp only [execOp, oval_eval hx', Sem.run_bind, run_load1 h1 (hc w hw'), Result.andThen_ok, Sem.run_pure]) h
theorem dr_loadN {n : Nat} (h1 : TyN P ty n) [hs : SubC fx cs] (hS : St w0 M cs w) (i : Nat) (hi : ops[i]? = some ⟨dst, .load ty x, tt, pos, af, gd⟩) (hn : Region.noSelect ops = true) (hf : (Region.free md ops listed i && lateOk md ops late i) = true) (hr : (Region.ready md ops listed).contains i = true)
    (hQ : ∀ c a v w, Q (.panic c) (a.put dst v) w → Q (.panic c) a w) (hw : Region.wanted ⟨dst, .load ty x, tt, pos, af, gd⟩ (yielded ops a.tmps) = true) {b j : Nat} (hx' : oval a x = some (.pointer (some ⟨b, j, none⟩))) {us : List Value} (hl : us.length = n) (hc : ∀ w, SF w0 M fx w → Cells w b j us)
    (h : wpAnyL P md ops Q (SF w0 M fx) late fuel (listed.setIfInBounds i true) (a.put dst (.agg us.toArray)) w) : wpAnyL P md ops Q (SF w0 M fx) late (fuel + 1) listed a w :=
  dr_take hS i hi hn hf hr (fun c a w => hQ c a _ w) hw (fun w hw' => by simp only [execOp, oval_eval hx', Sem.run_bind, run_loadN h1 hl (hc w hw'), Result.andThen_ok, Sem.run_pure]) h
theorem dr_ld [hs : SubC fx cs] (hS : St w0 M cs w) (i : Nat) (hi : ops[i]? = some ⟨dst, .load ty x, tt, pos, af, gd⟩) (hn : Region.noSelect ops = true) (hf : (Region.free md ops listed i && lateOk md ops late i) = true) (hr : (Region.ready md ops listed).contains i = true)
    (hQ : ∀ c a v w, Q (.panic c) (a.put dst v) w → Q (.panic c) a w) (hw : Region.wanted ⟨dst, .load ty x, tt, pos, af, gd⟩ (yielded ops a.tmps) = true) [h1 : Ty1 P ty] {g j : Nat} (hx' : oval a x = some (.pointer (some ⟨g, j, none⟩))) {vs : List Value} [hp : PickB g fx vs t f] {v : Value} (hj : vs[j]? = some v)
    (h : wpAnyL P md ops Q (SF w0 M fx) late fuel (listed.setIfInBounds i true) (a.put dst v) w) : wpAnyL P md ops Q (SF w0 M fx) late (fuel + 1) listed a w :=
  dr_load1 h1 hS i hi hn hf hr hQ hw hx' (fun w hw' => cell_of_heap (hw'.ok (c := blk g vs t) (by rw [hp.eq]; exact gap_mem hp.gap) : w.heap[g]? = _) (by simpa using hj)) h
theorem dr_lds {n : Nat} [hs : SubC fx cs] (hS : St w0 M cs w) (i : Nat) (hi : ops[i]? = some ⟨dst, .load ty x, tt, pos, af, gd⟩) (hn : Region.noSelect ops = true) (hf : (Region.free md ops listed i && lateOk md ops late i) = true) (hr : (Region.ready md ops listed).contains i = true)
    (hQ : ∀ c a v w, Q (.panic c) (a.put dst v) w → Q (.panic c) a w) (hw : Region.wanted ⟨dst, .load ty x, tt, pos, af, gd⟩ (yielded ops a.tmps) = true) [h1 : TyN P ty n] {g : Nat} (hx' : oval a x = some (.pointer (some ⟨g, 0, none⟩))) {vs : List Value} [hp : PickB g fx vs t f] (hl : vs.length = n)
    (h : wpAnyL P md ops Q (SF w0 M fx) late fuel (listed.setIfInBounds i true) (a.put dst (.agg vs.toArray)) w) : wpAnyL P md ops Q (SF w0 M fx) late (fuel + 1) listed a w :=
  dr_loadN h1 hS i hi hn hf hr hQ hw hx' hl (fun w hw' k u hu => by rw [Nat.zero_add]; exact cell_of_heap (hw'.ok (c := blk g vs t) (by rw [hp.eq]; exact gap_mem hp.gap) : w.heap[g]? = _) (by simpa using hu)) h
theorem dr_ldr [hs : SubC fx cs] (hS : St w0 M cs w) (i : Nat) (hi : ops[i]? = some ⟨dst, .load ty x, tt, pos, af, gd⟩) (hn : Region.noSelect ops = true) (hf : (Region.free md ops listed i && lateOk md ops late i) = true) (hr : (Region.ready md ops listed).contains i = true)
    (hQ : ∀ c a v w, Q (.panic c) (a.put dst v) w → Q (.panic c) a w) (hw : Region.wanted ⟨dst, .load ty x, tt, pos, af, gd⟩ (yielded ops a.tmps) = true) [h1 : Ty1 P ty] {g j : Nat} (hx' : oval a x = some (.pointer (some ⟨g, j, none⟩))) {vs : List Value} {sz n m cp : Nat} [hp : PickG g fx e sz n m cp vs f] {v : Value} (hj : vs[j]? = some v)
    (h : wpAnyL P md ops Q (SF w0 M fx) late fuel (listed.setIfInBounds i true) (a.put dst v) w) : wpAnyL P md ops Q (SF w0 M fx) late (fuel + 1) listed a w := by
  refine dr_load1 h1 hS i hi hn hf hr hQ hw hx' (fun w hw' => ?_) h
  have ho : w.ownsRow 0 e sz (.slice (some ⟨g, 0, none⟩) m cp) n vs := hw'.ok (c := row (.slice (some ⟨g, 0, none⟩) m cp) e sz n vs) (by rw [hp.eq]; exact gap_mem hp.gap)
  have h2 := ho.cells (g := g) rfl j v hj
  rw [add_mk, Nat.zero_add] at h2
  exact h2
theorem dr_ldo [hs : SubC fx cs] (hS : St w0 M cs w) (i : Nat) (hi : ops[i]? = some ⟨dst, .load ty x, tt, pos, af, gd⟩) (hn : Region.noSelect ops = true) (hf : (Region.free md ops listed i && lateOk md ops late i) = true) (hr : (Region.ready md ops listed).contains i = true)
    (hQ : ∀ c a v w, Q (.panic c) (a.put dst v) w → Q (.panic c) a w) (hw : Region.wanted ⟨dst, .load ty x, tt, pos, af, gd⟩ (yielded ops a.tmps) = true) [h1 : Ty1 P ty] {b j : Nat} (hx' : oval a x = some (.pointer (some ⟨b, j, none⟩))) {v : Value} (hc : w0.cell? ⟨b, j, none⟩ = some v) (hm : ¬ M b)
    (h : wpAnyL P md ops Q (SF w0 M fx) late fuel (listed.setIfInBounds i true) (a.put dst v) w) : wpAnyL P md ops Q (SF w0 M fx) late (fuel + 1) listed a w :=
  dr_load1 h1 hS i hi hn hf hr hQ hw hx' (fun w hw' => hw'.old hc hm) h
theorem dr_ldos {n : Nat} [hs : SubC fx cs] (hS : St w0 M cs w) (i : Nat) (hi : ops[i]? = some ⟨dst, .load ty x, tt, pos, af, gd⟩) (hn : Region.noSelect ops = true) (hf : (Region.free md ops listed i && lateOk md ops late i) = true) (hr : (Region.ready md ops listed).contains i = true)
    (hQ : ∀ c a v w, Q (.panic c) (a.put dst v) w → Q (.panic c) a w) (hw : Region.wanted ⟨dst, .load ty x, tt, pos, af, gd⟩ (yielded ops a.tmps) = true) [h1 : TyN P ty n] {b j : Nat} (hx' : oval a x = some (.pointer (some ⟨b, j, none⟩))) {us : List Value} (hc : Cells w0 b j us) (hl : us.length = n) (hm : ¬ M b)
    (h : wpAnyL P md ops Q (SF w0 M fx) late fuel (listed.setIfInBounds i true) (a.put dst (.agg us.toArray)) w) : wpAnyL P md ops Q (SF w0 M fx) late (fuel + 1) listed a w :=
  dr_loadN h1 hS i hi hn hf hr hQ hw hx' hl (fun w hw' k u hu => hw'.old (hc k u hu) hm) h
end

/-! carried out -/
/-- the post behind one operation of a region -/
def DQ (Q : Exit → Act → World → Prop) (K : Act → World → Prop) : Exit → Act → World → Prop
  | .normal, a, w => K a w
  | e, a, w => Q e a w
theorem wpOp_of_list {i : Nat} {o : Oper} {K : Act → World → Prop} (ho : ops[i]? = some o) (h : wpList P ops (DQ Q K) [o] a w) : wpOp P ops Q i K a w := by
  unfold wpOp
  simp only [ho]
  unfold wpList at h
  split
  · rename_i hw
    rw [if_pos hw] at h
    rcases h with h | ⟨h1, a', w', h2⟩
    · refine .inl ?_
      unfold Oper.wp at *
      generalize (execOp a.eval o).run P w = r at *
      cases r with
      | ok n w' =>
        cases n <;> simp only [Oper.upon] at h ⊢ <;>
          first
            | exact h
            | exact Calls.mono h (fun e w'' he => by cases e <;> first | exact he | (obtain ⟨a', w', h2⟩ := he; exact ⟨a', w', h2⟩))
            | exact Rows.mono h (fun _ _ he => he)
      | halt x w' => cases x <;> simp only [Oper.upon] at h ⊢ <;> exact h
    · exact .inr ⟨h1, a', w', h2⟩
  · rename_i hw
    rw [if_neg hw] at h
    exact h
theorem dr_one (i : Nat) {o : Oper} (hr : Region.ready md ops listed = [i]) (ho : ops[i]? = some o)
    (h : wpList P ops (DQ Q (fun a' w' => (late.contains i = true ∨ SF w0 M fx w') ∧ wpAnyL P md ops Q (SF w0 M fx) late fuel (listed.setIfInBounds i true) a' w')) [o] a w) : wpAnyL P md ops Q (SF w0 M fx) late (fuel + 1) listed a w :=
  ⟨fun h0 => absurd (hr.symm.trans h0) (by simp), fun j hj => by rw [hr] at hj; rw [List.mem_singleton.1 hj]; exact wpOp_of_list ho h⟩
theorem dr_two (i j : Nat) {o o' : Oper} (hr : Region.ready md ops listed = [i, j]) (ho : ops[i]? = some o) (ho' : ops[j]? = some o')
    (h : wpList P ops (DQ Q (fun a' w' => (late.contains i = true ∨ SF w0 M fx w') ∧ wpAnyL P md ops Q (SF w0 M fx) late fuel (listed.setIfInBounds i true) a' w')) [o] a w)
    (h' : wpList P ops (DQ Q (fun a' w' => (late.contains j = true ∨ SF w0 M fx w') ∧ wpAnyL P md ops Q (SF w0 M fx) late fuel (listed.setIfInBounds j true) a' w')) [o'] a w) : wpAnyL P md ops Q (SF w0 M fx) late (fuel + 1) listed a w :=
  ⟨fun h0 => absurd (hr.symm.trans h0) (by simp), fun k hk => by
    rw [hr] at hk
    rcases List.mem_cons.1 hk with rfl | hk
    · exact wpOp_of_list ho h
    · rw [List.mem_singleton.1 hk]; exact wpOp_of_list ho' h'⟩
theorem dr_end {i : Nat} [hs : SubC fx cs] (hS : St w0 M cs w) (h : wpAnyL P md ops Q (SF w0 M fx) late fuel listed a w) : wpList P ops (DQ Q (fun a' w' => (late.contains i = true ∨ SF w0 M fx w') ∧ wpAnyL P md ops Q (SF w0 M fx) late fuel listed a' w')) [] a w :=
  wpList_nil (show (_ ∨ SF w0 M fx w) ∧ _ from ⟨.inr ⟨cs, hS, hs.h⟩, h⟩)
theorem dr_late {i : Nat} (hl : late.contains i = true) (h : wpAnyL P md ops Q (SF w0 M fx) late fuel listed a w) : wpList P ops (DQ Q (fun a' w' => (late.contains i = true ∨ SF w0 M fx w') ∧ wpAnyL P md ops Q (SF w0 M fx) late fuel listed a' w')) [] a w :=
  wpList_nil (show (_ ∨ SF w0 M fx w) ∧ _ from ⟨.inl hl, h⟩)

/-! a call -/
def callable (P : Program) (f : FuncId) : Bool := match P.funcs[f]? with | some fn => !(fn.name == "runtime.NumGoroutine") && !fn.body.isNone | none => false
def ovals (a : Act) : List Operand → Option (List Value)
  | [] => some []
  | x :: xs => match oval a x, ovals a xs with | some v, some vs => some (v :: vs) | _, _ => none
theorem ovals_eval : ∀ {xs : List Operand} {vs : List Value}, ovals a xs = some vs → xs.map a.eval = vs
  | [], vs, h => by injection h
  | x :: xs, vs, h => by
    unfold ovals at h
    split at h
    · rename_i v us h1 h2
      injection h with h
      rw [List.map_cons, oval_eval h1, ovals_eval h2, h]
    · cases h
theorem st_call {fn : FuncId} {xs : List Operand} {vs : List Value} {ats : Array TypeId} {dst : Option Tmp} {tt : TypeId} {pos : String} {af : Array Edge} {gd : Option (Nat × Bool)} {rest : List Oper} (hw : Region.wanted ⟨dst, .call { callee := .value (.func fn), args := xs.toArray, argTypes := ats }, tt, pos, af, gd⟩ (yielded ops a.tmps) = true)
    (hf : callable P fn = true) (hv : ovals a xs = some vs)
    (h : Calls P fn vs.toArray w fun | .returned v, w'' => wpList P ops Q rest (a.put dst v) w'' | .panicked chain, w'' => Q (.panic chain) a w'' | .outgrown, _ => LetsOut Q) :
    wpList P ops Q (⟨dst, .call { callee := .value (.func fn), args := xs.toArray, argTypes := ats }, tt, pos, af, gd⟩ :: rest) a w := by
  unfold wpList
  rw [if_pos hw]
  refine .inl ?_
  unfold Oper.wp
  have hrun : (execOp a.eval ⟨dst, .call { callee := .value (.func fn), args := xs.toArray, argTypes := ats }, tt, pos, af, gd⟩).run P w = .ok (.enter fn vs.toArray) w := by
    unfold callable at hf
    cases hfn : P.funcs[fn]? with
    | none => rw [hfn] at hf; cases hf
    | some g =>
      rw [hfn] at hf
      simp only [Bool.and_eq_true, Bool.not_eq_true'] at hf
      have he : a.eval (.func fn) = .func (.func fn) #[] #[] := rfl
      have h1 : ¬ g.name = "runtime.NumGoroutine" := by simpa using hf.1
      have h2 : ¬ g.body = none := by intro h; rw [h] at hf; cases hf.2
      simp [execOp, resolve, he, Deferred.ofValue, invoke, callFunc, hfn, h1, h2, ovals_eval hv]
  rw [hrun]
  exact h
end
end Go.Proofs.Ytmjmdncdmmcmaaa
