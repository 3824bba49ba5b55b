/- Regions in their written order, operation by operation. No condition. -/
import Derived.Test.YtmjmdncdmmcmaaaArms
namespace Go.Proofs.Ytmjmdncdmmcmaaa
open Go.RowKit
set_option linter.unusedVariables false
set_option linter.unusedSectionVars false
section
variable {P : Program} {ops : Array Oper} {Q : Exit → Act → World → Prop} {a : Act} {w : World} {rest : List Oper} {d : Option Tmp} {tt ty : TypeId} {pos : String} {af : Array Edge} {gd : Option (Nat × Bool)} {x : Operand} {op : Op}
/-- a list of operations still to be run, as one thing that does not unfold -/
structure WL (P : Program) (ops : Array Oper) (Q : Exit → Act → World → Prop) (l : List Oper) (a : Act) (w : World) : Prop where
  h : wpList P ops Q l a w
theorem lR {id : Nat} {l : List Oper} (h : WL P l.toArray Q l a w) : (Code.region id l.toArray false).wp P Q a w := wp_region_lit h.h
theorem lQ (hw : Region.wanted ⟨d, op, tt, pos, af, gd⟩ (yielded ops a.tmps) = false) (k : WL P ops Q rest (a.put d undef) w) : WL P ops Q (⟨d, op, tt, pos, af, gd⟩ :: rest) a w := ⟨wpList_skip hw k.h⟩
theorem lP {v : Value} (hw : Region.wanted ⟨d, op, tt, pos, af, gd⟩ (yielded ops a.tmps) = true) (k : WL P ops Q rest (a.put d v) w) (hy : (execOp a.eval ⟨d, op, tt, pos, af, gd⟩).run P w = .ok (.value v) w := by first | (go_simp; done) | (go_simp; (try go_ints); rfl)) : WL P ops Q (⟨d, op, tt, pos, af, gd⟩ :: rest) a w := ⟨st_run hw hy k.h⟩
theorem lM {v : Value} (hw : Region.wanted ⟨d, .move x, tt, pos, af, gd⟩ (yielded ops a.tmps) = true) (hx : oval a x = some v) (k : WL P ops Q rest (a.put d v) w) : WL P ops Q (⟨d, .move x, tt, pos, af, gd⟩ :: rest) a w := ⟨st_run hw (by simp only [execOp, (oval_eval hx), Sem.run_bind, Result.andThen_ok, Sem.run_pure]) k.h⟩
theorem lA {v : Value} (hw : Region.wanted ⟨d, .assign x, tt, pos, af, gd⟩ (yielded ops a.tmps) = true) (hx : oval a x = some v) (k : WL P ops Q rest (a.put d v) w) : WL P ops Q (⟨d, .assign x, tt, pos, af, gd⟩ :: rest) a w := ⟨st_run hw (by simp only [execOp, (oval_eval hx), Sem.run_bind, Result.andThen_ok, Sem.run_pure]) k.h⟩
theorem lZ (k : Q .normal a w) : WL P ops Q [] a w := ⟨k⟩
end
end Go.Proofs.Ytmjmdncdmmcmaaa
