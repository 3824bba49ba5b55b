/- rollbacknetref16.Same of two equal good patterns. Conditions: they lie in memory. -/
import Derived.Test.YtmjmdncdmmcmaaaTwR
import Derived.Test.YtmjmdncdmmcmaaaRChk
namespace Go.Proofs.Ytmjmdncdmmcmaaa
open Go.RowKit Tph
set_option linter.unusedVariables false

theorem good_rows {p : Pat} (hg : Good p) : ∀ l ∈ p.ck, l.length ≤ 1000 := fun l hl => by
  obtain ⟨q, hq, rfl⟩ := List.getElem_of_mem hl
  have hq2 : q < p.len.length := by rw [← hg.ckl]; exact hq
  have h1 := row_short (hg.row q hq2) (hg.hi q hq2)
  have h2 : rowOf p.ck q = p.ck[q] := rowOf_eq hq
  rw [h2] at h1
  omega
theorem rsame_good {S T : Nat → Prop} {A1 A2 A3 B1 B2 B3 : Option Addr} {c1 c2 c3 d1 d2 d3 : Nat} {p : Pat} {w0 : World} (hp : PatAt S w0 ⟨A1, c1, A2, c2, A3, c3⟩ p) (hq : PatAt T w0 ⟨B1, d1, B2, d2, B3, d3⟩ p) (hg : Good p) :
    Calls Try.prog 39 #[.agg #[.slice A1 p.len.length c1, .slice A2 p.ck.length c2, .slice A3 p.arcs.length c3], .agg #[.slice B1 p.len.length d1, .slice B2 p.ck.length d2, .slice B3 p.arcs.length d3]] w0 fun e w' => e = .returned (.bool true) ∧ Ext w0 w' :=
  same_eq A1 A2 A3 B1 B2 B3 c1 c2 c3 d1 d2 d3 p w0 hp.len hp.ck hp.arcs hq.len hq.ck hq.arcs (by have := hg.n5; omega) (by have := hg.n5; have := hg.ckl; omega) (fun l hl => Nat.le_trans (good_rows hg l hl) (by omega)) (by have := hg.few; omega)
end Go.Proofs.Ytmjmdncdmmcmaaa
