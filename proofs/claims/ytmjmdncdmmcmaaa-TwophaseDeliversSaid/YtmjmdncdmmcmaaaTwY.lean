/- rollbacknetlaw24.run: it ends, whatever the order. Conditions: the pattern is a good one and lies in memory, the root is one of its processes. -/
import Derived.Test.YtmjmdncdmmcmaaaTwX
import Derived.Test.YtmjmdncdmmcmaaaGc
import Derived.Deep.DeepCutAuto
namespace Go.Proofs.Ytmjmdncdmmcmaaa
open Go.RowKit Tph
set_option linter.unusedVariables false
set_option linter.unusedSimpArgs false
set_option linter.unusedSectionVars false

theorem okB {r : Nat} {us : List Int} {p : Pat} {t : TS} {i k n nf : Nat} {T : Nat → Prop} {w : World} {x : TX} (h : RunI p n r us t i) (ht : TpAt T w x p t) (hn5 : n ≤ 5) (hg : Good p) (hn : p.len.length = n) (hnf : t.fl.length = nf) (hk : k < nf) :
    Calls Try.prog 34 #[x.val p r n nf, .int .i64 (k : Int)] w fun e w' => ∃ x2 : TX, e = .returned (.tuple #[x2.val p r n (t.step (srcL p) k).fl.length, .int .i64 0]) ∧ TpAt (Orn T w) w' x2 p (t.step (srcL p) k) ∧ Ext w w' := by
  have hd := deliver_any x p t n k w ht h.inv.l hg hn (by omega) (h.dlv hn5 (by omega))
  rw [h.rt, hnf] at hd
  refine hd.mono ?_
  rintro e w' ⟨x2, rfl, h1, h2⟩
  exact ⟨x2, by rw [(h.step (by omega)).rt], h1, h2⟩
end Go.Proofs.Ytmjmdncdmmcmaaa
