/- rollbacknetmake.with, where the event can be added. -/
import Derived.Test.YtkaofbjppibdkaaRefRecv
import Derived.Test.YtkaofbjppibdkaaRefMark
namespace Go.Proofs.Ytkaofbjppibdkaa
open Go.RowKit
set_option linter.unusedVariables false

/-- a new pattern p' whose checkpoints lie where those of the old one lie -/
def WithRes (w : World) (p' : Pat) (A2 : Option Addr) (c2 : Nat) (e : Ending) (w' : World) : Prop :=
  ∃ L1 k1 L3 k3 vs, e = .returned (.agg #[.slice L1 p'.len.length k1, .slice A2 p'.ck.length c2, .slice L3 p'.arcs.length k3]) ∧ w'.ownsRow w.heap.size 3 1 (.slice L1 p'.len.length k1) p'.len.length (ints p'.len) ∧
        w'.ownsRow w.heap.size 62 4 (.slice L3 p'.arcs.length k3) p'.arcs.length vs ∧ Reps (repArc w') 4 vs p'.arcs ∧ Ext w w'

end Go.Proofs.Ytkaofbjppibdkaa
