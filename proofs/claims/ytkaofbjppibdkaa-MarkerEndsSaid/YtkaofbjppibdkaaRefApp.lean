/- The reference's Append: an event without a message. Conditions: a pattern of at most 5 processes and 256 messages, room for the event. -/
import Derived.Test.YtkaofbjppibdkaaPatMem
import Derived.Deep.DeepCutAuto
namespace Go.Proofs.Ytkaofbjppibdkaa
open Go.RowKit
set_option linter.unusedVariables false

/-- what the copy of a pattern leaves -/
structure AppCut (W wx : World) (g : Nat) (L1 : Option Addr) (k1 : Nat) (L3 : Option Addr) (k3 : Nat) (A2 : Option Addr) (c2 : Nat) (p : Pat) (vs : List Value) : Prop where
  ge : W.heap.size ≤ g
  blk : wx.heap[g]? = some (.cells #[.slice L1 p.len.length k1, .slice A2 p.ck.length c2, .slice L3 p.arcs.length k3] 54 (0, 0))
  len : wx.ownsRow W.heap.size 3 1 (.slice L1 p.len.length k1) p.len.length (ints p.len)
  arcs : wx.ownsRow W.heap.size 62 4 (.slice L3 p.arcs.length k3) p.arcs.length vs
  ext : Ext W wx

/-- a new pattern p' whose checkpoints lie where those of the old one lie -/
def AppRes (w : World) (p' : Pat) (A2 : Option Addr) (c2 : Nat) (e : Ending) (w' : World) : Prop :=
  ∃ L1 k1 L3 k3 vs, e = .returned (.tuple #[.agg #[.slice L1 p'.len.length k1, .slice A2 p'.ck.length c2, .slice L3 p'.arcs.length k3], .bool true]) ∧ w'.ownsRow w.heap.size 3 1 (.slice L1 p'.len.length k1) p'.len.length (ints p'.len) ∧
        w'.ownsRow w.heap.size 62 4 (.slice L3 p'.arcs.length k3) p'.arcs.length vs ∧ Reps (repArc w') 4 vs p'.arcs ∧ Ext w w'

end Go.Proofs.Ytkaofbjppibdkaa
