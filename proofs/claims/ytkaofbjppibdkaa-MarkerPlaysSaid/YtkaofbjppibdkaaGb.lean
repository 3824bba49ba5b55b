/- The reference's Append: an event without a message. Conditions: a pattern of at most 5 processes and 256 messages, room for the event. -/
import Derived.Test.YtkaofbjppibdkaaGa
import Derived.Deep.DeepCutAuto
import Derived.Deep.RegionLaw
import Derived.BigRegion
namespace Go.Proofs.Ytkaofbjppibdkaa
open Go.RowKit
set_option linter.unusedVariables false

/-- what the copy of a pattern leaves -/
structure AppCut (W wx : World) (g : Nat) (L1 : Option Addr) (k1 : Nat) (L3 : Option Addr) (k3 : Nat) (A2 : Option Addr) (c2 : Nat) (p : Pat) (vs : List Value) : Prop where
  ge : W.heap.size ≤ g
  blk : wx.heap[g]? = some (.cells #[.slice L1 p.len.length k1, .slice A2 p.ck.length c2, .slice L3 p.arcs.length k3] 54 (0, 0))
  len : wx.ownsRow W.heap.size 3 1 (.slice L1 p.len.length k1) p.len.length (ints p.len)
  arcs : wx.ownsRow W.heap.size 62 4 (.slice L3 p.arcs.length k3) p.arcs.length vs
  ext : Ext W wx

/-- a new pattern p' whose checkpoints lie where those of the old one lie -/
def AppRes (w : World) (p' : Pat) (A2 : Option Addr) (c2 : Nat) (e : Ending) (w' : World) : Prop :=
  ∃ L1 k1 L3 k3 vs, e = .returned (.tuple #[.agg #[.slice L1 p'.len.length k1, .slice A2 p'.ck.length c2, .slice L3 p'.arcs.length k3], .bool true]) ∧ w'.ownsRow w.heap.size 3 1 (.slice L1 p'.len.length k1) p'.len.length (ints p'.len) ∧
        w'.ownsRow w.heap.size 62 4 (.slice L3 p'.arcs.length k3) p'.arcs.length vs ∧ Reps (repArc w') 4 vs p'.arcs ∧ Ext w w'

end Go.Proofs.Ytkaofbjppibdkaa

/- The reference's Append: an event that receives a message. Conditions: a pattern of at most 5 processes and 255 messages, the event and the message in range. -/
namespace Go.Proofs.Ytkaofbjppibdkaa
open Go.RowKit
set_option linter.unusedVariables false

end Go.Proofs.Ytkaofbjppibdkaa

/- The reference's Mark of patterns. Conditions: a pattern of at most 5 processes whose checkpoints ascend. -/
namespace Go.Proofs.Ytkaofbjppibdkaa
open Go.RowKit
set_option linter.unusedVariables false

theorem last_mem {l : List Int} {m : Int} (h : RowOk l m) : nth l (l.length - 1) = m ↔ m ∈ l := by
  obtain ⟨r, hl⟩ := h.head
  have hpos : 0 < l.length := by rw [hl]; simp
  constructor
  · intro e; rw [← e, nth_eq (by omega)]; exact List.getElem_mem _
  · intro hm
    obtain ⟨i, hi, e⟩ := List.getElem_of_mem hm
    have hle := h.le _ (List.getElem_mem (l := l) (n := l.length - 1) (by omega))
    rw [nth_eq (by omega)]
    by_cases h1 : i = l.length - 1
    · subst h1; exact e
    · have := List.pairwise_iff_getElem.1 h.asc i (l.length - 1) hi (by omega) (by omega)
      omega

/-- a pattern whose lengths and messages lie where they lay, its checkpoints ck -/
def MarkRes (S : Nat → Prop) (w : World) (p : Pat) (A1 : Option Addr) (c1 : Nat) (A3 : Option Addr) (c3 : Nat) (ck : List (List Int)) (e : Ending) (w' : World) : Prop :=
  ∃ L2 k2, e = .returned (.agg #[.slice A1 p.len.length c1, .slice L2 ck.length k2, .slice A3 p.arcs.length c3]) ∧ RR S w' L2 ck ∧ ck.length ≤ k2 ∧ k2 ≤ 9223372036854775807 ∧ Ext w w'

theorem markRes_of {S : Nat → Prop} {w w' : World} {p : Pat} {A1 A2 A3 : Option Addr} {c1 c2 c3 : Nat} (h2 : RR S w A2 p.ck) (hl2 : p.ck.length ≤ c2) (hc2 : c2 ≤ 9223372036854775807) (hE : Ext w w') :
    MarkRes S w p A1 c1 A3 c3 p.ck (.returned (.agg #[.slice A1 p.len.length c1, .slice A2 p.ck.length c2, .slice A3 p.arcs.length c3])) w' := ⟨A2, c2, rfl, h2.into (Into.ofExt hE), hl2, hc2, hE⟩
/-- what the copy of the checkpoints leaves -/
structure MarkCut (W wx : World) (g : Nat) (L2 : Option Addr) (k2 : Nat) (A1 : Option Addr) (c1 : Nat) (A3 : Option Addr) (c3 : Nat) (p : Pat) (vs : List Value) : Prop where
  ge : W.heap.size ≤ g
  blk : wx.heap[g]? = some (.cells #[.slice A1 p.len.length c1, .slice L2 p.ck.length k2, .slice A3 p.arcs.length c3] 54 (0, 0))
  row : wx.ownsRow W.heap.size 22 1 (.slice L2 p.ck.length k2) p.ck.length vs
  ext : Ext W wx

end Go.Proofs.Ytkaofbjppibdkaa

/- rollbacknetmake.with, where the event can be added. -/
namespace Go.Proofs.Ytkaofbjppibdkaa
open Go.RowKit
set_option linter.unusedVariables false

/-- a new pattern p' whose checkpoints lie where those of the old one lie -/
def WithRes (w : World) (p' : Pat) (A2 : Option Addr) (c2 : Nat) (e : Ending) (w' : World) : Prop :=
  ∃ L1 k1 L3 k3 vs, e = .returned (.agg #[.slice L1 p'.len.length k1, .slice A2 p'.ck.length c2, .slice L3 p'.arcs.length k3]) ∧ w'.ownsRow w.heap.size 3 1 (.slice L1 p'.len.length k1) p'.len.length (ints p'.len) ∧
        w'.ownsRow w.heap.size 62 4 (.slice L3 p'.arcs.length k3) p'.arcs.length vs ∧ Reps (repArc w') 4 vs p'.arcs ∧ Ext w w'

end Go.Proofs.Ytkaofbjppibdkaa

