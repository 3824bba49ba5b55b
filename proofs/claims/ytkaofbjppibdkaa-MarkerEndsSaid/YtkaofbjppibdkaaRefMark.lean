/- The reference's Mark of patterns. Conditions: a pattern of at most 5 processes whose checkpoints ascend. -/
import Derived.Test.YtkaofbjppibdkaaRefApp
import Derived.Deep.RegionLaw
import Derived.BigRegion
namespace Go.Proofs.Ytkaofbjppibdkaa
open Go.RowKit
set_option linter.unusedVariables false

theorem last_mem {l : List Int} {m : Int} (h : RowOk l m) : nth l (l.length - 1) = m ↔ m ∈ l := by
  obtain ⟨r, hl⟩ := h.head
  have hpos : 0 < l.length := by rw [hl]; simp
  constructor
  · intro e; rw [← e, nth_eq (by omega)]; exact List.getElem_mem _
  · intro hm
    obtain ⟨i, hi, e⟩ := List.getElem_of_mem hm
    have hle := h.le _ (List.getElem_mem (l := l) (n := l.length - 1) (by omega))
    rw [nth_eq (by omega)]
    by_cases h1 : i = l.length - 1
    · subst h1; exact e
    · have := List.pairwise_iff_getElem.1 h.asc i (l.length - 1) hi (by omega) (by omega)
      omega

/-- a pattern whose lengths and messages lie where they lay, its checkpoints ck -/
def MarkRes (S : Nat → Prop) (w : World) (p : Pat) (A1 : Option Addr) (c1 : Nat) (A3 : Option Addr) (c3 : Nat) (ck : List (List Int)) (e : Ending) (w' : World) : Prop :=
  ∃ L2 k2, e = .returned (.agg #[.slice A1 p.len.length c1, .slice L2 ck.length k2, .slice A3 p.arcs.length c3]) ∧ RR S w' L2 ck ∧ ck.length ≤ k2 ∧ k2 ≤ 9223372036854775807 ∧ Ext w w'

theorem markRes_of {S : Nat → Prop} {w w' : World} {p : Pat} {A1 A2 A3 : Option Addr} {c1 c2 c3 : Nat} (h2 : RR S w A2 p.ck) (hl2 : p.ck.length ≤ c2) (hc2 : c2 ≤ 9223372036854775807) (hE : Ext w w') :
    MarkRes S w p A1 c1 A3 c3 p.ck (.returned (.agg #[.slice A1 p.len.length c1, .slice A2 p.ck.length c2, .slice A3 p.arcs.length c3])) w' := ⟨A2, c2, rfl, h2.into (Into.ofExt hE), hl2, hc2, hE⟩
/-- what the copy of the checkpoints leaves -/
structure MarkCut (W wx : World) (g : Nat) (L2 : Option Addr) (k2 : Nat) (A1 : Option Addr) (c1 : Nat) (A3 : Option Addr) (c3 : Nat) (p : Pat) (vs : List Value) : Prop where
  ge : W.heap.size ≤ g
  blk : wx.heap[g]? = some (.cells #[.slice A1 p.len.length c1, .slice L2 p.ck.length k2, .slice A3 p.arcs.length c3] 54 (0, 0))
  row : wx.ownsRow W.heap.size 22 1 (.slice L2 p.ck.length k2) p.ck.length vs
  ext : Ext W wx

end Go.Proofs.Ytkaofbjppibdkaa
