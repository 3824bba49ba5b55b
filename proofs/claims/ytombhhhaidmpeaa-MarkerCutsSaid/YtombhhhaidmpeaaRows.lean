/-
  No cell of these rows narrows 'for every input' (looked for: loops, veiled, ifaces, maps, wideKeys, modest, calm, conditions, laid).
  DERIVED. THE GIVEN ROWS OF THIS SEAT. 7 by the template 'for every input the law returns true; each argument reads behind the call as it read before'; 0 by the template 'total and deterministic' (their statements: YtombhhhaidmpeaaTotals.lean).
  GIVEN WITH THE SEED: the statements are not yours to turn. If you find one false, say at which input.
  Laid BY PROGRAM, IN A SANDBOX (cutbox-rows.mjs): the forced cells as the released guide's own fill.sh prints them over the translation 51999c4900805d5c… (all of the seat's roots in one cut). By AI agents, Wed Nov 11 2026. No macro, syntax, notation, axiom, sorry.
-/
import Derived.Test.YtombhhhaidmpeaaChecked
import GoSem.Claim
import GoSem.ClaimJoined
import GoSem.ClaimMapViews
import Derived.JoinedTies
import Derived.KernelRfl
namespace Go.Proofs.Ytombhhhaidmpeaa
/- THE CELL 'sum', in the pinned program and in every row, IS THE sha256 OF THE DUMP (.gsa) THAT YtombhhhaidmpeaaProg.lean LOADS. Nothing in Lean hashes anything: it is a label: what it is worth is what the hold of that sum in a sandbox is worth. -/
noncomputable def Try.pinned : Pinned := { name := "ytombhhhaidmpeaa", sum := "51999c4900805d5c64e7640b758780ed07dd8a59c1b2182812238a6522bf2b7e", checked := Try.checked }
namespace Rows
def none {H : Type} : Left H := { results := [], args := [] }

/-- 'rollbacknetlaw36.CollectNeeds': WHATEVER THE INPUT: true; the input reads as it did. -/
def collectNeedsSpec : ChangeSpec := { name := "collectNeeds", fn := fun _ => fun
  | [d1, d2] => { results := [.lit (.bool true)], args := [d1, d2] }
  | _ => none }
def collectNeedsRow : OpenClaim := { program := "ytombhhhaidmpeaa", sum := "51999c4900805d5c64e7640b758780ed07dd8a59c1b2182812238a6522bf2b7e", func := "rollbacknet/rollbacknetlaw36.CollectNeeds", spec := "collectNeeds", unfollowed := true, recurses := true, plainKeys := false, apart := false }
def CollectNeedsSaid : Prop := collectNeedsRow.holds Try.pinned (OpenSpec.ofChange collectNeedsSpec)

/-- ITS FALSE NEIGHBOUR: 'it returns false'. Refute it at one input. -/
def collectNeedsWrong : ChangeSpec := { name := "collectNeeds", fn := fun _ => fun
  | [d1, d2] => { results := [.lit (.bool false)], args := [d1, d2] }
  | _ => none }
def CollectNeedsWrongFalsely : Prop := collectNeedsRow.holds Try.pinned (OpenSpec.ofChange collectNeedsWrong)

/-- 'rollbacknetlaw36.CollectTight': WHATEVER THE INPUT: true; the input reads as it did. -/
def collectTightSpec : ChangeSpec := { name := "collectTight", fn := fun _ => fun
  | [d] => { results := [.lit (.bool true)], args := [d] }
  | _ => none }
def collectTightRow : OpenClaim := { program := "ytombhhhaidmpeaa", sum := "51999c4900805d5c64e7640b758780ed07dd8a59c1b2182812238a6522bf2b7e", func := "rollbacknet/rollbacknetlaw36.CollectTight", spec := "collectTight", unfollowed := true, recurses := true, plainKeys := false, apart := false }
def CollectTightSaid : Prop := collectTightRow.holds Try.pinned (OpenSpec.ofChange collectTightSpec)

/-- ITS FALSE NEIGHBOUR: 'it returns false'. Refute it at one input. -/
def collectTightWrong : ChangeSpec := { name := "collectTight", fn := fun _ => fun
  | [d] => { results := [.lit (.bool false)], args := [d] }
  | _ => none }
def CollectTightWrongFalsely : Prop := collectTightRow.holds Try.pinned (OpenSpec.ofChange collectTightWrong)

/-- 'rollbacknetlaw36.CollectBases': WHATEVER THE INPUT: true; the input reads as it did. -/
def collectBasesSpec : ChangeSpec := { name := "collectBases", fn := fun _ => fun
  | [d1, d2, d3] => { results := [.lit (.bool true)], args := [d1, d2, d3] }
  | _ => none }
def collectBasesRow : OpenClaim := { program := "ytombhhhaidmpeaa", sum := "51999c4900805d5c64e7640b758780ed07dd8a59c1b2182812238a6522bf2b7e", func := "rollbacknet/rollbacknetlaw36.CollectBases", spec := "collectBases", unfollowed := true, recurses := true, plainKeys := false, apart := false }
def CollectBasesSaid : Prop := collectBasesRow.holds Try.pinned (OpenSpec.ofChange collectBasesSpec)

/-- ITS FALSE NEIGHBOUR: 'it returns false'. Refute it at one input. -/
def collectBasesWrong : ChangeSpec := { name := "collectBases", fn := fun _ => fun
  | [d1, d2, d3] => { results := [.lit (.bool false)], args := [d1, d2, d3] }
  | _ => none }
def CollectBasesWrongFalsely : Prop := collectBasesRow.holds Try.pinned (OpenSpec.ofChange collectBasesWrong)

/-- 'rollbacknetlaw36.CollectKeeps': WHATEVER THE INPUT: true; the input reads as it did. -/
def collectKeepsSpec : ChangeSpec := { name := "collectKeeps", fn := fun _ => fun
  | [d] => { results := [.lit (.bool true)], args := [d] }
  | _ => none }
def collectKeepsRow : OpenClaim := { program := "ytombhhhaidmpeaa", sum := "51999c4900805d5c64e7640b758780ed07dd8a59c1b2182812238a6522bf2b7e", func := "rollbacknet/rollbacknetlaw36.CollectKeeps", spec := "collectKeeps", unfollowed := true, recurses := true, plainKeys := false, apart := false }
def CollectKeepsSaid : Prop := collectKeepsRow.holds Try.pinned (OpenSpec.ofChange collectKeepsSpec)

/-- ITS FALSE NEIGHBOUR: 'it returns false'. Refute it at one input. -/
def collectKeepsWrong : ChangeSpec := { name := "collectKeeps", fn := fun _ => fun
  | [d] => { results := [.lit (.bool false)], args := [d] }
  | _ => none }
def CollectKeepsWrongFalsely : Prop := collectKeepsRow.holds Try.pinned (OpenSpec.ofChange collectKeepsWrong)

/-- 'rollbacknetlaw36.CollectCovers': WHATEVER THE INPUT: true; the input reads as it did. -/
def collectCoversSpec : ChangeSpec := { name := "collectCovers", fn := fun _ => fun
  | [d] => { results := [.lit (.bool true)], args := [d] }
  | _ => none }
def collectCoversRow : OpenClaim := { program := "ytombhhhaidmpeaa", sum := "51999c4900805d5c64e7640b758780ed07dd8a59c1b2182812238a6522bf2b7e", func := "rollbacknet/rollbacknetlaw36.CollectCovers", spec := "collectCovers", unfollowed := true, recurses := true, plainKeys := false, apart := false }
def CollectCoversSaid : Prop := collectCoversRow.holds Try.pinned (OpenSpec.ofChange collectCoversSpec)

/-- ITS FALSE NEIGHBOUR: 'it returns false'. Refute it at one input. -/
def collectCoversWrong : ChangeSpec := { name := "collectCovers", fn := fun _ => fun
  | [d] => { results := [.lit (.bool false)], args := [d] }
  | _ => none }
def CollectCoversWrongFalsely : Prop := collectCoversRow.holds Try.pinned (OpenSpec.ofChange collectCoversWrong)

/-- 'rollbacknetlaw23.MarkerCuts': WHATEVER THE INPUT: true; the input reads as it did. -/
def markerCutsSpec : ChangeSpec := { name := "markerCuts", fn := fun _ => fun
  | [d1, d2] => { results := [.lit (.bool true)], args := [d1, d2] }
  | _ => none }
def markerCutsRow : OpenClaim := { program := "ytombhhhaidmpeaa", sum := "51999c4900805d5c64e7640b758780ed07dd8a59c1b2182812238a6522bf2b7e", func := "rollbacknet/rollbacknetlaw23.MarkerCuts", spec := "markerCuts", unfollowed := true, recurses := true, plainKeys := false, apart := false }
def MarkerCutsSaid : Prop := markerCutsRow.holds Try.pinned (OpenSpec.ofChange markerCutsSpec)

/-- ITS FALSE NEIGHBOUR: 'it returns false'. Refute it at one input. -/
def markerCutsWrong : ChangeSpec := { name := "markerCuts", fn := fun _ => fun
  | [d1, d2] => { results := [.lit (.bool false)], args := [d1, d2] }
  | _ => none }
def MarkerCutsWrongFalsely : Prop := markerCutsRow.holds Try.pinned (OpenSpec.ofChange markerCutsWrong)

/-- 'rollbacknetlaw36.CollectForever': WHATEVER THE INPUT: true; the input reads as it did. -/
def collectForeverSpec : ChangeSpec := { name := "collectForever", fn := fun _ => fun
  | [d1, d2] => { results := [.lit (.bool true)], args := [d1, d2] }
  | _ => none }
def collectForeverRow : OpenClaim := { program := "ytombhhhaidmpeaa", sum := "51999c4900805d5c64e7640b758780ed07dd8a59c1b2182812238a6522bf2b7e", func := "rollbacknet/rollbacknetlaw36.CollectForever", spec := "collectForever", unfollowed := true, recurses := true, plainKeys := false, apart := false }
def CollectForeverSaid : Prop := collectForeverRow.holds Try.pinned (OpenSpec.ofChange collectForeverSpec)

/-- ITS FALSE NEIGHBOUR: 'it returns false'. Refute it at one input. -/
def collectForeverWrong : ChangeSpec := { name := "collectForever", fn := fun _ => fun
  | [d1, d2] => { results := [.lit (.bool false)], args := [d1, d2] }
  | _ => none }
def CollectForeverWrongFalsely : Prop := collectForeverRow.holds Try.pinned (OpenSpec.ofChange collectForeverWrong)

/- THE SECOND FORM. 'bulk': how many values and letters a reading holds, each counted each time it is reached (what is shared counts as often as it is met; a slice's spare places count too). A statement '..UptoSaid' is the law's where the arguments, and the package variables that the reading takes, are together of bulk at most 1048576: NARROWER than '..Said'. Prove '..Said' where nothing that the law and all that it calls make is longer than what came in: it says more and counts as full. Else prove '..UptoSaid'. A law counts once. -/
mutual
def uptoBulk {H : Type} : DataW H → Nat
  | .lit (.string bytes) => bytes.length + 1
  | .lit _ => 1
  | .nil => 1
  | .ptr d => uptoBulk d + 1
  | .slice elems spare => uptoBulkAll elems + uptoBulkAll spare + 1
  | .agg parts => uptoBulkAll parts + 1
  | .iface _ d => uptoBulk d + 1
  | .map entries => uptoBulkEntries entries + 1
  | .held _ => 1
def uptoBulkAll {H : Type} : List (DataW H) → Nat
  | [] => 0
  | d :: r => uptoBulk d + uptoBulkAll r
def uptoBulkEntries {H : Type} : List (Lit × DataW H) → Nat
  | [] => 0
  | x :: r => uptoBulkEntry x + uptoBulkEntries r
def uptoBulkEntry {H : Type} : Lit × DataW H → Nat
  | (.string bytes, d) => bytes.length + uptoBulk d + 1
  | (_, d) => uptoBulk d + 1
 end
def uptoSmall : (H : Type) → List (DataW H) → Bool := fun _ ds => decide (uptoBulkAll ds ≤ 1048576)
def OpenSpec.upto (s : _root_.Go.ChangeSpec) : _root_.Go.OpenSpec := { _root_.Go.OpenSpec.ofChange s with cond := some uptoSmall }

/-- 'rollbacknetlaw36.CollectNeeds', WHERE WHAT IT READS IS OF BULK AT MOST 1048576: true; the input reads as it did. -/
def collectNeedsUptoRow : OpenClaim := { program := "ytombhhhaidmpeaa", sum := "51999c4900805d5c64e7640b758780ed07dd8a59c1b2182812238a6522bf2b7e", func := "rollbacknet/rollbacknetlaw36.CollectNeeds", spec := "collectNeeds", unfollowed := true, recurses := true, plainKeys := false, apart := false, narrowed := true }
def CollectNeedsUptoSaid : Prop := collectNeedsUptoRow.holds Try.pinned (OpenSpec.upto collectNeedsSpec)

/-- 'rollbacknetlaw36.CollectTight', WHERE WHAT IT READS IS OF BULK AT MOST 1048576: true; the input reads as it did. -/
def collectTightUptoRow : OpenClaim := { program := "ytombhhhaidmpeaa", sum := "51999c4900805d5c64e7640b758780ed07dd8a59c1b2182812238a6522bf2b7e", func := "rollbacknet/rollbacknetlaw36.CollectTight", spec := "collectTight", unfollowed := true, recurses := true, plainKeys := false, apart := false, narrowed := true }
def CollectTightUptoSaid : Prop := collectTightUptoRow.holds Try.pinned (OpenSpec.upto collectTightSpec)

/-- 'rollbacknetlaw36.CollectBases', WHERE WHAT IT READS IS OF BULK AT MOST 1048576: true; the input reads as it did. -/
def collectBasesUptoRow : OpenClaim := { program := "ytombhhhaidmpeaa", sum := "51999c4900805d5c64e7640b758780ed07dd8a59c1b2182812238a6522bf2b7e", func := "rollbacknet/rollbacknetlaw36.CollectBases", spec := "collectBases", unfollowed := true, recurses := true, plainKeys := false, apart := false, narrowed := true }
def CollectBasesUptoSaid : Prop := collectBasesUptoRow.holds Try.pinned (OpenSpec.upto collectBasesSpec)

/-- 'rollbacknetlaw36.CollectKeeps', WHERE WHAT IT READS IS OF BULK AT MOST 1048576: true; the input reads as it did. -/
def collectKeepsUptoRow : OpenClaim := { program := "ytombhhhaidmpeaa", sum := "51999c4900805d5c64e7640b758780ed07dd8a59c1b2182812238a6522bf2b7e", func := "rollbacknet/rollbacknetlaw36.CollectKeeps", spec := "collectKeeps", unfollowed := true, recurses := true, plainKeys := false, apart := false, narrowed := true }
def CollectKeepsUptoSaid : Prop := collectKeepsUptoRow.holds Try.pinned (OpenSpec.upto collectKeepsSpec)

/-- 'rollbacknetlaw36.CollectCovers', WHERE WHAT IT READS IS OF BULK AT MOST 1048576: true; the input reads as it did. -/
def collectCoversUptoRow : OpenClaim := { program := "ytombhhhaidmpeaa", sum := "51999c4900805d5c64e7640b758780ed07dd8a59c1b2182812238a6522bf2b7e", func := "rollbacknet/rollbacknetlaw36.CollectCovers", spec := "collectCovers", unfollowed := true, recurses := true, plainKeys := false, apart := false, narrowed := true }
def CollectCoversUptoSaid : Prop := collectCoversUptoRow.holds Try.pinned (OpenSpec.upto collectCoversSpec)

/-- 'rollbacknetlaw23.MarkerCuts', WHERE WHAT IT READS IS OF BULK AT MOST 1048576: true; the input reads as it did. -/
def markerCutsUptoRow : OpenClaim := { program := "ytombhhhaidmpeaa", sum := "51999c4900805d5c64e7640b758780ed07dd8a59c1b2182812238a6522bf2b7e", func := "rollbacknet/rollbacknetlaw23.MarkerCuts", spec := "markerCuts", unfollowed := true, recurses := true, plainKeys := false, apart := false, narrowed := true }
def MarkerCutsUptoSaid : Prop := markerCutsUptoRow.holds Try.pinned (OpenSpec.upto markerCutsSpec)

/-- 'rollbacknetlaw36.CollectForever', WHERE WHAT IT READS IS OF BULK AT MOST 1048576: true; the input reads as it did. -/
def collectForeverUptoRow : OpenClaim := { program := "ytombhhhaidmpeaa", sum := "51999c4900805d5c64e7640b758780ed07dd8a59c1b2182812238a6522bf2b7e", func := "rollbacknet/rollbacknetlaw36.CollectForever", spec := "collectForever", unfollowed := true, recurses := true, plainKeys := false, apart := false, narrowed := true }
def CollectForeverUptoSaid : Prop := collectForeverUptoRow.holds Try.pinned (OpenSpec.upto collectForeverSpec)

end Rows
end Go.Proofs.Ytombhhhaidmpeaa
