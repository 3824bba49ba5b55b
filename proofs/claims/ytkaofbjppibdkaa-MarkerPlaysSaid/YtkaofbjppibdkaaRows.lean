/-
  No cell of these rows narrows 'for every input' (looked for: loops, veiled, ifaces, maps, wideKeys, modest, calm, conditions, laid).
  DERIVED. THE GIVEN ROWS OF THIS SEAT. 7 by the template 'for every input the law returns true; each argument reads behind the call as it read before'; 0 by the template 'total and deterministic' (their statements: YtkaofbjppibdkaaTotals.lean).
  GIVEN WITH THE SEED: the statements are not yours to turn. If you find one false, say at which input.
  Laid BY PROGRAM, IN A SANDBOX (cutbox-rows.mjs): the forced cells as the released guide's own fill.sh prints them over the translation 7dc0cdda67390ffc… (all of the seat's roots in one cut). By AI agents, Wed Nov 11 2026. No macro, syntax, notation, axiom, sorry.
-/
import Derived.Test.YtkaofbjppibdkaaChecked
import GoSem.Claim
import GoSem.ClaimJoined
import GoSem.ClaimMapViews
import Derived.JoinedTies
import Derived.KernelRfl
namespace Go.Proofs.Ytkaofbjppibdkaa
/- THE CELL 'sum', in the pinned program and in every row, IS THE sha256 OF THE DUMP (.gsa) THAT YtkaofbjppibdkaaProg.lean LOADS. Nothing in Lean hashes anything: it is a label: what it is worth is what the hold of that sum in a sandbox is worth. -/
noncomputable def Try.pinned : Pinned := { name := "ytkaofbjppibdkaa", sum := "7dc0cdda67390ffca5c457f86ba95b371537960e71ca7ab52e333a1e119a960e", checked := Try.checked }
namespace Rows
def none {H : Type} : Left H := { results := [], args := [] }

/-- 'rollbacknetlaw23.MarkerBegins': WHATEVER THE INPUT: true; the input reads as it did. -/
def markerBeginsSpec : ChangeSpec := { name := "markerBegins", fn := fun _ => fun
  | [d] => { results := [.lit (.bool true)], args := [d] }
  | _ => none }
def markerBeginsRow : OpenClaim := { program := "ytkaofbjppibdkaa", sum := "7dc0cdda67390ffca5c457f86ba95b371537960e71ca7ab52e333a1e119a960e", func := "rollbacknet/rollbacknetlaw23.MarkerBegins", spec := "markerBegins", unfollowed := true, recurses := true, apart := false }
def MarkerBeginsSaid : Prop := markerBeginsRow.holds Try.pinned (OpenSpec.ofChange markerBeginsSpec)

/-- ITS FALSE NEIGHBOUR: 'it returns false'. Refute it at one input. -/
def markerBeginsWrong : ChangeSpec := { name := "markerBegins", fn := fun _ => fun
  | [d] => { results := [.lit (.bool false)], args := [d] }
  | _ => none }
def MarkerBeginsWrongFalsely : Prop := markerBeginsRow.holds Try.pinned (OpenSpec.ofChange markerBeginsWrong)

/-- 'rollbacknetlaw23.MarkerPlays': WHATEVER THE INPUT: true; the input reads as it did. -/
def markerPlaysSpec : ChangeSpec := { name := "markerPlays", fn := fun _ => fun
  | [d1, d2] => { results := [.lit (.bool true)], args := [d1, d2] }
  | _ => none }
def markerPlaysRow : OpenClaim := { program := "ytkaofbjppibdkaa", sum := "7dc0cdda67390ffca5c457f86ba95b371537960e71ca7ab52e333a1e119a960e", func := "rollbacknet/rollbacknetlaw23.MarkerPlays", spec := "markerPlays", unfollowed := true, recurses := true, apart := false }
def MarkerPlaysSaid : Prop := markerPlaysRow.holds Try.pinned (OpenSpec.ofChange markerPlaysSpec)

/-- ITS FALSE NEIGHBOUR: 'it returns false'. Refute it at one input. -/
def markerPlaysWrong : ChangeSpec := { name := "markerPlays", fn := fun _ => fun
  | [d1, d2] => { results := [.lit (.bool false)], args := [d1, d2] }
  | _ => none }
def MarkerPlaysWrongFalsely : Prop := markerPlaysRow.holds Try.pinned (OpenSpec.ofChange markerPlaysWrong)

/-- 'rollbacknetlaw23.MarkerRefuses': WHATEVER THE INPUT: true; the input reads as it did. -/
def markerRefusesSpec : ChangeSpec := { name := "markerRefuses", fn := fun _ => fun
  | [d1, d2, d3] => { results := [.lit (.bool true)], args := [d1, d2, d3] }
  | _ => none }
def markerRefusesRow : OpenClaim := { program := "ytkaofbjppibdkaa", sum := "7dc0cdda67390ffca5c457f86ba95b371537960e71ca7ab52e333a1e119a960e", func := "rollbacknet/rollbacknetlaw23.MarkerRefuses", spec := "markerRefuses", unfollowed := true, recurses := true, apart := false }
def MarkerRefusesSaid : Prop := markerRefusesRow.holds Try.pinned (OpenSpec.ofChange markerRefusesSpec)

/-- ITS FALSE NEIGHBOUR: 'it returns false'. Refute it at one input. -/
def markerRefusesWrong : ChangeSpec := { name := "markerRefuses", fn := fun _ => fun
  | [d1, d2, d3] => { results := [.lit (.bool false)], args := [d1, d2, d3] }
  | _ => none }
def MarkerRefusesWrongFalsely : Prop := markerRefusesRow.holds Try.pinned (OpenSpec.ofChange markerRefusesWrong)

/-- 'rollbacknetlaw23.MarkerConserves': WHATEVER THE INPUT: true; the input reads as it did. -/
def markerConservesSpec : ChangeSpec := { name := "markerConserves", fn := fun _ => fun
  | [d1, d2] => { results := [.lit (.bool true)], args := [d1, d2] }
  | _ => none }
def markerConservesRow : OpenClaim := { program := "ytkaofbjppibdkaa", sum := "7dc0cdda67390ffca5c457f86ba95b371537960e71ca7ab52e333a1e119a960e", func := "rollbacknet/rollbacknetlaw23.MarkerConserves", spec := "markerConserves", unfollowed := true, recurses := true, apart := false }
def MarkerConservesSaid : Prop := markerConservesRow.holds Try.pinned (OpenSpec.ofChange markerConservesSpec)

/-- ITS FALSE NEIGHBOUR: 'it returns false'. Refute it at one input. -/
def markerConservesWrong : ChangeSpec := { name := "markerConserves", fn := fun _ => fun
  | [d1, d2] => { results := [.lit (.bool false)], args := [d1, d2] }
  | _ => none }
def MarkerConservesWrongFalsely : Prop := markerConservesRow.holds Try.pinned (OpenSpec.ofChange markerConservesWrong)

/-- 'rollbacknetlaw23.MarkerUnseen': WHATEVER THE INPUT: true; the input reads as it did. -/
def markerUnseenSpec : ChangeSpec := { name := "markerUnseen", fn := fun _ => fun
  | [d1, d2] => { results := [.lit (.bool true)], args := [d1, d2] }
  | _ => none }
def markerUnseenRow : OpenClaim := { program := "ytkaofbjppibdkaa", sum := "7dc0cdda67390ffca5c457f86ba95b371537960e71ca7ab52e333a1e119a960e", func := "rollbacknet/rollbacknetlaw23.MarkerUnseen", spec := "markerUnseen", unfollowed := true, recurses := true, apart := false }
def MarkerUnseenSaid : Prop := markerUnseenRow.holds Try.pinned (OpenSpec.ofChange markerUnseenSpec)

/-- ITS FALSE NEIGHBOUR: 'it returns false'. Refute it at one input. -/
def markerUnseenWrong : ChangeSpec := { name := "markerUnseen", fn := fun _ => fun
  | [d1, d2] => { results := [.lit (.bool false)], args := [d1, d2] }
  | _ => none }
def MarkerUnseenWrongFalsely : Prop := markerUnseenRow.holds Try.pinned (OpenSpec.ofChange markerUnseenWrong)

/-- 'rollbacknetlaw23.MarkerEnds': WHATEVER THE INPUT: true; the input reads as it did. -/
def markerEndsSpec : ChangeSpec := { name := "markerEnds", fn := fun _ => fun
  | [d1, d2, d3] => { results := [.lit (.bool true)], args := [d1, d2, d3] }
  | _ => none }
def markerEndsRow : OpenClaim := { program := "ytkaofbjppibdkaa", sum := "7dc0cdda67390ffca5c457f86ba95b371537960e71ca7ab52e333a1e119a960e", func := "rollbacknet/rollbacknetlaw23.MarkerEnds", spec := "markerEnds", unfollowed := true, recurses := true, apart := false }
def MarkerEndsSaid : Prop := markerEndsRow.holds Try.pinned (OpenSpec.ofChange markerEndsSpec)

/-- ITS FALSE NEIGHBOUR: 'it returns false'. Refute it at one input. -/
def markerEndsWrong : ChangeSpec := { name := "markerEnds", fn := fun _ => fun
  | [d1, d2, d3] => { results := [.lit (.bool false)], args := [d1, d2, d3] }
  | _ => none }
def MarkerEndsWrongFalsely : Prop := markerEndsRow.holds Try.pinned (OpenSpec.ofChange markerEndsWrong)

/-- 'rollbacknetlaw23.MarkerCuts': WHATEVER THE INPUT: true; the input reads as it did. -/
def markerCutsSpec : ChangeSpec := { name := "markerCuts", fn := fun _ => fun
  | [d1, d2] => { results := [.lit (.bool true)], args := [d1, d2] }
  | _ => none }
def markerCutsRow : OpenClaim := { program := "ytkaofbjppibdkaa", sum := "7dc0cdda67390ffca5c457f86ba95b371537960e71ca7ab52e333a1e119a960e", func := "rollbacknet/rollbacknetlaw23.MarkerCuts", spec := "markerCuts", unfollowed := true, recurses := true, apart := false }
def MarkerCutsSaid : Prop := markerCutsRow.holds Try.pinned (OpenSpec.ofChange markerCutsSpec)

/-- ITS FALSE NEIGHBOUR: 'it returns false'. Refute it at one input. -/
def markerCutsWrong : ChangeSpec := { name := "markerCuts", fn := fun _ => fun
  | [d1, d2] => { results := [.lit (.bool false)], args := [d1, d2] }
  | _ => none }
def MarkerCutsWrongFalsely : Prop := markerCutsRow.holds Try.pinned (OpenSpec.ofChange markerCutsWrong)

/- THE SECOND FORM. 'bulk': how many values and letters a reading holds, each counted each time it is reached (what is shared counts as often as it is met; a slice's spare places count too). A statement '..UptoSaid' is the law's where the arguments, and the package variables that the reading takes, are together of bulk at most 1048576: NARROWER than '..Said'. Prove '..Said' where nothing that the law and all that it calls make is longer than what came in: it says more and counts as full. Else prove '..UptoSaid'. A law counts once. -/
mutual
def uptoBulk {H : Type} : DataW H → Nat
  | .lit (.string bytes) => bytes.length + 1
  | .lit _ => 1
  | .nil => 1
  | .ptr d => uptoBulk d + 1
  | .slice elems spare => uptoBulkAll elems + uptoBulkAll spare + 1
  | .agg parts => uptoBulkAll parts + 1
  | .iface _ d => uptoBulk d + 1
  | .map entries => uptoBulkEntries entries + 1
  | .held _ => 1
def uptoBulkAll {H : Type} : List (DataW H) → Nat
  | [] => 0
  | d :: r => uptoBulk d + uptoBulkAll r
def uptoBulkEntries {H : Type} : List (Lit × DataW H) → Nat
  | [] => 0
  | x :: r => uptoBulkEntry x + uptoBulkEntries r
def uptoBulkEntry {H : Type} : Lit × DataW H → Nat
  | (.string bytes, d) => bytes.length + uptoBulk d + 1
  | (_, d) => uptoBulk d + 1
 end
def uptoSmall : (H : Type) → List (DataW H) → Bool := fun _ ds => decide (uptoBulkAll ds ≤ 1048576)
def OpenSpec.upto (s : _root_.Go.ChangeSpec) : _root_.Go.OpenSpec := { _root_.Go.OpenSpec.ofChange s with cond := some uptoSmall }

/-- 'rollbacknetlaw23.MarkerBegins', WHERE WHAT IT READS IS OF BULK AT MOST 1048576: true; the input reads as it did. -/
def markerBeginsUptoRow : OpenClaim := { program := "ytkaofbjppibdkaa", sum := "7dc0cdda67390ffca5c457f86ba95b371537960e71ca7ab52e333a1e119a960e", func := "rollbacknet/rollbacknetlaw23.MarkerBegins", spec := "markerBegins", unfollowed := true, recurses := true, apart := false, narrowed := true }
def MarkerBeginsUptoSaid : Prop := markerBeginsUptoRow.holds Try.pinned (OpenSpec.upto markerBeginsSpec)

/-- 'rollbacknetlaw23.MarkerPlays', WHERE WHAT IT READS IS OF BULK AT MOST 1048576: true; the input reads as it did. -/
def markerPlaysUptoRow : OpenClaim := { program := "ytkaofbjppibdkaa", sum := "7dc0cdda67390ffca5c457f86ba95b371537960e71ca7ab52e333a1e119a960e", func := "rollbacknet/rollbacknetlaw23.MarkerPlays", spec := "markerPlays", unfollowed := true, recurses := true, apart := false, narrowed := true }
def MarkerPlaysUptoSaid : Prop := markerPlaysUptoRow.holds Try.pinned (OpenSpec.upto markerPlaysSpec)

/-- 'rollbacknetlaw23.MarkerRefuses', WHERE WHAT IT READS IS OF BULK AT MOST 1048576: true; the input reads as it did. -/
def markerRefusesUptoRow : OpenClaim := { program := "ytkaofbjppibdkaa", sum := "7dc0cdda67390ffca5c457f86ba95b371537960e71ca7ab52e333a1e119a960e", func := "rollbacknet/rollbacknetlaw23.MarkerRefuses", spec := "markerRefuses", unfollowed := true, recurses := true, apart := false, narrowed := true }
def MarkerRefusesUptoSaid : Prop := markerRefusesUptoRow.holds Try.pinned (OpenSpec.upto markerRefusesSpec)

/-- 'rollbacknetlaw23.MarkerConserves', WHERE WHAT IT READS IS OF BULK AT MOST 1048576: true; the input reads as it did. -/
def markerConservesUptoRow : OpenClaim := { program := "ytkaofbjppibdkaa", sum := "7dc0cdda67390ffca5c457f86ba95b371537960e71ca7ab52e333a1e119a960e", func := "rollbacknet/rollbacknetlaw23.MarkerConserves", spec := "markerConserves", unfollowed := true, recurses := true, apart := false, narrowed := true }
def MarkerConservesUptoSaid : Prop := markerConservesUptoRow.holds Try.pinned (OpenSpec.upto markerConservesSpec)

/-- 'rollbacknetlaw23.MarkerUnseen', WHERE WHAT IT READS IS OF BULK AT MOST 1048576: true; the input reads as it did. -/
def markerUnseenUptoRow : OpenClaim := { program := "ytkaofbjppibdkaa", sum := "7dc0cdda67390ffca5c457f86ba95b371537960e71ca7ab52e333a1e119a960e", func := "rollbacknet/rollbacknetlaw23.MarkerUnseen", spec := "markerUnseen", unfollowed := true, recurses := true, apart := false, narrowed := true }
def MarkerUnseenUptoSaid : Prop := markerUnseenUptoRow.holds Try.pinned (OpenSpec.upto markerUnseenSpec)

/-- 'rollbacknetlaw23.MarkerEnds', WHERE WHAT IT READS IS OF BULK AT MOST 1048576: true; the input reads as it did. -/
def markerEndsUptoRow : OpenClaim := { program := "ytkaofbjppibdkaa", sum := "7dc0cdda67390ffca5c457f86ba95b371537960e71ca7ab52e333a1e119a960e", func := "rollbacknet/rollbacknetlaw23.MarkerEnds", spec := "markerEnds", unfollowed := true, recurses := true, apart := false, narrowed := true }
def MarkerEndsUptoSaid : Prop := markerEndsUptoRow.holds Try.pinned (OpenSpec.upto markerEndsSpec)

/-- 'rollbacknetlaw23.MarkerCuts', WHERE WHAT IT READS IS OF BULK AT MOST 1048576: true; the input reads as it did. -/
def markerCutsUptoRow : OpenClaim := { program := "ytkaofbjppibdkaa", sum := "7dc0cdda67390ffca5c457f86ba95b371537960e71ca7ab52e333a1e119a960e", func := "rollbacknet/rollbacknetlaw23.MarkerCuts", spec := "markerCuts", unfollowed := true, recurses := true, apart := false, narrowed := true }
def MarkerCutsUptoSaid : Prop := markerCutsUptoRow.holds Try.pinned (OpenSpec.upto markerCutsSpec)

end Rows
end Go.Proofs.Ytkaofbjppibdkaa
