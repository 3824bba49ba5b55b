/-
  No cell of these rows narrows 'for every input' (looked for: loops, veiled, ifaces, maps, wideKeys, modest, calm, conditions, laid).
  DERIVED. THE GIVEN ROWS OF THIS SEAT. 12 by the template 'for every input the law returns true; each argument reads behind the call as it read before'; 0 by the template 'total and deterministic' (their statements: YtjclgbkfnliiaaaTotals.lean).
  GIVEN WITH THE SEED: the statements are not yours to turn. If you find one false, say at which input.
  Laid BY PROGRAM, IN A SANDBOX (cutbox-rows.mjs): the forced cells as the released guide's own fill.sh prints them over the translation b7eb9c215fbf6c1b… (all of the seat's roots in one cut). By AI agents, Wed Nov 11 2026. No macro, syntax, notation, axiom, sorry.
-/
import Derived.Test.YtjclgbkfnliiaaaChecked
import GoSem.Claim
import GoSem.ClaimJoined
import GoSem.ClaimMapViews
import Derived.JoinedTies
import Derived.KernelRfl
namespace Go.Proofs.Ytjclgbkfnliiaaa
/- THE CELL 'sum', in the pinned program and in every row, IS THE sha256 OF THE DUMP (.gsa) THAT YtjclgbkfnliiaaaProg.lean LOADS. Nothing in Lean hashes anything: it is a label: what it is worth is what the hold of that sum in a sandbox is worth. -/
noncomputable def Try.pinned : Pinned := { name := "ytjclgbkfnliiaaa", sum := "b7eb9c215fbf6c1b616ce2927181a7e59397357d635a780a04e78f367ee33927", checked := Try.checked }
namespace Rows
def none {H : Type} : Left H := { results := [], args := [] }

/-- 'rollbacknetlaw16.PatternIntervals': WHATEVER THE INPUT: true; the input reads as it did. -/
def patternIntervalsSpec : ChangeSpec := { name := "patternIntervals", fn := fun _ => fun
  | [d1, d2] => { results := [.lit (.bool true)], args := [d1, d2] }
  | _ => none }
def patternIntervalsRow : OpenClaim := { program := "ytjclgbkfnliiaaa", sum := "b7eb9c215fbf6c1b616ce2927181a7e59397357d635a780a04e78f367ee33927", func := "rollbacknet/rollbacknetlaw16.PatternIntervals", spec := "patternIntervals", unfollowed := true, recurses := true, plainKeys := false, apart := false }
def PatternIntervalsSaid : Prop := patternIntervalsRow.holds Try.pinned (OpenSpec.ofChange patternIntervalsSpec)

/-- ITS FALSE NEIGHBOUR: 'it returns false'. Refute it at one input. -/
def patternIntervalsWrong : ChangeSpec := { name := "patternIntervals", fn := fun _ => fun
  | [d1, d2] => { results := [.lit (.bool false)], args := [d1, d2] }
  | _ => none }
def PatternIntervalsWrongFalsely : Prop := patternIntervalsRow.holds Try.pinned (OpenSpec.ofChange patternIntervalsWrong)

/-- 'rollbacknetlaw16.PatternGrows': WHATEVER THE INPUT: true; the input reads as it did. -/
def patternGrowsSpec : ChangeSpec := { name := "patternGrows", fn := fun _ => fun
  | [d1, d2, d3, d4] => { results := [.lit (.bool true)], args := [d1, d2, d3, d4] }
  | _ => none }
def patternGrowsRow : OpenClaim := { program := "ytjclgbkfnliiaaa", sum := "b7eb9c215fbf6c1b616ce2927181a7e59397357d635a780a04e78f367ee33927", func := "rollbacknet/rollbacknetlaw16.PatternGrows", spec := "patternGrows", unfollowed := true, recurses := true, plainKeys := false, apart := false }
def PatternGrowsSaid : Prop := patternGrowsRow.holds Try.pinned (OpenSpec.ofChange patternGrowsSpec)

/-- ITS FALSE NEIGHBOUR: 'it returns false'. Refute it at one input. -/
def patternGrowsWrong : ChangeSpec := { name := "patternGrows", fn := fun _ => fun
  | [d1, d2, d3, d4] => { results := [.lit (.bool false)], args := [d1, d2, d3, d4] }
  | _ => none }
def PatternGrowsWrongFalsely : Prop := patternGrowsRow.holds Try.pinned (OpenSpec.ofChange patternGrowsWrong)

/-- 'rollbacknetlaw18.CutMoves': WHATEVER THE INPUT: true; the input reads as it did. -/
def cutMovesSpec : ChangeSpec := { name := "cutMoves", fn := fun _ => fun
  | [d] => { results := [.lit (.bool true)], args := [d] }
  | _ => none }
def cutMovesRow : OpenClaim := { program := "ytjclgbkfnliiaaa", sum := "b7eb9c215fbf6c1b616ce2927181a7e59397357d635a780a04e78f367ee33927", func := "rollbacknet/rollbacknetlaw18.CutMoves", spec := "cutMoves", unfollowed := true, recurses := true, plainKeys := false, apart := false }
def CutMovesSaid : Prop := cutMovesRow.holds Try.pinned (OpenSpec.ofChange cutMovesSpec)

/-- ITS FALSE NEIGHBOUR: 'it returns false'. Refute it at one input. -/
def cutMovesWrong : ChangeSpec := { name := "cutMoves", fn := fun _ => fun
  | [d] => { results := [.lit (.bool false)], args := [d] }
  | _ => none }
def CutMovesWrongFalsely : Prop := cutMovesRow.holds Try.pinned (OpenSpec.ofChange cutMovesWrong)

/-- 'rollbacknetlaw18.CutAsks': WHATEVER THE INPUT: true; the input reads as it did. -/
def cutAsksSpec : ChangeSpec := { name := "cutAsks", fn := fun _ => fun
  | [d1, d2] => { results := [.lit (.bool true)], args := [d1, d2] }
  | _ => none }
def cutAsksRow : OpenClaim := { program := "ytjclgbkfnliiaaa", sum := "b7eb9c215fbf6c1b616ce2927181a7e59397357d635a780a04e78f367ee33927", func := "rollbacknet/rollbacknetlaw18.CutAsks", spec := "cutAsks", unfollowed := true, recurses := true, plainKeys := false, apart := false }
def CutAsksSaid : Prop := cutAsksRow.holds Try.pinned (OpenSpec.ofChange cutAsksSpec)

/-- ITS FALSE NEIGHBOUR: 'it returns false'. Refute it at one input. -/
def cutAsksWrong : ChangeSpec := { name := "cutAsks", fn := fun _ => fun
  | [d1, d2] => { results := [.lit (.bool false)], args := [d1, d2] }
  | _ => none }
def CutAsksWrongFalsely : Prop := cutAsksRow.holds Try.pinned (OpenSpec.ofChange cutAsksWrong)

/-- 'rollbacknetlaw18.CutFixed': WHATEVER THE INPUT: true; the input reads as it did. -/
def cutFixedSpec : ChangeSpec := { name := "cutFixed", fn := fun _ => fun
  | [d] => { results := [.lit (.bool true)], args := [d] }
  | _ => none }
def cutFixedRow : OpenClaim := { program := "ytjclgbkfnliiaaa", sum := "b7eb9c215fbf6c1b616ce2927181a7e59397357d635a780a04e78f367ee33927", func := "rollbacknet/rollbacknetlaw18.CutFixed", spec := "cutFixed", unfollowed := true, recurses := true, plainKeys := false, apart := false }
def CutFixedSaid : Prop := cutFixedRow.holds Try.pinned (OpenSpec.ofChange cutFixedSpec)

/-- ITS FALSE NEIGHBOUR: 'it returns false'. Refute it at one input. -/
def cutFixedWrong : ChangeSpec := { name := "cutFixed", fn := fun _ => fun
  | [d] => { results := [.lit (.bool false)], args := [d] }
  | _ => none }
def CutFixedWrongFalsely : Prop := cutFixedRow.holds Try.pinned (OpenSpec.ofChange cutFixedWrong)

/-- 'rollbacknetlaw16.PatternCuts': WHATEVER THE INPUT: true; the input reads as it did. -/
def patternCutsSpec : ChangeSpec := { name := "patternCuts", fn := fun _ => fun
  | [d1, d2] => { results := [.lit (.bool true)], args := [d1, d2] }
  | _ => none }
def patternCutsRow : OpenClaim := { program := "ytjclgbkfnliiaaa", sum := "b7eb9c215fbf6c1b616ce2927181a7e59397357d635a780a04e78f367ee33927", func := "rollbacknet/rollbacknetlaw16.PatternCuts", spec := "patternCuts", unfollowed := true, recurses := true, plainKeys := false, apart := false }
def PatternCutsSaid : Prop := patternCutsRow.holds Try.pinned (OpenSpec.ofChange patternCutsSpec)

/-- ITS FALSE NEIGHBOUR: 'it returns false'. Refute it at one input. -/
def patternCutsWrong : ChangeSpec := { name := "patternCuts", fn := fun _ => fun
  | [d1, d2] => { results := [.lit (.bool false)], args := [d1, d2] }
  | _ => none }
def PatternCutsWrongFalsely : Prop := patternCutsRow.holds Try.pinned (OpenSpec.ofChange patternCutsWrong)

/-- 'rollbacknetlaw18.CutBrute': WHATEVER THE INPUT: true; the input reads as it did. -/
def cutBruteSpec : ChangeSpec := { name := "cutBrute", fn := fun _ => fun
  | [d1, d2] => { results := [.lit (.bool true)], args := [d1, d2] }
  | _ => none }
def cutBruteRow : OpenClaim := { program := "ytjclgbkfnliiaaa", sum := "b7eb9c215fbf6c1b616ce2927181a7e59397357d635a780a04e78f367ee33927", func := "rollbacknet/rollbacknetlaw18.CutBrute", spec := "cutBrute", unfollowed := true, recurses := true, plainKeys := false, apart := false }
def CutBruteSaid : Prop := cutBruteRow.holds Try.pinned (OpenSpec.ofChange cutBruteSpec)

/-- ITS FALSE NEIGHBOUR: 'it returns false'. Refute it at one input. -/
def cutBruteWrong : ChangeSpec := { name := "cutBrute", fn := fun _ => fun
  | [d1, d2] => { results := [.lit (.bool false)], args := [d1, d2] }
  | _ => none }
def CutBruteWrongFalsely : Prop := cutBruteRow.holds Try.pinned (OpenSpec.ofChange cutBruteWrong)

/-- 'rollbacknetlaw16.PatternStays': WHATEVER THE INPUT: true; the input reads as it did. -/
def patternStaysSpec : ChangeSpec := { name := "patternStays", fn := fun _ => fun
  | [d1, d2, d3, d4] => { results := [.lit (.bool true)], args := [d1, d2, d3, d4] }
  | _ => none }
def patternStaysRow : OpenClaim := { program := "ytjclgbkfnliiaaa", sum := "b7eb9c215fbf6c1b616ce2927181a7e59397357d635a780a04e78f367ee33927", func := "rollbacknet/rollbacknetlaw16.PatternStays", spec := "patternStays", unfollowed := true, recurses := true, plainKeys := false, apart := false }
def PatternStaysSaid : Prop := patternStaysRow.holds Try.pinned (OpenSpec.ofChange patternStaysSpec)

/-- ITS FALSE NEIGHBOUR: 'it returns false'. Refute it at one input. -/
def patternStaysWrong : ChangeSpec := { name := "patternStays", fn := fun _ => fun
  | [d1, d2, d3, d4] => { results := [.lit (.bool false)], args := [d1, d2, d3, d4] }
  | _ => none }
def PatternStaysWrongFalsely : Prop := patternStaysRow.holds Try.pinned (OpenSpec.ofChange patternStaysWrong)

/-- 'rollbacknetlaw16.PatternParts': WHATEVER THE INPUT: true; the input reads as it did. -/
def patternPartsSpec : ChangeSpec := { name := "patternParts", fn := fun _ => fun
  | [d1, d2] => { results := [.lit (.bool true)], args := [d1, d2] }
  | _ => none }
def patternPartsRow : OpenClaim := { program := "ytjclgbkfnliiaaa", sum := "b7eb9c215fbf6c1b616ce2927181a7e59397357d635a780a04e78f367ee33927", func := "rollbacknet/rollbacknetlaw16.PatternParts", spec := "patternParts", unfollowed := true, recurses := true, plainKeys := false, apart := false }
def PatternPartsSaid : Prop := patternPartsRow.holds Try.pinned (OpenSpec.ofChange patternPartsSpec)

/-- ITS FALSE NEIGHBOUR: 'it returns false'. Refute it at one input. -/
def patternPartsWrong : ChangeSpec := { name := "patternParts", fn := fun _ => fun
  | [d1, d2] => { results := [.lit (.bool false)], args := [d1, d2] }
  | _ => none }
def PatternPartsWrongFalsely : Prop := patternPartsRow.holds Try.pinned (OpenSpec.ofChange patternPartsWrong)

/-- 'rollbacknetlaw18.CutLists': WHATEVER THE INPUT: true; the input reads as it did. -/
def cutListsSpec : ChangeSpec := { name := "cutLists", fn := fun _ => fun
  | [d1, d2, d3] => { results := [.lit (.bool true)], args := [d1, d2, d3] }
  | _ => none }
def cutListsRow : OpenClaim := { program := "ytjclgbkfnliiaaa", sum := "b7eb9c215fbf6c1b616ce2927181a7e59397357d635a780a04e78f367ee33927", func := "rollbacknet/rollbacknetlaw18.CutLists", spec := "cutLists", unfollowed := true, recurses := true, plainKeys := false, apart := false }
def CutListsSaid : Prop := cutListsRow.holds Try.pinned (OpenSpec.ofChange cutListsSpec)

/-- ITS FALSE NEIGHBOUR: 'it returns false'. Refute it at one input. -/
def cutListsWrong : ChangeSpec := { name := "cutLists", fn := fun _ => fun
  | [d1, d2, d3] => { results := [.lit (.bool false)], args := [d1, d2, d3] }
  | _ => none }
def CutListsWrongFalsely : Prop := cutListsRow.holds Try.pinned (OpenSpec.ofChange cutListsWrong)

/-- 'rollbacknetlaw18.CutLattice': WHATEVER THE INPUT: true; the input reads as it did. -/
def cutLatticeSpec : ChangeSpec := { name := "cutLattice", fn := fun _ => fun
  | [d1, d2, d3] => { results := [.lit (.bool true)], args := [d1, d2, d3] }
  | _ => none }
def cutLatticeRow : OpenClaim := { program := "ytjclgbkfnliiaaa", sum := "b7eb9c215fbf6c1b616ce2927181a7e59397357d635a780a04e78f367ee33927", func := "rollbacknet/rollbacknetlaw18.CutLattice", spec := "cutLattice", unfollowed := true, recurses := true, plainKeys := false, apart := false }
def CutLatticeSaid : Prop := cutLatticeRow.holds Try.pinned (OpenSpec.ofChange cutLatticeSpec)

/-- ITS FALSE NEIGHBOUR: 'it returns false'. Refute it at one input. -/
def cutLatticeWrong : ChangeSpec := { name := "cutLattice", fn := fun _ => fun
  | [d1, d2, d3] => { results := [.lit (.bool false)], args := [d1, d2, d3] }
  | _ => none }
def CutLatticeWrongFalsely : Prop := cutLatticeRow.holds Try.pinned (OpenSpec.ofChange cutLatticeWrong)

/-- 'rollbacknetlaw18.CutPast': WHATEVER THE INPUT: true; the input reads as it did. -/
def cutPastSpec : ChangeSpec := { name := "cutPast", fn := fun _ => fun
  | [d] => { results := [.lit (.bool true)], args := [d] }
  | _ => none }
def cutPastRow : OpenClaim := { program := "ytjclgbkfnliiaaa", sum := "b7eb9c215fbf6c1b616ce2927181a7e59397357d635a780a04e78f367ee33927", func := "rollbacknet/rollbacknetlaw18.CutPast", spec := "cutPast", unfollowed := true, recurses := true, plainKeys := false, apart := false }
def CutPastSaid : Prop := cutPastRow.holds Try.pinned (OpenSpec.ofChange cutPastSpec)

/-- ITS FALSE NEIGHBOUR: 'it returns false'. Refute it at one input. -/
def cutPastWrong : ChangeSpec := { name := "cutPast", fn := fun _ => fun
  | [d] => { results := [.lit (.bool false)], args := [d] }
  | _ => none }
def CutPastWrongFalsely : Prop := cutPastRow.holds Try.pinned (OpenSpec.ofChange cutPastWrong)

/- THE SECOND FORM. 'bulk': how many values and letters a reading holds, each counted each time it is reached (what is shared counts as often as it is met; a slice's spare places count too). A statement '..UptoSaid' is the law's where the arguments, and the package variables that the reading takes, are together of bulk at most 1048576: NARROWER than '..Said'. Prove '..Said' where nothing that the law and all that it calls make is longer than what came in: it says more and counts as full. Else prove '..UptoSaid'. A law counts once. -/
mutual
def uptoBulk {H : Type} : DataW H → Nat
  | .lit (.string bytes) => bytes.length + 1
  | .lit _ => 1
  | .nil => 1
  | .ptr d => uptoBulk d + 1
  | .slice elems spare => uptoBulkAll elems + uptoBulkAll spare + 1
  | .agg parts => uptoBulkAll parts + 1
  | .iface _ d => uptoBulk d + 1
  | .map entries => uptoBulkEntries entries + 1
  | .held _ => 1
def uptoBulkAll {H : Type} : List (DataW H) → Nat
  | [] => 0
  | d :: r => uptoBulk d + uptoBulkAll r
def uptoBulkEntries {H : Type} : List (Lit × DataW H) → Nat
  | [] => 0
  | x :: r => uptoBulkEntry x + uptoBulkEntries r
def uptoBulkEntry {H : Type} : Lit × DataW H → Nat
  | (.string bytes, d) => bytes.length + uptoBulk d + 1
  | (_, d) => uptoBulk d + 1
 end
def uptoSmall : (H : Type) → List (DataW H) → Bool := fun _ ds => decide (uptoBulkAll ds ≤ 1048576)
def OpenSpec.upto (s : _root_.Go.ChangeSpec) : _root_.Go.OpenSpec := { _root_.Go.OpenSpec.ofChange s with cond := some uptoSmall }

/-- 'rollbacknetlaw16.PatternIntervals', WHERE WHAT IT READS IS OF BULK AT MOST 1048576: true; the input reads as it did. -/
def patternIntervalsUptoRow : OpenClaim := { program := "ytjclgbkfnliiaaa", sum := "b7eb9c215fbf6c1b616ce2927181a7e59397357d635a780a04e78f367ee33927", func := "rollbacknet/rollbacknetlaw16.PatternIntervals", spec := "patternIntervals", unfollowed := true, recurses := true, plainKeys := false, apart := false, narrowed := true }
def PatternIntervalsUptoSaid : Prop := patternIntervalsUptoRow.holds Try.pinned (OpenSpec.upto patternIntervalsSpec)

/-- 'rollbacknetlaw16.PatternGrows', WHERE WHAT IT READS IS OF BULK AT MOST 1048576: true; the input reads as it did. -/
def patternGrowsUptoRow : OpenClaim := { program := "ytjclgbkfnliiaaa", sum := "b7eb9c215fbf6c1b616ce2927181a7e59397357d635a780a04e78f367ee33927", func := "rollbacknet/rollbacknetlaw16.PatternGrows", spec := "patternGrows", unfollowed := true, recurses := true, plainKeys := false, apart := false, narrowed := true }
def PatternGrowsUptoSaid : Prop := patternGrowsUptoRow.holds Try.pinned (OpenSpec.upto patternGrowsSpec)

/-- 'rollbacknetlaw18.CutMoves', WHERE WHAT IT READS IS OF BULK AT MOST 1048576: true; the input reads as it did. -/
def cutMovesUptoRow : OpenClaim := { program := "ytjclgbkfnliiaaa", sum := "b7eb9c215fbf6c1b616ce2927181a7e59397357d635a780a04e78f367ee33927", func := "rollbacknet/rollbacknetlaw18.CutMoves", spec := "cutMoves", unfollowed := true, recurses := true, plainKeys := false, apart := false, narrowed := true }
def CutMovesUptoSaid : Prop := cutMovesUptoRow.holds Try.pinned (OpenSpec.upto cutMovesSpec)

/-- 'rollbacknetlaw18.CutAsks', WHERE WHAT IT READS IS OF BULK AT MOST 1048576: true; the input reads as it did. -/
def cutAsksUptoRow : OpenClaim := { program := "ytjclgbkfnliiaaa", sum := "b7eb9c215fbf6c1b616ce2927181a7e59397357d635a780a04e78f367ee33927", func := "rollbacknet/rollbacknetlaw18.CutAsks", spec := "cutAsks", unfollowed := true, recurses := true, plainKeys := false, apart := false, narrowed := true }
def CutAsksUptoSaid : Prop := cutAsksUptoRow.holds Try.pinned (OpenSpec.upto cutAsksSpec)

/-- 'rollbacknetlaw18.CutFixed', WHERE WHAT IT READS IS OF BULK AT MOST 1048576: true; the input reads as it did. -/
def cutFixedUptoRow : OpenClaim := { program := "ytjclgbkfnliiaaa", sum := "b7eb9c215fbf6c1b616ce2927181a7e59397357d635a780a04e78f367ee33927", func := "rollbacknet/rollbacknetlaw18.CutFixed", spec := "cutFixed", unfollowed := true, recurses := true, plainKeys := false, apart := false, narrowed := true }
def CutFixedUptoSaid : Prop := cutFixedUptoRow.holds Try.pinned (OpenSpec.upto cutFixedSpec)

/-- 'rollbacknetlaw16.PatternCuts', WHERE WHAT IT READS IS OF BULK AT MOST 1048576: true; the input reads as it did. -/
def patternCutsUptoRow : OpenClaim := { program := "ytjclgbkfnliiaaa", sum := "b7eb9c215fbf6c1b616ce2927181a7e59397357d635a780a04e78f367ee33927", func := "rollbacknet/rollbacknetlaw16.PatternCuts", spec := "patternCuts", unfollowed := true, recurses := true, plainKeys := false, apart := false, narrowed := true }
def PatternCutsUptoSaid : Prop := patternCutsUptoRow.holds Try.pinned (OpenSpec.upto patternCutsSpec)

/-- 'rollbacknetlaw18.CutBrute', WHERE WHAT IT READS IS OF BULK AT MOST 1048576: true; the input reads as it did. -/
def cutBruteUptoRow : OpenClaim := { program := "ytjclgbkfnliiaaa", sum := "b7eb9c215fbf6c1b616ce2927181a7e59397357d635a780a04e78f367ee33927", func := "rollbacknet/rollbacknetlaw18.CutBrute", spec := "cutBrute", unfollowed := true, recurses := true, plainKeys := false, apart := false, narrowed := true }
def CutBruteUptoSaid : Prop := cutBruteUptoRow.holds Try.pinned (OpenSpec.upto cutBruteSpec)

/-- 'rollbacknetlaw16.PatternStays', WHERE WHAT IT READS IS OF BULK AT MOST 1048576: true; the input reads as it did. -/
def patternStaysUptoRow : OpenClaim := { program := "ytjclgbkfnliiaaa", sum := "b7eb9c215fbf6c1b616ce2927181a7e59397357d635a780a04e78f367ee33927", func := "rollbacknet/rollbacknetlaw16.PatternStays", spec := "patternStays", unfollowed := true, recurses := true, plainKeys := false, apart := false, narrowed := true }
def PatternStaysUptoSaid : Prop := patternStaysUptoRow.holds Try.pinned (OpenSpec.upto patternStaysSpec)

/-- 'rollbacknetlaw16.PatternParts', WHERE WHAT IT READS IS OF BULK AT MOST 1048576: true; the input reads as it did. -/
def patternPartsUptoRow : OpenClaim := { program := "ytjclgbkfnliiaaa", sum := "b7eb9c215fbf6c1b616ce2927181a7e59397357d635a780a04e78f367ee33927", func := "rollbacknet/rollbacknetlaw16.PatternParts", spec := "patternParts", unfollowed := true, recurses := true, plainKeys := false, apart := false, narrowed := true }
def PatternPartsUptoSaid : Prop := patternPartsUptoRow.holds Try.pinned (OpenSpec.upto patternPartsSpec)

/-- 'rollbacknetlaw18.CutLists', WHERE WHAT IT READS IS OF BULK AT MOST 1048576: true; the input reads as it did. -/
def cutListsUptoRow : OpenClaim := { program := "ytjclgbkfnliiaaa", sum := "b7eb9c215fbf6c1b616ce2927181a7e59397357d635a780a04e78f367ee33927", func := "rollbacknet/rollbacknetlaw18.CutLists", spec := "cutLists", unfollowed := true, recurses := true, plainKeys := false, apart := false, narrowed := true }
def CutListsUptoSaid : Prop := cutListsUptoRow.holds Try.pinned (OpenSpec.upto cutListsSpec)

/-- 'rollbacknetlaw18.CutLattice', WHERE WHAT IT READS IS OF BULK AT MOST 1048576: true; the input reads as it did. -/
def cutLatticeUptoRow : OpenClaim := { program := "ytjclgbkfnliiaaa", sum := "b7eb9c215fbf6c1b616ce2927181a7e59397357d635a780a04e78f367ee33927", func := "rollbacknet/rollbacknetlaw18.CutLattice", spec := "cutLattice", unfollowed := true, recurses := true, plainKeys := false, apart := false, narrowed := true }
def CutLatticeUptoSaid : Prop := cutLatticeUptoRow.holds Try.pinned (OpenSpec.upto cutLatticeSpec)

/-- 'rollbacknetlaw18.CutPast', WHERE WHAT IT READS IS OF BULK AT MOST 1048576: true; the input reads as it did. -/
def cutPastUptoRow : OpenClaim := { program := "ytjclgbkfnliiaaa", sum := "b7eb9c215fbf6c1b616ce2927181a7e59397357d635a780a04e78f367ee33927", func := "rollbacknet/rollbacknetlaw18.CutPast", spec := "cutPast", unfollowed := true, recurses := true, plainKeys := false, apart := false, narrowed := true }
def CutPastUptoSaid : Prop := cutPastUptoRow.holds Try.pinned (OpenSpec.upto cutPastSpec)

end Rows
end Go.Proofs.Ytjclgbkfnliiaaa
