/-
  No cell of these rows narrows 'for every input' (looked for: loops, veiled, ifaces, maps, wideKeys, modest, calm, conditions, laid).
  DERIVED. THE GIVEN ROWS OF THIS SEAT. 8 by the template 'for every input the law returns true; each argument reads behind the call as it read before'; 0 by the template 'total and deterministic' (their statements: YtmjmdncdmmcmaaaTotals.lean).
  GIVEN WITH THE SEED: the statements are not yours to turn. If you find one false, say at which input.
  Laid BY PROGRAM, IN A SANDBOX (cutbox-rows.mjs): the forced cells as the released guide's own fill.sh prints them over the translation 08e6c403865c7c17… (all of the seat's roots in one cut). By AI agents, Wed Nov 11 2026. No macro, syntax, notation, axiom, sorry.
-/
import Derived.Test.YtmjmdncdmmcmaaaChecked
import GoSem.Claim
import GoSem.ClaimJoined
import GoSem.ClaimMapViews
import Derived.JoinedTies
import Derived.KernelRfl
namespace Go.Proofs.Ytmjmdncdmmcmaaa
/- THE CELL 'sum', in the pinned program and in every row, IS THE sha256 OF THE DUMP (.gsa) THAT YtmjmdncdmmcmaaaProg.lean LOADS. Nothing in Lean hashes anything: it is a label: what it is worth is what the hold of that sum in a sandbox is worth. -/
noncomputable def Try.pinned : Pinned := { name := "ytmjmdncdmmcmaaa", sum := "08e6c403865c7c179eac3c32c73fca62eb7241abd2538f206adb5e315b1ae7c9", checked := Try.checked }
namespace Rows
def none {H : Type} : Left H := { results := [], args := [] }

/-- 'rollbacknetlaw07.ImageComposes': WHATEVER THE INPUT: true; the input reads as it did. -/
def imageComposesSpec : ChangeSpec := { name := "imageComposes", fn := fun _ => fun
  | [d1, d2, d3] => { results := [.lit (.bool true)], args := [d1, d2, d3] }
  | _ => none }
def imageComposesRow : OpenClaim := { program := "ytmjmdncdmmcmaaa", sum := "08e6c403865c7c179eac3c32c73fca62eb7241abd2538f206adb5e315b1ae7c9", func := "rollbacknet/rollbacknetlaw07.ImageComposes", spec := "imageComposes", recurses := true, apart := false }
def ImageComposesSaid : Prop := imageComposesRow.holds Try.pinned (OpenSpec.ofChange imageComposesSpec)

/-- ITS FALSE NEIGHBOUR: 'it returns false'. Refute it at one input. -/
def imageComposesWrong : ChangeSpec := { name := "imageComposes", fn := fun _ => fun
  | [d1, d2, d3] => { results := [.lit (.bool false)], args := [d1, d2, d3] }
  | _ => none }
def ImageComposesWrongFalsely : Prop := imageComposesRow.holds Try.pinned (OpenSpec.ofChange imageComposesWrong)

/-- 'rollbacknetlaw07.ImageChains': WHATEVER THE INPUT: true; the input reads as it did. -/
def imageChainsSpec : ChangeSpec := { name := "imageChains", fn := fun _ => fun
  | [d1, d2] => { results := [.lit (.bool true)], args := [d1, d2] }
  | _ => none }
def imageChainsRow : OpenClaim := { program := "ytmjmdncdmmcmaaa", sum := "08e6c403865c7c179eac3c32c73fca62eb7241abd2538f206adb5e315b1ae7c9", func := "rollbacknet/rollbacknetlaw07.ImageChains", spec := "imageChains", recurses := true, apart := false }
def ImageChainsSaid : Prop := imageChainsRow.holds Try.pinned (OpenSpec.ofChange imageChainsSpec)

/-- ITS FALSE NEIGHBOUR: 'it returns false'. Refute it at one input. -/
def imageChainsWrong : ChangeSpec := { name := "imageChains", fn := fun _ => fun
  | [d1, d2] => { results := [.lit (.bool false)], args := [d1, d2] }
  | _ => none }
def ImageChainsWrongFalsely : Prop := imageChainsRow.holds Try.pinned (OpenSpec.ofChange imageChainsWrong)

/-- 'rollbacknetlaw24.TwophaseLeast': WHATEVER THE INPUT: true; the input reads as it did. -/
def twophaseLeastSpec : ChangeSpec := { name := "twophaseLeast", fn := fun _ => fun
  | [d1, d2] => { results := [.lit (.bool true)], args := [d1, d2] }
  | _ => none }
def twophaseLeastRow : OpenClaim := { program := "ytmjmdncdmmcmaaa", sum := "08e6c403865c7c179eac3c32c73fca62eb7241abd2538f206adb5e315b1ae7c9", func := "rollbacknet/rollbacknetlaw24.TwophaseLeast", spec := "twophaseLeast", unfollowed := true, recurses := true, apart := false }
def TwophaseLeastSaid : Prop := twophaseLeastRow.holds Try.pinned (OpenSpec.ofChange twophaseLeastSpec)

/-- ITS FALSE NEIGHBOUR: 'it returns false'. Refute it at one input. -/
def twophaseLeastWrong : ChangeSpec := { name := "twophaseLeast", fn := fun _ => fun
  | [d1, d2] => { results := [.lit (.bool false)], args := [d1, d2] }
  | _ => none }
def TwophaseLeastWrongFalsely : Prop := twophaseLeastRow.holds Try.pinned (OpenSpec.ofChange twophaseLeastWrong)

/-- 'rollbacknetlaw24.TwophaseMutual': WHATEVER THE INPUT: true; the input reads as it did. -/
def twophaseMutualSpec : ChangeSpec := { name := "twophaseMutual", fn := fun _ => fun
  | [d1, d2] => { results := [.lit (.bool true)], args := [d1, d2] }
  | _ => none }
def twophaseMutualRow : OpenClaim := { program := "ytmjmdncdmmcmaaa", sum := "08e6c403865c7c179eac3c32c73fca62eb7241abd2538f206adb5e315b1ae7c9", func := "rollbacknet/rollbacknetlaw24.TwophaseMutual", spec := "twophaseMutual", unfollowed := true, recurses := true, apart := false }
def TwophaseMutualSaid : Prop := twophaseMutualRow.holds Try.pinned (OpenSpec.ofChange twophaseMutualSpec)

/-- ITS FALSE NEIGHBOUR: 'it returns false'. Refute it at one input. -/
def twophaseMutualWrong : ChangeSpec := { name := "twophaseMutual", fn := fun _ => fun
  | [d1, d2] => { results := [.lit (.bool false)], args := [d1, d2] }
  | _ => none }
def TwophaseMutualWrongFalsely : Prop := twophaseMutualRow.holds Try.pinned (OpenSpec.ofChange twophaseMutualWrong)

/-- 'rollbacknetlaw24.TwophaseOrders': WHATEVER THE INPUT: true; the input reads as it did. -/
def twophaseOrdersSpec : ChangeSpec := { name := "twophaseOrders", fn := fun _ => fun
  | [d1, d2, d3, d4, d5] => { results := [.lit (.bool true)], args := [d1, d2, d3, d4, d5] }
  | _ => none }
def twophaseOrdersRow : OpenClaim := { program := "ytmjmdncdmmcmaaa", sum := "08e6c403865c7c179eac3c32c73fca62eb7241abd2538f206adb5e315b1ae7c9", func := "rollbacknet/rollbacknetlaw24.TwophaseOrders", spec := "twophaseOrders", unfollowed := true, recurses := true, apart := false }
def TwophaseOrdersSaid : Prop := twophaseOrdersRow.holds Try.pinned (OpenSpec.ofChange twophaseOrdersSpec)

/-- ITS FALSE NEIGHBOUR: 'it returns false'. Refute it at one input. -/
def twophaseOrdersWrong : ChangeSpec := { name := "twophaseOrders", fn := fun _ => fun
  | [d1, d2, d3, d4, d5] => { results := [.lit (.bool false)], args := [d1, d2, d3, d4, d5] }
  | _ => none }
def TwophaseOrdersWrongFalsely : Prop := twophaseOrdersRow.holds Try.pinned (OpenSpec.ofChange twophaseOrdersWrong)

/-- 'rollbacknetlaw24.TwophaseDelivers': WHATEVER THE INPUT: true; the input reads as it did. -/
def twophaseDeliversSpec : ChangeSpec := { name := "twophaseDelivers", fn := fun _ => fun
  | [d1, d2, d3, d4, d5] => { results := [.lit (.bool true)], args := [d1, d2, d3, d4, d5] }
  | _ => none }
def twophaseDeliversRow : OpenClaim := { program := "ytmjmdncdmmcmaaa", sum := "08e6c403865c7c179eac3c32c73fca62eb7241abd2538f206adb5e315b1ae7c9", func := "rollbacknet/rollbacknetlaw24.TwophaseDelivers", spec := "twophaseDelivers", unfollowed := true, recurses := true, apart := false }
def TwophaseDeliversSaid : Prop := twophaseDeliversRow.holds Try.pinned (OpenSpec.ofChange twophaseDeliversSpec)

/-- ITS FALSE NEIGHBOUR: 'it returns false'. Refute it at one input. -/
def twophaseDeliversWrong : ChangeSpec := { name := "twophaseDelivers", fn := fun _ => fun
  | [d1, d2, d3, d4, d5] => { results := [.lit (.bool false)], args := [d1, d2, d3, d4, d5] }
  | _ => none }
def TwophaseDeliversWrongFalsely : Prop := twophaseDeliversRow.holds Try.pinned (OpenSpec.ofChange twophaseDeliversWrong)

/-- 'rollbacknetlaw24.TwophaseAborts': WHATEVER THE INPUT: true; the input reads as it did. -/
def twophaseAbortsSpec : ChangeSpec := { name := "twophaseAborts", fn := fun _ => fun
  | [d1, d2, d3, d4] => { results := [.lit (.bool true)], args := [d1, d2, d3, d4] }
  | _ => none }
def twophaseAbortsRow : OpenClaim := { program := "ytmjmdncdmmcmaaa", sum := "08e6c403865c7c179eac3c32c73fca62eb7241abd2538f206adb5e315b1ae7c9", func := "rollbacknet/rollbacknetlaw24.TwophaseAborts", spec := "twophaseAborts", unfollowed := true, recurses := true, apart := false }
def TwophaseAbortsSaid : Prop := twophaseAbortsRow.holds Try.pinned (OpenSpec.ofChange twophaseAbortsSpec)

/-- ITS FALSE NEIGHBOUR: 'it returns false'. Refute it at one input. -/
def twophaseAbortsWrong : ChangeSpec := { name := "twophaseAborts", fn := fun _ => fun
  | [d1, d2, d3, d4] => { results := [.lit (.bool false)], args := [d1, d2, d3, d4] }
  | _ => none }
def TwophaseAbortsWrongFalsely : Prop := twophaseAbortsRow.holds Try.pinned (OpenSpec.ofChange twophaseAbortsWrong)

/-- 'rollbacknetlaw24.TwophaseCommits': WHATEVER THE INPUT: true; the input reads as it did. -/
def twophaseCommitsSpec : ChangeSpec := { name := "twophaseCommits", fn := fun _ => fun
  | [d1, d2, d3] => { results := [.lit (.bool true)], args := [d1, d2, d3] }
  | _ => none }
def twophaseCommitsRow : OpenClaim := { program := "ytmjmdncdmmcmaaa", sum := "08e6c403865c7c179eac3c32c73fca62eb7241abd2538f206adb5e315b1ae7c9", func := "rollbacknet/rollbacknetlaw24.TwophaseCommits", spec := "twophaseCommits", unfollowed := true, recurses := true, apart := false }
def TwophaseCommitsSaid : Prop := twophaseCommitsRow.holds Try.pinned (OpenSpec.ofChange twophaseCommitsSpec)

/-- ITS FALSE NEIGHBOUR: 'it returns false'. Refute it at one input. -/
def twophaseCommitsWrong : ChangeSpec := { name := "twophaseCommits", fn := fun _ => fun
  | [d1, d2, d3] => { results := [.lit (.bool false)], args := [d1, d2, d3] }
  | _ => none }
def TwophaseCommitsWrongFalsely : Prop := twophaseCommitsRow.holds Try.pinned (OpenSpec.ofChange twophaseCommitsWrong)

/- THE SECOND FORM. 'bulk': how many values and letters a reading holds, each counted each time it is reached (what is shared counts as often as it is met; a slice's spare places count too). A statement '..UptoSaid' is the law's where the arguments, and the package variables that the reading takes, are together of bulk at most 1048576: NARROWER than '..Said'. Prove '..Said' where nothing that the law and all that it calls make is longer than what came in: it says more and counts as full. Else prove '..UptoSaid'. A law counts once. -/
mutual
def uptoBulk {H : Type} : DataW H → Nat
  | .lit (.string bytes) => bytes.length + 1
  | .lit _ => 1
  | .nil => 1
  | .ptr d => uptoBulk d + 1
  | .slice elems spare => uptoBulkAll elems + uptoBulkAll spare + 1
  | .agg parts => uptoBulkAll parts + 1
  | .iface _ d => uptoBulk d + 1
  | .map entries => uptoBulkEntries entries + 1
  | .held _ => 1
def uptoBulkAll {H : Type} : List (DataW H) → Nat
  | [] => 0
  | d :: r => uptoBulk d + uptoBulkAll r
def uptoBulkEntries {H : Type} : List (Lit × DataW H) → Nat
  | [] => 0
  | x :: r => uptoBulkEntry x + uptoBulkEntries r
def uptoBulkEntry {H : Type} : Lit × DataW H → Nat
  | (.string bytes, d) => bytes.length + uptoBulk d + 1
  | (_, d) => uptoBulk d + 1
 end
def uptoSmall : (H : Type) → List (DataW H) → Bool := fun _ ds => decide (uptoBulkAll ds ≤ 1048576)
def OpenSpec.upto (s : _root_.Go.ChangeSpec) : _root_.Go.OpenSpec := { _root_.Go.OpenSpec.ofChange s with cond := some uptoSmall }

/-- 'rollbacknetlaw07.ImageComposes', WHERE WHAT IT READS IS OF BULK AT MOST 1048576: true; the input reads as it did. -/
def imageComposesUptoRow : OpenClaim := { program := "ytmjmdncdmmcmaaa", sum := "08e6c403865c7c179eac3c32c73fca62eb7241abd2538f206adb5e315b1ae7c9", func := "rollbacknet/rollbacknetlaw07.ImageComposes", spec := "imageComposes", recurses := true, apart := false, narrowed := true }
def ImageComposesUptoSaid : Prop := imageComposesUptoRow.holds Try.pinned (OpenSpec.upto imageComposesSpec)

/-- 'rollbacknetlaw07.ImageChains', WHERE WHAT IT READS IS OF BULK AT MOST 1048576: true; the input reads as it did. -/
def imageChainsUptoRow : OpenClaim := { program := "ytmjmdncdmmcmaaa", sum := "08e6c403865c7c179eac3c32c73fca62eb7241abd2538f206adb5e315b1ae7c9", func := "rollbacknet/rollbacknetlaw07.ImageChains", spec := "imageChains", recurses := true, apart := false, narrowed := true }
def ImageChainsUptoSaid : Prop := imageChainsUptoRow.holds Try.pinned (OpenSpec.upto imageChainsSpec)

/-- 'rollbacknetlaw24.TwophaseLeast', WHERE WHAT IT READS IS OF BULK AT MOST 1048576: true; the input reads as it did. -/
def twophaseLeastUptoRow : OpenClaim := { program := "ytmjmdncdmmcmaaa", sum := "08e6c403865c7c179eac3c32c73fca62eb7241abd2538f206adb5e315b1ae7c9", func := "rollbacknet/rollbacknetlaw24.TwophaseLeast", spec := "twophaseLeast", unfollowed := true, recurses := true, apart := false, narrowed := true }
def TwophaseLeastUptoSaid : Prop := twophaseLeastUptoRow.holds Try.pinned (OpenSpec.upto twophaseLeastSpec)

/-- 'rollbacknetlaw24.TwophaseMutual', WHERE WHAT IT READS IS OF BULK AT MOST 1048576: true; the input reads as it did. -/
def twophaseMutualUptoRow : OpenClaim := { program := "ytmjmdncdmmcmaaa", sum := "08e6c403865c7c179eac3c32c73fca62eb7241abd2538f206adb5e315b1ae7c9", func := "rollbacknet/rollbacknetlaw24.TwophaseMutual", spec := "twophaseMutual", unfollowed := true, recurses := true, apart := false, narrowed := true }
def TwophaseMutualUptoSaid : Prop := twophaseMutualUptoRow.holds Try.pinned (OpenSpec.upto twophaseMutualSpec)

/-- 'rollbacknetlaw24.TwophaseOrders', WHERE WHAT IT READS IS OF BULK AT MOST 1048576: true; the input reads as it did. -/
def twophaseOrdersUptoRow : OpenClaim := { program := "ytmjmdncdmmcmaaa", sum := "08e6c403865c7c179eac3c32c73fca62eb7241abd2538f206adb5e315b1ae7c9", func := "rollbacknet/rollbacknetlaw24.TwophaseOrders", spec := "twophaseOrders", unfollowed := true, recurses := true, apart := false, narrowed := true }
def TwophaseOrdersUptoSaid : Prop := twophaseOrdersUptoRow.holds Try.pinned (OpenSpec.upto twophaseOrdersSpec)

/-- 'rollbacknetlaw24.TwophaseDelivers', WHERE WHAT IT READS IS OF BULK AT MOST 1048576: true; the input reads as it did. -/
def twophaseDeliversUptoRow : OpenClaim := { program := "ytmjmdncdmmcmaaa", sum := "08e6c403865c7c179eac3c32c73fca62eb7241abd2538f206adb5e315b1ae7c9", func := "rollbacknet/rollbacknetlaw24.TwophaseDelivers", spec := "twophaseDelivers", unfollowed := true, recurses := true, apart := false, narrowed := true }
def TwophaseDeliversUptoSaid : Prop := twophaseDeliversUptoRow.holds Try.pinned (OpenSpec.upto twophaseDeliversSpec)

/-- 'rollbacknetlaw24.TwophaseAborts', WHERE WHAT IT READS IS OF BULK AT MOST 1048576: true; the input reads as it did. -/
def twophaseAbortsUptoRow : OpenClaim := { program := "ytmjmdncdmmcmaaa", sum := "08e6c403865c7c179eac3c32c73fca62eb7241abd2538f206adb5e315b1ae7c9", func := "rollbacknet/rollbacknetlaw24.TwophaseAborts", spec := "twophaseAborts", unfollowed := true, recurses := true, apart := false, narrowed := true }
def TwophaseAbortsUptoSaid : Prop := twophaseAbortsUptoRow.holds Try.pinned (OpenSpec.upto twophaseAbortsSpec)

/-- 'rollbacknetlaw24.TwophaseCommits', WHERE WHAT IT READS IS OF BULK AT MOST 1048576: true; the input reads as it did. -/
def twophaseCommitsUptoRow : OpenClaim := { program := "ytmjmdncdmmcmaaa", sum := "08e6c403865c7c179eac3c32c73fca62eb7241abd2538f206adb5e315b1ae7c9", func := "rollbacknet/rollbacknetlaw24.TwophaseCommits", spec := "twophaseCommits", unfollowed := true, recurses := true, apart := false, narrowed := true }
def TwophaseCommitsUptoSaid : Prop := twophaseCommitsUptoRow.holds Try.pinned (OpenSpec.upto twophaseCommitsSpec)

end Rows
end Go.Proofs.Ytmjmdncdmmcmaaa
