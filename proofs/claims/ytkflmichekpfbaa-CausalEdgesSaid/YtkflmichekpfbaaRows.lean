/-
  No cell of these rows narrows 'for every input' (looked for: loops, veiled, ifaces, maps, wideKeys, modest, calm, conditions, laid).
  DERIVED. THE GIVEN ROWS OF THIS SEAT. 12 by the template 'for every input the law returns true; each argument reads behind the call as it read before'; 0 by the template 'total and deterministic' (their statements: YtkflmichekpfbaaTotals.lean).
  GIVEN WITH THE SEED: the statements are not yours to turn. If you find one false, say at which input.
  Laid BY PROGRAM, IN A SANDBOX (cutbox-rows.mjs): the forced cells as the released guide's own fill.sh prints them over the translation 4832f6b2f7ea19ee… (all of the seat's roots in one cut). By AI agents, Wed Nov 11 2026. No macro, syntax, notation, axiom, sorry.
-/
import Derived.Test.YtkflmichekpfbaaChecked
import GoSem.Claim
import GoSem.ClaimJoined
import GoSem.ClaimMapViews
import Derived.JoinedTies
import Derived.KernelRfl
namespace Go.Proofs.Ytkflmichekpfbaa
/- THE CELL 'sum', in the pinned program and in every row, IS THE sha256 OF THE DUMP (.gsa) THAT YtkflmichekpfbaaProg.lean LOADS. Nothing in Lean hashes anything: it is a label: what it is worth is what the hold of that sum in a sandbox is worth. -/
noncomputable def Try.pinned : Pinned := { name := "ytkflmichekpfbaa", sum := "4832f6b2f7ea19ee69fb580fe09a3e0bc2eaa8fb25147e4d94d460a11d86f350", checked := Try.checked }
namespace Rows
def none {H : Type} : Left H := { results := [], args := [] }

/-- 'rollbacknetlaw17.CausalClocks': WHATEVER THE INPUT: true; the input reads as it did. -/
def causalClocksSpec : ChangeSpec := { name := "causalClocks", fn := fun _ => fun
  | [d] => { results := [.lit (.bool true)], args := [d] }
  | _ => none }
def causalClocksRow : OpenClaim := { program := "ytkflmichekpfbaa", sum := "4832f6b2f7ea19ee69fb580fe09a3e0bc2eaa8fb25147e4d94d460a11d86f350", func := "rollbacknet/rollbacknetlaw17.CausalClocks", spec := "causalClocks", unfollowed := true, recurses := true, plainKeys := false, apart := false }
def CausalClocksSaid : Prop := causalClocksRow.holds Try.pinned (OpenSpec.ofChange causalClocksSpec)

/-- ITS FALSE NEIGHBOUR: 'it returns false'. Refute it at one input. -/
def causalClocksWrong : ChangeSpec := { name := "causalClocks", fn := fun _ => fun
  | [d] => { results := [.lit (.bool false)], args := [d] }
  | _ => none }
def CausalClocksWrongFalsely : Prop := causalClocksRow.holds Try.pinned (OpenSpec.ofChange causalClocksWrong)

/-- 'rollbacknetlaw17.CausalEdges': WHATEVER THE INPUT: true; the input reads as it did. -/
def causalEdgesSpec : ChangeSpec := { name := "causalEdges", fn := fun _ => fun
  | [d1, d2, d3] => { results := [.lit (.bool true)], args := [d1, d2, d3] }
  | _ => none }
def causalEdgesRow : OpenClaim := { program := "ytkflmichekpfbaa", sum := "4832f6b2f7ea19ee69fb580fe09a3e0bc2eaa8fb25147e4d94d460a11d86f350", func := "rollbacknet/rollbacknetlaw17.CausalEdges", spec := "causalEdges", unfollowed := true, recurses := true, plainKeys := false, apart := false }
def CausalEdgesSaid : Prop := causalEdgesRow.holds Try.pinned (OpenSpec.ofChange causalEdgesSpec)

/-- ITS FALSE NEIGHBOUR: 'it returns false'. Refute it at one input. -/
def causalEdgesWrong : ChangeSpec := { name := "causalEdges", fn := fun _ => fun
  | [d1, d2, d3] => { results := [.lit (.bool false)], args := [d1, d2, d3] }
  | _ => none }
def CausalEdgesWrongFalsely : Prop := causalEdgesRow.holds Try.pinned (OpenSpec.ofChange causalEdgesWrong)

/-- 'rollbacknetlaw17.CausalOrders': WHATEVER THE INPUT: true; the input reads as it did. -/
def causalOrdersSpec : ChangeSpec := { name := "causalOrders", fn := fun _ => fun
  | [d] => { results := [.lit (.bool true)], args := [d] }
  | _ => none }
def causalOrdersRow : OpenClaim := { program := "ytkflmichekpfbaa", sum := "4832f6b2f7ea19ee69fb580fe09a3e0bc2eaa8fb25147e4d94d460a11d86f350", func := "rollbacknet/rollbacknetlaw17.CausalOrders", spec := "causalOrders", unfollowed := true, recurses := true, plainKeys := false, apart := false }
def CausalOrdersSaid : Prop := causalOrdersRow.holds Try.pinned (OpenSpec.ofChange causalOrdersSpec)

/-- ITS FALSE NEIGHBOUR: 'it returns false'. Refute it at one input. -/
def causalOrdersWrong : ChangeSpec := { name := "causalOrders", fn := fun _ => fun
  | [d] => { results := [.lit (.bool false)], args := [d] }
  | _ => none }
def CausalOrdersWrongFalsely : Prop := causalOrdersRow.holds Try.pinned (OpenSpec.ofChange causalOrdersWrong)

/-- 'rollbacknetlaw17.CausalCuts': WHATEVER THE INPUT: true; the input reads as it did. -/
def causalCutsSpec : ChangeSpec := { name := "causalCuts", fn := fun _ => fun
  | [d1, d2, d3] => { results := [.lit (.bool true)], args := [d1, d2, d3] }
  | _ => none }
def causalCutsRow : OpenClaim := { program := "ytkflmichekpfbaa", sum := "4832f6b2f7ea19ee69fb580fe09a3e0bc2eaa8fb25147e4d94d460a11d86f350", func := "rollbacknet/rollbacknetlaw17.CausalCuts", spec := "causalCuts", unfollowed := true, recurses := true, plainKeys := false, apart := false }
def CausalCutsSaid : Prop := causalCutsRow.holds Try.pinned (OpenSpec.ofChange causalCutsSpec)

/-- ITS FALSE NEIGHBOUR: 'it returns false'. Refute it at one input. -/
def causalCutsWrong : ChangeSpec := { name := "causalCuts", fn := fun _ => fun
  | [d1, d2, d3] => { results := [.lit (.bool false)], args := [d1, d2, d3] }
  | _ => none }
def CausalCutsWrongFalsely : Prop := causalCutsRow.holds Try.pinned (OpenSpec.ofChange causalCutsWrong)

/-- 'rollbacknetlaw19.DependOnline': WHATEVER THE INPUT: true; the input reads as it did. -/
def dependOnlineSpec : ChangeSpec := { name := "dependOnline", fn := fun _ => fun
  | [d1, d2, d3, d4] => { results := [.lit (.bool true)], args := [d1, d2, d3, d4] }
  | _ => none }
def dependOnlineRow : OpenClaim := { program := "ytkflmichekpfbaa", sum := "4832f6b2f7ea19ee69fb580fe09a3e0bc2eaa8fb25147e4d94d460a11d86f350", func := "rollbacknet/rollbacknetlaw19.DependOnline", spec := "dependOnline", unfollowed := true, recurses := true, plainKeys := false, apart := false }
def DependOnlineSaid : Prop := dependOnlineRow.holds Try.pinned (OpenSpec.ofChange dependOnlineSpec)

/-- ITS FALSE NEIGHBOUR: 'it returns false'. Refute it at one input. -/
def dependOnlineWrong : ChangeSpec := { name := "dependOnline", fn := fun _ => fun
  | [d1, d2, d3, d4] => { results := [.lit (.bool false)], args := [d1, d2, d3, d4] }
  | _ => none }
def DependOnlineWrongFalsely : Prop := dependOnlineRow.holds Try.pinned (OpenSpec.ofChange dependOnlineWrong)

/-- 'rollbacknetlaw17.CausalExtension': WHATEVER THE INPUT: true; the input reads as it did. -/
def causalExtensionSpec : ChangeSpec := { name := "causalExtension", fn := fun _ => fun
  | [d] => { results := [.lit (.bool true)], args := [d] }
  | _ => none }
def causalExtensionRow : OpenClaim := { program := "ytkflmichekpfbaa", sum := "4832f6b2f7ea19ee69fb580fe09a3e0bc2eaa8fb25147e4d94d460a11d86f350", func := "rollbacknet/rollbacknetlaw17.CausalExtension", spec := "causalExtension", unfollowed := true, recurses := true, plainKeys := false, apart := false }
def CausalExtensionSaid : Prop := causalExtensionRow.holds Try.pinned (OpenSpec.ofChange causalExtensionSpec)

/-- ITS FALSE NEIGHBOUR: 'it returns false'. Refute it at one input. -/
def causalExtensionWrong : ChangeSpec := { name := "causalExtension", fn := fun _ => fun
  | [d] => { results := [.lit (.bool false)], args := [d] }
  | _ => none }
def CausalExtensionWrongFalsely : Prop := causalExtensionRow.holds Try.pinned (OpenSpec.ofChange causalExtensionWrong)

/-- 'rollbacknetlaw19.DependVectors': WHATEVER THE INPUT: true; the input reads as it did. -/
def dependVectorsSpec : ChangeSpec := { name := "dependVectors", fn := fun _ => fun
  | [d] => { results := [.lit (.bool true)], args := [d] }
  | _ => none }
def dependVectorsRow : OpenClaim := { program := "ytkflmichekpfbaa", sum := "4832f6b2f7ea19ee69fb580fe09a3e0bc2eaa8fb25147e4d94d460a11d86f350", func := "rollbacknet/rollbacknetlaw19.DependVectors", spec := "dependVectors", unfollowed := true, recurses := true, plainKeys := false, apart := false }
def DependVectorsSaid : Prop := dependVectorsRow.holds Try.pinned (OpenSpec.ofChange dependVectorsSpec)

/-- ITS FALSE NEIGHBOUR: 'it returns false'. Refute it at one input. -/
def dependVectorsWrong : ChangeSpec := { name := "dependVectors", fn := fun _ => fun
  | [d] => { results := [.lit (.bool false)], args := [d] }
  | _ => none }
def DependVectorsWrongFalsely : Prop := dependVectorsRow.holds Try.pinned (OpenSpec.ofChange dependVectorsWrong)

/-- 'rollbacknetlaw17.CausalPasts': WHATEVER THE INPUT: true; the input reads as it did. -/
def causalPastsSpec : ChangeSpec := { name := "causalPasts", fn := fun _ => fun
  | [d1, d2] => { results := [.lit (.bool true)], args := [d1, d2] }
  | _ => none }
def causalPastsRow : OpenClaim := { program := "ytkflmichekpfbaa", sum := "4832f6b2f7ea19ee69fb580fe09a3e0bc2eaa8fb25147e4d94d460a11d86f350", func := "rollbacknet/rollbacknetlaw17.CausalPasts", spec := "causalPasts", unfollowed := true, recurses := true, plainKeys := false, apart := false }
def CausalPastsSaid : Prop := causalPastsRow.holds Try.pinned (OpenSpec.ofChange causalPastsSpec)

/-- ITS FALSE NEIGHBOUR: 'it returns false'. Refute it at one input. -/
def causalPastsWrong : ChangeSpec := { name := "causalPasts", fn := fun _ => fun
  | [d1, d2] => { results := [.lit (.bool false)], args := [d1, d2] }
  | _ => none }
def CausalPastsWrongFalsely : Prop := causalPastsRow.holds Try.pinned (OpenSpec.ofChange causalPastsWrong)

/-- 'rollbacknetlaw19.DependGlobals': WHATEVER THE INPUT: true; the input reads as it did. -/
def dependGlobalsSpec : ChangeSpec := { name := "dependGlobals", fn := fun _ => fun
  | [d1, d2] => { results := [.lit (.bool true)], args := [d1, d2] }
  | _ => none }
def dependGlobalsRow : OpenClaim := { program := "ytkflmichekpfbaa", sum := "4832f6b2f7ea19ee69fb580fe09a3e0bc2eaa8fb25147e4d94d460a11d86f350", func := "rollbacknet/rollbacknetlaw19.DependGlobals", spec := "dependGlobals", unfollowed := true, recurses := true, plainKeys := false, apart := false }
def DependGlobalsSaid : Prop := dependGlobalsRow.holds Try.pinned (OpenSpec.ofChange dependGlobalsSpec)

/-- ITS FALSE NEIGHBOUR: 'it returns false'. Refute it at one input. -/
def dependGlobalsWrong : ChangeSpec := { name := "dependGlobals", fn := fun _ => fun
  | [d1, d2] => { results := [.lit (.bool false)], args := [d1, d2] }
  | _ => none }
def DependGlobalsWrongFalsely : Prop := dependGlobalsRow.holds Try.pinned (OpenSpec.ofChange dependGlobalsWrong)

/-- 'rollbacknetlaw19.DependGrows': WHATEVER THE INPUT: true; the input reads as it did. -/
def dependGrowsSpec : ChangeSpec := { name := "dependGrows", fn := fun _ => fun
  | [d1, d2] => { results := [.lit (.bool true)], args := [d1, d2] }
  | _ => none }
def dependGrowsRow : OpenClaim := { program := "ytkflmichekpfbaa", sum := "4832f6b2f7ea19ee69fb580fe09a3e0bc2eaa8fb25147e4d94d460a11d86f350", func := "rollbacknet/rollbacknetlaw19.DependGrows", spec := "dependGrows", unfollowed := true, recurses := true, plainKeys := false, apart := false }
def DependGrowsSaid : Prop := dependGrowsRow.holds Try.pinned (OpenSpec.ofChange dependGrowsSpec)

/-- ITS FALSE NEIGHBOUR: 'it returns false'. Refute it at one input. -/
def dependGrowsWrong : ChangeSpec := { name := "dependGrows", fn := fun _ => fun
  | [d1, d2] => { results := [.lit (.bool false)], args := [d1, d2] }
  | _ => none }
def DependGrowsWrongFalsely : Prop := dependGrowsRow.holds Try.pinned (OpenSpec.ofChange dependGrowsWrong)

/-- 'rollbacknetlaw18.CutPast': WHATEVER THE INPUT: true; the input reads as it did. -/
def cutPastSpec : ChangeSpec := { name := "cutPast", fn := fun _ => fun
  | [d] => { results := [.lit (.bool true)], args := [d] }
  | _ => none }
def cutPastRow : OpenClaim := { program := "ytkflmichekpfbaa", sum := "4832f6b2f7ea19ee69fb580fe09a3e0bc2eaa8fb25147e4d94d460a11d86f350", func := "rollbacknet/rollbacknetlaw18.CutPast", spec := "cutPast", unfollowed := true, recurses := true, plainKeys := false, apart := false }
def CutPastSaid : Prop := cutPastRow.holds Try.pinned (OpenSpec.ofChange cutPastSpec)

/-- ITS FALSE NEIGHBOUR: 'it returns false'. Refute it at one input. -/
def cutPastWrong : ChangeSpec := { name := "cutPast", fn := fun _ => fun
  | [d] => { results := [.lit (.bool false)], args := [d] }
  | _ => none }
def CutPastWrongFalsely : Prop := cutPastRow.holds Try.pinned (OpenSpec.ofChange cutPastWrong)

/-- 'rollbacknetlaw19.DependCuts': WHATEVER THE INPUT: true; the input reads as it did. -/
def dependCutsSpec : ChangeSpec := { name := "dependCuts", fn := fun _ => fun
  | [d1, d2] => { results := [.lit (.bool true)], args := [d1, d2] }
  | _ => none }
def dependCutsRow : OpenClaim := { program := "ytkflmichekpfbaa", sum := "4832f6b2f7ea19ee69fb580fe09a3e0bc2eaa8fb25147e4d94d460a11d86f350", func := "rollbacknet/rollbacknetlaw19.DependCuts", spec := "dependCuts", unfollowed := true, recurses := true, plainKeys := false, apart := false }
def DependCutsSaid : Prop := dependCutsRow.holds Try.pinned (OpenSpec.ofChange dependCutsSpec)

/-- ITS FALSE NEIGHBOUR: 'it returns false'. Refute it at one input. -/
def dependCutsWrong : ChangeSpec := { name := "dependCuts", fn := fun _ => fun
  | [d1, d2] => { results := [.lit (.bool false)], args := [d1, d2] }
  | _ => none }
def DependCutsWrongFalsely : Prop := dependCutsRow.holds Try.pinned (OpenSpec.ofChange dependCutsWrong)

/- THE SECOND FORM. 'bulk': how many values and letters a reading holds, each counted each time it is reached (what is shared counts as often as it is met; a slice's spare places count too). A statement '..UptoSaid' is the law's where the arguments, and the package variables that the reading takes, are together of bulk at most 1048576: NARROWER than '..Said'. Prove '..Said' where nothing that the law and all that it calls make is longer than what came in: it says more and counts as full. Else prove '..UptoSaid'. A law counts once. -/
mutual
def uptoBulk {H : Type} : DataW H → Nat
  | .lit (.string bytes) => bytes.length + 1
  | .lit _ => 1
  | .nil => 1
  | .ptr d => uptoBulk d + 1
  | .slice elems spare => uptoBulkAll elems + uptoBulkAll spare + 1
  | .agg parts => uptoBulkAll parts + 1
  | .iface _ d => uptoBulk d + 1
  | .map entries => uptoBulkEntries entries + 1
  | .held _ => 1
def uptoBulkAll {H : Type} : List (DataW H) → Nat
  | [] => 0
  | d :: r => uptoBulk d + uptoBulkAll r
def uptoBulkEntries {H : Type} : List (Lit × DataW H) → Nat
  | [] => 0
  | x :: r => uptoBulkEntry x + uptoBulkEntries r
def uptoBulkEntry {H : Type} : Lit × DataW H → Nat
  | (.string bytes, d) => bytes.length + uptoBulk d + 1
  | (_, d) => uptoBulk d + 1
 end
def uptoSmall : (H : Type) → List (DataW H) → Bool := fun _ ds => decide (uptoBulkAll ds ≤ 1048576)
def OpenSpec.upto (s : _root_.Go.ChangeSpec) : _root_.Go.OpenSpec := { _root_.Go.OpenSpec.ofChange s with cond := some uptoSmall }

/-- 'rollbacknetlaw17.CausalClocks', WHERE WHAT IT READS IS OF BULK AT MOST 1048576: true; the input reads as it did. -/
def causalClocksUptoRow : OpenClaim := { program := "ytkflmichekpfbaa", sum := "4832f6b2f7ea19ee69fb580fe09a3e0bc2eaa8fb25147e4d94d460a11d86f350", func := "rollbacknet/rollbacknetlaw17.CausalClocks", spec := "causalClocks", unfollowed := true, recurses := true, plainKeys := false, apart := false, narrowed := true }
def CausalClocksUptoSaid : Prop := causalClocksUptoRow.holds Try.pinned (OpenSpec.upto causalClocksSpec)

/-- 'rollbacknetlaw17.CausalEdges', WHERE WHAT IT READS IS OF BULK AT MOST 1048576: true; the input reads as it did. -/
def causalEdgesUptoRow : OpenClaim := { program := "ytkflmichekpfbaa", sum := "4832f6b2f7ea19ee69fb580fe09a3e0bc2eaa8fb25147e4d94d460a11d86f350", func := "rollbacknet/rollbacknetlaw17.CausalEdges", spec := "causalEdges", unfollowed := true, recurses := true, plainKeys := false, apart := false, narrowed := true }
def CausalEdgesUptoSaid : Prop := causalEdgesUptoRow.holds Try.pinned (OpenSpec.upto causalEdgesSpec)

/-- 'rollbacknetlaw17.CausalOrders', WHERE WHAT IT READS IS OF BULK AT MOST 1048576: true; the input reads as it did. -/
def causalOrdersUptoRow : OpenClaim := { program := "ytkflmichekpfbaa", sum := "4832f6b2f7ea19ee69fb580fe09a3e0bc2eaa8fb25147e4d94d460a11d86f350", func := "rollbacknet/rollbacknetlaw17.CausalOrders", spec := "causalOrders", unfollowed := true, recurses := true, plainKeys := false, apart := false, narrowed := true }
def CausalOrdersUptoSaid : Prop := causalOrdersUptoRow.holds Try.pinned (OpenSpec.upto causalOrdersSpec)

/-- 'rollbacknetlaw17.CausalCuts', WHERE WHAT IT READS IS OF BULK AT MOST 1048576: true; the input reads as it did. -/
def causalCutsUptoRow : OpenClaim := { program := "ytkflmichekpfbaa", sum := "4832f6b2f7ea19ee69fb580fe09a3e0bc2eaa8fb25147e4d94d460a11d86f350", func := "rollbacknet/rollbacknetlaw17.CausalCuts", spec := "causalCuts", unfollowed := true, recurses := true, plainKeys := false, apart := false, narrowed := true }
def CausalCutsUptoSaid : Prop := causalCutsUptoRow.holds Try.pinned (OpenSpec.upto causalCutsSpec)

/-- 'rollbacknetlaw19.DependOnline', WHERE WHAT IT READS IS OF BULK AT MOST 1048576: true; the input reads as it did. -/
def dependOnlineUptoRow : OpenClaim := { program := "ytkflmichekpfbaa", sum := "4832f6b2f7ea19ee69fb580fe09a3e0bc2eaa8fb25147e4d94d460a11d86f350", func := "rollbacknet/rollbacknetlaw19.DependOnline", spec := "dependOnline", unfollowed := true, recurses := true, plainKeys := false, apart := false, narrowed := true }
def DependOnlineUptoSaid : Prop := dependOnlineUptoRow.holds Try.pinned (OpenSpec.upto dependOnlineSpec)

/-- 'rollbacknetlaw17.CausalExtension', WHERE WHAT IT READS IS OF BULK AT MOST 1048576: true; the input reads as it did. -/
def causalExtensionUptoRow : OpenClaim := { program := "ytkflmichekpfbaa", sum := "4832f6b2f7ea19ee69fb580fe09a3e0bc2eaa8fb25147e4d94d460a11d86f350", func := "rollbacknet/rollbacknetlaw17.CausalExtension", spec := "causalExtension", unfollowed := true, recurses := true, plainKeys := false, apart := false, narrowed := true }
def CausalExtensionUptoSaid : Prop := causalExtensionUptoRow.holds Try.pinned (OpenSpec.upto causalExtensionSpec)

/-- 'rollbacknetlaw19.DependVectors', WHERE WHAT IT READS IS OF BULK AT MOST 1048576: true; the input reads as it did. -/
def dependVectorsUptoRow : OpenClaim := { program := "ytkflmichekpfbaa", sum := "4832f6b2f7ea19ee69fb580fe09a3e0bc2eaa8fb25147e4d94d460a11d86f350", func := "rollbacknet/rollbacknetlaw19.DependVectors", spec := "dependVectors", unfollowed := true, recurses := true, plainKeys := false, apart := false, narrowed := true }
def DependVectorsUptoSaid : Prop := dependVectorsUptoRow.holds Try.pinned (OpenSpec.upto dependVectorsSpec)

/-- 'rollbacknetlaw17.CausalPasts', WHERE WHAT IT READS IS OF BULK AT MOST 1048576: true; the input reads as it did. -/
def causalPastsUptoRow : OpenClaim := { program := "ytkflmichekpfbaa", sum := "4832f6b2f7ea19ee69fb580fe09a3e0bc2eaa8fb25147e4d94d460a11d86f350", func := "rollbacknet/rollbacknetlaw17.CausalPasts", spec := "causalPasts", unfollowed := true, recurses := true, plainKeys := false, apart := false, narrowed := true }
def CausalPastsUptoSaid : Prop := causalPastsUptoRow.holds Try.pinned (OpenSpec.upto causalPastsSpec)

/-- 'rollbacknetlaw19.DependGlobals', WHERE WHAT IT READS IS OF BULK AT MOST 1048576: true; the input reads as it did. -/
def dependGlobalsUptoRow : OpenClaim := { program := "ytkflmichekpfbaa", sum := "4832f6b2f7ea19ee69fb580fe09a3e0bc2eaa8fb25147e4d94d460a11d86f350", func := "rollbacknet/rollbacknetlaw19.DependGlobals", spec := "dependGlobals", unfollowed := true, recurses := true, plainKeys := false, apart := false, narrowed := true }
def DependGlobalsUptoSaid : Prop := dependGlobalsUptoRow.holds Try.pinned (OpenSpec.upto dependGlobalsSpec)

/-- 'rollbacknetlaw19.DependGrows', WHERE WHAT IT READS IS OF BULK AT MOST 1048576: true; the input reads as it did. -/
def dependGrowsUptoRow : OpenClaim := { program := "ytkflmichekpfbaa", sum := "4832f6b2f7ea19ee69fb580fe09a3e0bc2eaa8fb25147e4d94d460a11d86f350", func := "rollbacknet/rollbacknetlaw19.DependGrows", spec := "dependGrows", unfollowed := true, recurses := true, plainKeys := false, apart := false, narrowed := true }
def DependGrowsUptoSaid : Prop := dependGrowsUptoRow.holds Try.pinned (OpenSpec.upto dependGrowsSpec)

/-- 'rollbacknetlaw18.CutPast', WHERE WHAT IT READS IS OF BULK AT MOST 1048576: true; the input reads as it did. -/
def cutPastUptoRow : OpenClaim := { program := "ytkflmichekpfbaa", sum := "4832f6b2f7ea19ee69fb580fe09a3e0bc2eaa8fb25147e4d94d460a11d86f350", func := "rollbacknet/rollbacknetlaw18.CutPast", spec := "cutPast", unfollowed := true, recurses := true, plainKeys := false, apart := false, narrowed := true }
def CutPastUptoSaid : Prop := cutPastUptoRow.holds Try.pinned (OpenSpec.upto cutPastSpec)

/-- 'rollbacknetlaw19.DependCuts', WHERE WHAT IT READS IS OF BULK AT MOST 1048576: true; the input reads as it did. -/
def dependCutsUptoRow : OpenClaim := { program := "ytkflmichekpfbaa", sum := "4832f6b2f7ea19ee69fb580fe09a3e0bc2eaa8fb25147e4d94d460a11d86f350", func := "rollbacknet/rollbacknetlaw19.DependCuts", spec := "dependCuts", unfollowed := true, recurses := true, plainKeys := false, apart := false, narrowed := true }
def DependCutsUptoSaid : Prop := dependCutsUptoRow.holds Try.pinned (OpenSpec.upto dependCutsSpec)

end Rows
end Go.Proofs.Ytkflmichekpfbaa
