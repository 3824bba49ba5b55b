/- The closure of the document's answer for chapter 24, in plain words. No condition. -/
import Derived.Test.YtmjmdncdmmcmaaaTwA
import Derived.Test.YtmjmdncdmmcmaaaTwS
namespace Go.Proofs.Ytmjmdncdmmcmaaa
open Go.RowKit Tph
set_option linter.unusedVariables false
set_option linter.unusedSimpArgs false
set_option linter.unusedSectionVars false

/-- how many are not in yet -/
def falN (l : List Bool) : Nat := l.countP (fun b => !b)
/-- all that are in are reached -/
structure ClI (p : Pat) (r : Nat) (l : List Bool) : Prop where
  n : l.length = p.len.length
  rt : opOf l r = true
  i : ∀ q, opOf l q = true → Rch (srcL p) r q
/-- in a round that began at l0: the pairs ahead of (q, s) have been looked at -/
structure ClM (p : Pat) (r : Nat) (l0 : List Bool) (q s : Nat) (l : List Bool) (m : Bool) : Prop where
  c : ClI p r l
  f : m = false → l = l0 ∧ ∀ x y, (x < q ∨ (x = q ∧ y < s)) → y < p.len.length → opOf l x = true → isSrc p y x = true → opOf l y = true
  t : m = true → falN l < falN l0
end Go.Proofs.Ytmjmdncdmmcmaaa
