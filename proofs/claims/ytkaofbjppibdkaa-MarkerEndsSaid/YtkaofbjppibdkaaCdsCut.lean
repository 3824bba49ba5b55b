/- A cut by choices (rollbacknetmake.Codes.Cut). Conditions: the choices and the lengths lie in memory, at most five processes of at most 64 events. -/
import Derived.Test.YtkaofbjppibdkaaCds
import Derived.Test.YtkaofbjppibdkaaPatMem
namespace Go.Proofs.Ytkaofbjppibdkaa
open Go.RowKit
set_option linter.unusedVariables false
/-- a cut by choices: process by process -/
def cutL : List Int → List Int → List Int
  | _, [] => []
  | r, m :: l => (m - (nxt r (m.toNat + 1) : Nat)) :: cutL r.tail l
def cutR (r : List Int) (l : List Int) : List Int := r.drop l.length

end Go.Proofs.Ytkaofbjppibdkaa
