/- The reference's Append: an event that receives a message. Conditions: a pattern of at most 5 processes and 255 messages, the event and the message in range. -/
import Derived.Test.YtkaofbjppibdkaaRefApp
import Derived.Deep.DeepCutAuto
import Derived.Deep.RegionLaw
import Derived.BigRegion
namespace Go.Proofs.Ytkaofbjppibdkaa
open Go.RowKit
set_option linter.unusedVariables false

end Go.Proofs.Ytkaofbjppibdkaa
