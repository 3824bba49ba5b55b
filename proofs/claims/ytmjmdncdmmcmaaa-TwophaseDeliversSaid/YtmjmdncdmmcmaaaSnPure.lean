/- The snapshot machine as plain data: its moves, and what they keep. No condition. -/
import Derived.Test.YtmjmdncdmmcmaaaGa
import Derived.RowKit
namespace Go.Proofs.Ytmjmdncdmmcmaaa
open Go.RowKit
set_option linter.unusedVariables false
set_option linter.unusedSimpArgs false

/-- a parcel: a marker or not, its value -/
abbrev Pcl := Bool × Int
/-- a state of the snapshot machine -/
structure Snp where
  vals : List Int
  cnts : List Int
  chs : List (List Pcl)
  cut : List Int
  saved : List Int
  opn : List Bool
  recs : List (List Int)
/-- a move -/
structure Mv where
  kind : Int
  fr : Int
  to : Int
  val : Int
def opOf (bs : List Bool) (k : Nat) : Bool := bs.getD k false
/-- a state of n processes, at most b moves old -/
structure SnOk (n b : Nat) (s : Snp) : Prop where
  n1 : 1 ≤ n
  n5 : n ≤ 5
  lv : s.vals.length = n
  lc : s.cnts.length = n
  lh : s.chs.length = n * n
  lk : s.cut.length = n
  ls : s.saved.length = n
  lo : s.opn.length = n * n
  lr : s.recs.length = n * n
  vb : ∀ x ∈ s.vals, -9223372036854775808 ≤ x ∧ x ≤ 9223372036854775807
  cb : ∀ q, q < n → 0 ≤ nth s.cnts q ∧ nth s.cnts q ≤ b
  kb : ∀ q, q < n → -1 ≤ nth s.cut q ∧ nth s.cut q ≤ b
  hb : ∀ l ∈ s.chs, l.length ≤ b
  rb : ∀ l ∈ s.recs, l.length ≤ b
end Go.Proofs.Ytmjmdncdmmcmaaa
