/- A list of numbers, sorted. No condition. -/
import Derived.Test.YtmjmdncdmmcmaaaGa
namespace Go.Proofs.Ytmjmdncdmmcmaaa
set_option linter.unusedVariables false

def sortI (ns : List Int) : List Int := ns.mergeSort (fun x y => decide (x ≤ y))
theorem sortI_perm (ns : List Int) : (sortI ns).Perm ns := List.mergeSort_perm _ _
theorem sortI_le (ns : List Int) : (sortI ns).Pairwise (· ≤ ·) := by
  have h := List.pairwise_mergeSort (le := fun x y : Int => decide (x ≤ y)) (by intro a b c; simp; omega) (by intro a b; simp; omega) ns
  exact h.imp (fun h => by simpa using h)
theorem sortI_lt {ns : List Int} (hn : ns.Nodup) : (sortI ns).Pairwise (· < ·) := by
  have h1 := sortI_le ns
  have h2 : (sortI ns).Nodup := (sortI_perm ns).nodup_iff.2 hn
  exact (h1.and h2).imp (fun {a b} h => by omega)
end Go.Proofs.Ytmjmdncdmmcmaaa
