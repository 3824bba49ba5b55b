/- The sanity check of chapter 23. No condition. -/
import Derived.Test.YtombhhhaidmpeaaSnTot
import Derived.Test.YtombhhhaidmpeaaSnStepD
namespace Go.Proofs.Ytombhhhaidmpeaa
open Go.RowKit
set_option linter.unusedVariables false
set_option linter.unusedSimpArgs false
set_option linter.unusedSectionVars false

def mvCells (m : Mv) : List Value := [.int .i64 m.kind, .int .i64 m.fr, .int .i64 m.to, .int .i64 m.val]
/-- the moves of the example -/
def exMv : List Mv := [⟨1, 0, 1, 2⟩, ⟨3, 0, 0, 0⟩, ⟨2, 0, 1, 0⟩, ⟨2, 0, 1, 0⟩, ⟨2, 1, 0, 0⟩]
def exSt : Nat → Snp
  | 0 => newS [5, 7]
  | i + 1 => goS (exSt i) (exMv.getD i ⟨0, 0, 0, 0⟩)
def snL (s : Snp) : (List Int × List Int) × (List (List Pcl) × List Int) × (List Int × List Bool × List (List Int)) := ((s.vals, s.cnts), (s.chs, s.cut), (s.saved, s.opn, s.recs))
theorem wrap_small {x : Int} (h : -1000 ≤ x ∧ x ≤ 1000) : wrap64 x = x := wrap_self (by omega)
theorem ex1 : exSt 1 = ⟨[3, 7], [1, 0], [[], [(false, 2)], [], []], [-1, -1], [0, 0], [false, false, false, false], [[], [], [], []]⟩ := by
  simp [exSt, exMv, goS, sendS, newS, nth, chOf, wrap_small]
theorem ex2 : exSt 2 = ⟨[3, 7], [1, 0], [[], [(false, 2), (true, 0)], [], []], [1, -1], [3, 0], [false, false, true, false], [[], [], [], []]⟩ := by
  rw [exSt, ex1]
  simp [exMv, goS, recS, recR, markCh, markOp, nth]
theorem ex3 : exSt 3 = ⟨[3, 9], [1, 1], [[], [(true, 0)], [], []], [1, -1], [3, 0], [false, false, true, false], [[], [], [], []]⟩ := by
  rw [exSt, ex2]
  simp [exMv, goS, takeS, popS, nth, chOf, opOf, wrap_small]
theorem ex4 : exSt 4 = ⟨[3, 9], [1, 1], [[], [], [(true, 0)], []], [1, 1], [3, 9], [false, false, true, false], [[], [], [], []]⟩ := by
  rw [exSt, ex3]
  simp [exMv, goS, markS, recS, recR, popS, markCh, markOp, nth, chOf]
theorem ex5 : exSt 5 = ⟨[3, 9], [1, 1], [[], [], [], []], [1, 1], [3, 9], [false, false, false, false], [[], [], [], []]⟩ := by
  rw [exSt, ex4]
  simp [exMv, goS, markS, recS, popS, nth, chOf]
theorem ex_ref : ∀ i, i < 5 → refS (exSt i) (exMv.getD i ⟨0, 0, 0, 0⟩) = 0
  | 0, _ => by simp [exSt, exMv, refS, newS, chOf]
  | 1, _ => by rw [ex1]; simp [exMv, refS]
  | 2, _ => by rw [ex2]; simp [exMv, refS, chOf]
  | 3, _ => by rw [ex3]; simp [exMv, refS, chOf]
  | 4, _ => by rw [ex4]; simp [exMv, refS, chOf]
theorem ex_ok : ∀ i, i ≤ 5 → SnOk 2 i (exSt i)
  | 0, _ => newS_ok (vs := [5, 7]) (by simp) (by simp) (by simp)
  | i + 1, h => goS_ok (ex_ok i (by omega)) (ex_ref i (by omega))
theorem ex_tot : totP (exSt 5) = 12 ∧ totR (exSt 5) = 12 := by
  rw [ex5]
  constructor
  · rw [totP, total_present]; simp [psum, sumOf, pvals, wrap_small]
  · rw [totR, total_recorded]; simp [rsum, sumOf, wrap_small]
theorem ex_comp : compS (exSt 5) = true := by rw [ex5]; decide
end Go.Proofs.Ytombhhhaidmpeaa
