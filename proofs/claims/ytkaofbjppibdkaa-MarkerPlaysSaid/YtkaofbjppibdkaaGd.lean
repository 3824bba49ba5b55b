/- Patterns: process, Interval, Same, of the program and of the reference. Conditions: the lists lie in memory; lengths within range. -/
import Derived.Test.YtkaofbjppibdkaaGc
import Derived.Test.YtkaofbjppibdkaaGa
import Derived.IntWalk
namespace Go.Proofs.Ytkaofbjppibdkaa
open Go.RowKit
set_option linter.unusedVariables false
set_option linter.unusedSimpArgs false

theorem RA.cells {S : Nat → Prop} {w : World} {A : Option Addr} {az : List Arc} (h : RA S w A az) {j : Nat} (hj : j < az.length) : ∃ b o, A = some ⟨b, o, none⟩ ∧ S b ∧ Cells w b (o + j * 4) (arcCells az[j]) := by
  obtain ⟨vs, h1, h2⟩ := h
  obtain ⟨b, o, cs, e1, _, hr, hc⟩ := RL.at_ ⟨vs, h1, h2⟩ hj (by omega)
  have hv : j * 4 < vs.length := by rw [h2.length]; omega
  obtain ⟨b', o', e2, hs⟩ := h1.at_block hv
  rw [e1] at e2
  injection e2 with e2; injection e2 with e2 e3; subst e2; subst e3
  have e : cs = arcCells az[j] := hr
  subst e
  refine ⟨b, o, e1, hs, fun i u hu => ?_⟩
  have hi : i < 4 := by
    rcases Nat.lt_or_ge i 4 with h1 | h1
    · exact h1
    · rw [List.getElem?_eq_none (by simpa [arcCells] using h1)] at hu; cases hu
  rw [hc i hi]; exact hu
theorem RR.atS {S : Nat → Prop} {w : World} {A : Option Addr} {ls : List (List Int)} (h : RR S w A ls) {j : Nat} (hj : j < ls.length) :
    ∃ b o B c, A = some ⟨b, o, none⟩ ∧ S b ∧ w.cell? ⟨b, o + j, none⟩ = some (.slice B ls[j].length c) ∧ ls[j].length ≤ c ∧ c ≤ 9223372036854775807 ∧ RI S w B ls[j] := by
  obtain ⟨b, o, B, c, e1, h1, h2, h3, h4⟩ := h.at_ hj
  obtain ⟨vs, h5, h6⟩ := h
  have hv : j < vs.length := by rw [h6.length]; omega
  obtain ⟨b', o', e2, hs⟩ := h5.at_block hv
  rw [e1] at e2
  injection e2 with e2; injection e2 with e2 e3; subst e2; subst e3
  rw [rowOf_eq hj] at h1 h2 h4
  exact ⟨b, o, B, c, e1, hs, h1, h2, h3, h4⟩

theorem arcCells_one (a : Arc) : ∀ u ∈ arcCells a, u.oneCell' = true := by simp [arcCells, Value.oneCell']
set_option maxHeartbeats 800000 in
theorem process_any (A1 A2 A3 : Option Addr) (c1 c2 c3 n1 n2 n3 : Nat) (q : Int) (w0 : World) :
    Calls Try.prog 59 #[.agg #[.slice A1 n1 c1, .slice A2 n2 c2, .slice A3 n3 c3], .int .i64 q] w0 fun e w' => e = .returned (.bool (decide (0 ≤ q ∧ q < n1))) ∧ Ext w0 w' := by
  have hS := St.start w0 NoM
  by_cases h0 : 0 ≤ q
  · have d0 : decide (0 ≤ q) = true := by simp [h0]
    go_enter Try.func59, Try.ntmps59
    go_wp2_with (first | (refine oL ?_; (first | refine sL1 hS rfl rfl rfl ?_ | refine sL2 hS rfl rfl rfl ?_ | refine sL3 hS rfl rfl ?_ | refine sL4 hS rfl rfl ?_ | refine sL5 hS rfl rfl ?_ | refine sL6 hS rfl rfl ?_ | refine sL7 hS rfl rfl ?_)) | ((first | (refine oB ?_; first | refine sB1 hS rfl rfl ?_ | refine sB2 hS rfl rfl ?_)); clear hS; first | ((fail_if_success guard_hyp g1); intro g1 w hS) | ((fail_if_success guard_hyp g2); intro g2 w hS) | fail) | fail)
    go_ret
    exact ⟨ret_bool (by simp [h0]), hS.toExt⟩
  · have d0 : decide (0 ≤ q) = false := by simp [h0]
    go_enter Try.func59, Try.ntmps59
    go_wp2_with (first | (refine oL ?_; (first | refine sL1 hS rfl rfl rfl ?_ | refine sL2 hS rfl rfl rfl ?_ | refine sL3 hS rfl rfl ?_ | refine sL4 hS rfl rfl ?_ | refine sL5 hS rfl rfl ?_ | refine sL6 hS rfl rfl ?_ | refine sL7 hS rfl rfl ?_)) | ((first | (refine oB ?_; first | refine sB1 hS rfl rfl ?_ | refine sB2 hS rfl rfl ?_)); clear hS; first | ((fail_if_success guard_hyp g1); intro g1 w hS) | ((fail_if_success guard_hyp g2); intro g2 w hS) | fail) | fail)
    go_ret
    exact ⟨ret_bool (by first | (simp; omega) | simp), hS.toExt⟩
/-- how many elements of the first k are below a number -/
def below (l : List Int) (x : Int) : Nat := (l.filter (fun y => decide (y < x))).length
theorem below_le (l : List Int) (x : Int) : below l x ≤ l.length := List.length_filter_le _ _
theorem below_step {l : List Int} {k : Nat} (hk : k < l.length) (x : Int) : below (l.take (k + 1)) x = below (l.take k) x + if l[k] < x then 1 else 0 := by
  rw [List.take_succ_eq_append_getElem hk]
  simp only [below, List.filter_append, List.length_append, List.filter_cons, List.filter_nil]
  by_cases h : l[k] < x <;> simp [h]

end Go.Proofs.Ytkaofbjppibdkaa

/- A cut by choices (rollbacknetmake.Codes.Cut). Conditions: the choices and the lengths lie in memory, at most five processes of at most 64 events. -/
namespace Go.Proofs.Ytkaofbjppibdkaa
open Go.RowKit
set_option linter.unusedVariables false
/-- a cut by choices: process by process -/
def cutL : List Int → List Int → List Int
  | _, [] => []
  | r, m :: l => (m - (nxt r (m.toNat + 1) : Nat)) :: cutL r.tail l
def cutR (r : List Int) (l : List Int) : List Int := r.drop l.length

end Go.Proofs.Ytkaofbjppibdkaa

