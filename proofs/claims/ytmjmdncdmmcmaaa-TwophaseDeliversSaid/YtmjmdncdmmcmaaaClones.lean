/- slices.Clone, slices.Clip at the types of the snapshot machine. Conditions: the list lies in memory. -/
import Derived.Test.YtmjmdncdmmcmaaaOwnQ
import Derived.Test.YtmjmdncdmmcmaaaGc
import Derived.Lib.SliceRun
namespace Go.Proofs.Ytmjmdncdmmcmaaa
open Go.RowKit
set_option linter.unusedVariables false
set_option linter.unusedSimpArgs false
set_option linter.unusedSectionVars false

theorem RV.none_nil {S : Nat → Prop} {w : World} {vs : List Value} (h : RV S w none vs) : vs = [] := by
  cases vs with
  | nil => rfl
  | cons u r => obtain ⟨b, o, e, _⟩ := h 0 u rfl; cases e
set_option maxHeartbeats 800000 in
theorem cloneVI_any {S : Nat → Prop} (A : Option Addr) (c n : Nat) (vs : List Value) (w0 : World) (hx : RV S w0 A vs) (hn : vs.length = n) (h1 : ∀ u ∈ vs, u.oneCell' = true) (hl : n ≤ 1000000) :
    Calls Try.prog 51 #[.slice A n c] w0 (RetRow w0 3 1 n vs) := by
  have hS := St.start w0 NoM
  have qT : ∀ (w : World) (a : Option Addr) (n c n' c' : Nat), (binOp .eql 25 (.slice a n c) (.slice none n' c')).run Try.prog w = .ok (.bool a.isNone) w := fun w a n c n' c' => Lib.run_eql_slice_nil w _ _ a n c n' c' Try.underlying25
  cases A with
  | none =>
    have h0 := hx.none_nil
    subst h0
    simp at hn
    subst hn
    go_enter Try.func51, Try.ntmps51
    go_wp2_with (fail)
    go_ret
    exact ⟨none, 0, rfl, ownsRow_nil _ _ _ _, hS.toExt⟩
  | some ad =>
    go_enter Try.func51, Try.ntmps51
    go_wp2_with (first | (refine st_appG (n := 0) (vs := []) hS rfl rfl rfl (hx.ext hS.toExt) (by omega) h1 (by omega) ?_; clear hS; intro L cl w hL hM hS; rw [List.nil_append, Nat.zero_add] at hS; rw [Nat.zero_add]) | ((((refine oC ?_; (refine sC0 hS rfl ?_)))); clear hS; (((fail_if_success guard_hyp g1); intro g1 w hS))))
    go_ret
    exact hS.ret rfl
set_option maxHeartbeats 800000 in
theorem cloneVR_any {S : Nat → Prop} (A : Option Addr) (c n : Nat) (vs : List Value) (w0 : World) (hx : RV S w0 A vs) (hn : vs.length = n) (h1 : ∀ u ∈ vs, u.oneCell' = true) (hl : n ≤ 1000000) :
    Calls Try.prog 67 #[.slice A n c] w0 (RetRow w0 25 1 n vs) := by
  have hS := St.start w0 NoM
  have qT : ∀ (w : World) (a : Option Addr) (n c n' c' : Nat), (binOp .eql 41 (.slice a n c) (.slice none n' c')).run Try.prog w = .ok (.bool a.isNone) w := fun w a n c n' c' => Lib.run_eql_slice_nil w _ _ a n c n' c' Try.underlying41
  cases A with
  | none =>
    have h0 := hx.none_nil
    subst h0
    simp at hn
    subst hn
    go_enter Try.func67, Try.ntmps67
    go_wp2_with (fail)
    go_ret
    exact ⟨none, 0, rfl, ownsRow_nil _ _ _ _, hS.toExt⟩
  | some ad =>
    go_enter Try.func67, Try.ntmps67
    go_wp2_with (first | (refine st_appG (n := 0) (vs := []) hS rfl rfl rfl (hx.ext hS.toExt) (by omega) h1 (by omega) ?_; clear hS; intro L cl w hL hM hS; rw [List.nil_append, Nat.zero_add] at hS; rw [Nat.zero_add]) | ((((refine oC ?_; (refine sC0 hS rfl ?_)))); clear hS; (((fail_if_success guard_hyp g1); intro g1 w hS))))
    go_ret
    exact hS.ret rfl
set_option maxHeartbeats 800000 in
theorem cloneVB_any {S : Nat → Prop} (A : Option Addr) (c n : Nat) (vs : List Value) (w0 : World) (hx : RV S w0 A vs) (hn : vs.length = n) (h1 : ∀ u ∈ vs, u.oneCell' = true) (hl : n ≤ 1000000) :
    Calls Try.prog 66 #[.slice A n c] w0 (RetRow w0 4 1 n vs) := by
  have hS := St.start w0 NoM
  have qT : ∀ (w : World) (a : Option Addr) (n c n' c' : Nat), (binOp .eql 52 (.slice a n c) (.slice none n' c')).run Try.prog w = .ok (.bool a.isNone) w := fun w a n c n' c' => Lib.run_eql_slice_nil w _ _ a n c n' c' Try.underlying52
  cases A with
  | none =>
    have h0 := hx.none_nil
    subst h0
    simp at hn
    subst hn
    go_enter Try.func66, Try.ntmps66
    go_wp2_with (fail)
    go_ret
    exact ⟨none, 0, rfl, ownsRow_nil _ _ _ _, hS.toExt⟩
  | some ad =>
    go_enter Try.func66, Try.ntmps66
    go_wp2_with (first | (refine st_appG (n := 0) (vs := []) hS rfl rfl rfl (hx.ext hS.toExt) (by omega) h1 (by omega) ?_; clear hS; intro L cl w hL hM hS; rw [List.nil_append, Nat.zero_add] at hS; rw [Nat.zero_add]) | ((((refine oC ?_; (refine sC0 hS rfl ?_)))); clear hS; (((fail_if_success guard_hyp g1); intro g1 w hS))))
    go_ret
    exact hS.ret rfl
end Go.Proofs.Ytmjmdncdmmcmaaa
