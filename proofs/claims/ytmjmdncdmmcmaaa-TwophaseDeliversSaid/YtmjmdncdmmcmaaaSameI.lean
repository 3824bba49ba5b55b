/- rollbacknetref23: SameInts, SameLists of equal things. Conditions: they lie in memory. -/
import Derived.Test.YtmjmdncdmmcmaaaGc
import Derived.Test.YtmjmdncdmmcmaaaOwnQ
import Derived.Test.YtmjmdncdmmcmaaaGa
namespace Go.Proofs.Ytmjmdncdmmcmaaa
open Go.RowKit
set_option linter.unusedVariables false
set_option linter.unusedSimpArgs false
set_option linter.unusedSectionVars false

set_option maxHeartbeats 1600000 in
theorem sameI_eq {S T : Nat → Prop} (A B : Option Addr) (c d : Nat) (xs : List Int) (w0 : World) (ha : RI S w0 A xs) (hb : RI T w0 B xs) (hl : xs.length ≤ 1000000) :
    Calls Try.prog 31 #[.slice A xs.length c, .slice B xs.length d] w0 fun e w' => e = .returned (.bool true) ∧ Ext w0 w' := by
  have hS := St.start w0 NoM
  have e2 : ((xs.length : Int) != (xs.length : Int)) = false := by simp
  go_enter Try.func31, Try.ntmps31
  go_wp2_with (fail)
  clear e2
  go_loopw [5] (fun i wr => ∃ k : Nat, k ≤ xs.length ∧ i = .int .i64 k ∧ St w0 NoM [] wr) (fun i _ => xs.length - (intOf i).toNat)
  case atStart => exact ⟨0, Nat.zero_le _, rfl, hS⟩
  case round =>
    obtain ⟨k, hk, rfl, hS⟩ := hrel
    by_cases hlt : k < xs.length
    · obtain ⟨b1, o1, rfl, _, hca⟩ := ha.atNS hlt
      obtain ⟨b2, o2, rfl, _, hcb⟩ := hb.atNS hlt
      generalize nth xs k = x at *
      have e3 : (x != x) = false := by simp
      go_wp2_with (fail)
      refine dr_start0 []  hS (by kernel_rfl) rfl ?_; clear hS; intro w hS
      refine dM hS 0 rfl rfl rfl ?_
      (try simp only [Act.put, nA, nB, nC])
      refine dM hS 1 rfl rfl rfl ?_
      (try simp only [Act.put, nA, nB, nC])
      refine dP hS 2 rfl rfl ?_
      (try simp only [Act.put, nA, nB, nC])
      (refine dL4 hS 3 rfl rfl rfl ?_)
      (try simp only [Act.put, nA, nB, nC])
      refine dM hS 4 rfl rfl rfl ?_
      (try simp only [Act.put, nA, nB, nC])
      refine dM hS 5 rfl rfl rfl ?_
      (try simp only [Act.put, nA, nB, nC])
      refine dP hS 6 rfl rfl ?_
      (try simp only [Act.put, nA, nB, nC])
      (refine dL4 hS 7 rfl rfl rfl ?_)
      (try simp only [Act.put, nA, nB, nC])
      refine dP hS 8 rfl rfl ?_
      (try simp only [Act.put, nA, nB, nC])
      refine dr_done (by kernel_rfl) ?_
      go_wp2_with (fail)
      go_roundw
      case measure => simp [intOf]; omega
      exact ⟨k + 1, by omega, by go_num, hS⟩
    · go_wp2_with (fail)
      go_ret
      exact ⟨rfl, hS.toExt⟩
theorem sameI_n {S T : Nat → Prop} {A B : Option Addr} {c d n : Nat} {xs : List Int} {w0 : World} (hn : xs.length = n) (ha : RI S w0 A xs) (hb : RI T w0 B xs) (hl : n ≤ 1000000) :
    Calls Try.prog 31 #[.slice A n c, .slice B n d] w0 fun e w' => e = .returned (.bool true) ∧ Ext w0 w' := by subst hn; exact sameI_eq A B c d xs w0 ha hb hl
theorem sameI_m {S T : Nat → Prop} {A B : Option Addr} {c d n m : Nat} {xs ys : List Int} {w0 : World} (hn : xs.length = n) (hm : xs.length = m) (hy : ys = xs) (ha : RI S w0 A xs) (hb : RI T w0 B ys) (hl : n ≤ 1000000) :
    Calls Try.prog 31 #[.slice A n c, .slice B m d] w0 fun e w' => e = .returned (.bool true) ∧ Ext w0 w' := by subst hn hm hy; exact sameI_eq A B c d ys w0 ha hb hl
end Go.Proofs.Ytmjmdncdmmcmaaa
