/- rollbacknetref16.ckpts, arc. Conditions: the list is one of checkpoints; the pattern is good and lies in memory. -/
import Derived.Test.YtmjmdncdmmcmaaaRChkP
import Derived.Test.YtmjmdncdmmcmaaaGd
namespace Go.Proofs.Ytmjmdncdmmcmaaa
open Go.RowKit
set_option linter.unusedVariables false
set_option linter.unusedSimpArgs false
set_option linter.unusedSectionVars false

set_option maxRecDepth 100000 in
set_option maxHeartbeats 3200000 in
theorem rckpts_any {S : Nat → Prop} (L : Option Addr) (c : Nat) (l : List Int) (m : Int) (w0 : World) (hl : RI S w0 L l) (hr : RowOk l m) (hlen : l.length ≤ 1000) :
    Calls Try.prog 79 #[.slice L l.length c, .int .i64 m] w0 fun e w' => e = .returned (.bool true) ∧ Ext w0 w' := by
  have hS := St.start w0 NoM
  have hpos : 0 < l.length := by obtain ⟨r, rfl⟩ := hr.head; simp
  have h0 : nth l 0 = 0 := by obtain ⟨r, rfl⟩ := hr.head; rfl
  have en : ((l.length : Int) == 0) = false := by simp; intro h; rw [h] at hpos; simp at hpos
  obtain ⟨b1, o1, rfl, _, hc0⟩ := hl.atNS hpos
  rw [h0] at hc0
  have HR := Lib.hid hr
  have HL := Lib.hid hl
  clear hr hl h0
  go_enter Try.func79, Try.ntmps79
  go_wp2_with (((refine oL ?_; ((refine sL4 hS rfl rfl ?_)))))
  clear hc0
  go_loopw [5] (fun s5 wr => ∃ i : Nat, 1 ≤ i ∧ i ≤ l.length ∧ s5 = .int .i64 i ∧ St w0 NoM [] wr) (fun s5 _ => l.length - (intOf s5).toNat)
  case atStart => exact ⟨1, by omega, by omega, rfl, hS⟩
  case round =>
    clear hS
    obtain ⟨i, hi1, hi, rfl, hS⟩ := hrel
    by_cases hlt : i < l.length
    · have hlt' : (i : Int) < l.length := by omega
      obtain ⟨j, hj⟩ : ∃ j, j = i - 1 := ⟨_, rfl⟩
      have hij : (i : Int) - 1 = (j : Int) := by omega
      have hjl : j < l.length := by omega
      have hjl' : (j : Int) < l.length := by omega
      obtain ⟨b2, o2, e2, _, hc1⟩ := HL.out.atNS hlt
      obtain ⟨b3, o3, e3, _, hc2⟩ := HL.out.atNS hjl
      injection e2 with e2
      injection e2 with e2 e2'
      injection e3 with e3
      injection e3 with e3 e3'
      subst e2 e2' e3 e3'
      have hlt2 : nth l j < nth l i := by rw [nth_eq hjl, nth_eq hlt]; exact List.pairwise_iff_getElem.1 HR.out.asc j i hjl hlt (by omega)
      have hle : nth l i ≤ m := by rw [nth_eq hlt]; exact HR.out.le _ (List.getElem_mem hlt)
      generalize nth l i = x at *
      generalize nth l j = y at *
      have d1 : decide (x ≤ y) = false := decide_eq_false (by omega)
      have d2 : decide (m < x) = false := decide_eq_false (by omega)
      clear hj
      go_wp2_with (fail)
      refine dr_start0 []  hS (by kernel_rfl) rfl ?_; clear hS; intro w hS
      refine dM hS 0 rfl rfl rfl ?_
      (try simp only [Act.put, nA, nB, nC])
      refine dM hS 1 rfl rfl rfl ?_
      (try simp only [Act.put, nA, nB, nC])
      refine dP hS 2 rfl rfl ?_
      (try simp only [Act.put, nA, nB, nC])
      (refine dL4 hS 3 rfl rfl rfl ?_)
      (try simp only [Act.put, nA, nB, nC])
      refine dM hS 4 rfl rfl rfl ?_
      (try simp only [Act.put, nA, nB, nC])
      refine dM hS 5 rfl rfl rfl ?_
      (try simp only [Act.put, nA, nB, nC])
      refine dP hS 6 rfl rfl ?_
      (try simp only [Act.put, nA, nB, nC])
      refine dP hS 7 rfl rfl ?_
      (try simp only [Act.put, nA, nB, nC])
      (refine dL4 hS 8 rfl rfl rfl ?_)
      (try simp only [Act.put, nA, nB, nC])
      first | (refine dP hS 9 rfl rfl ?_; try rw [d1]) | refine dP hS 9 rfl rfl ?_
      (try simp only [Act.put, nA, nB, nC])
      refine dM hS 10 rfl rfl rfl ?_
      (try simp only [Act.put, nA, nB, nC])
      first | refine dM hS 11 rfl rfl rfl ?_ | refine dQ hS 11 rfl rfl ?_
      (try simp only [Act.put, nA, nB, nC])
      first | refine dM hS 12 rfl rfl rfl ?_ | refine dQ hS 12 rfl rfl ?_
      (try simp only [Act.put, nA, nB, nC])
      first | refine dP hS 13 rfl rfl ?_ | refine dQ hS 13 rfl rfl ?_
      (try simp only [Act.put, nA, nB, nC])
      (refine dL4 hS 14 rfl rfl rfl ?_)
      (try simp only [Act.put, nA, nB, nC])
      first | refine dM hS 15 rfl rfl rfl ?_ | refine dQ hS 15 rfl rfl ?_
      (try simp only [Act.put, nA, nB, nC])
      first | refine dP hS 16 rfl rfl ?_ | refine dQ hS 16 rfl rfl ?_
      (try simp only [Act.put, nA, nB, nC])
      refine dP hS 17 rfl rfl ?_
      (try simp only [Act.put, nA, nB, nC])
      refine dr_done (by kernel_rfl) ?_
      go_wp2_with (fail)
      go_roundw
      case measure => simp [intOf]; try omega
      exact ⟨i + 1, by omega, by omega, by go_num, hS⟩
    · have hlt' : ¬ (i : Int) < l.length := by omega
      go_wp2_with (fail)
      go_ret
      exact ⟨rfl, hS.toExt⟩
end Go.Proofs.Ytmjmdncdmmcmaaa
