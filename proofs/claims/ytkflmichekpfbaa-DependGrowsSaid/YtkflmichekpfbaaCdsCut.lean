/- A cut by choices (rollbacknetmake.Codes.Cut). Conditions: the choices and the lengths lie in memory, at most five processes of at most 64 events. -/
import Derived.Test.YtkflmichekpfbaaCds
import Derived.Test.YtkflmichekpfbaaPatMem
namespace Go.Proofs.Ytkflmichekpfbaa
open Go.RowKit
set_option linter.unusedVariables false
/-- a cut by choices: process by process -/
def cutL : List Int → List Int → List Int
  | _, [] => []
  | r, m :: l => (m - (nxt r (m.toNat + 1) : Nat)) :: cutL r.tail l
def cutR (r : List Int) (l : List Int) : List Int := r.drop l.length

set_option maxHeartbeats 800000 in
theorem cut_any {S : Nat → Prop} (A1 A2 A3 : Option Addr) (c1 c2 c3 n2 n3 g0 : Nat) (κ : CK) (r len : List Int) (w0 : World) (hc : CdsAt w0 g0 κ r) (h1 : RI S w0 A1 len) (hSg : ∀ k, S k → k ≠ g0) (hn : len.length ≤ 5) (hm : ∀ m ∈ len, 0 ≤ m ∧ m ≤ 64) :
    Calls Try.prog 29 #[.pointer (some ⟨g0, 0, none⟩), .agg #[.slice A1 len.length c1, .slice A2 n2 c2, .slice A3 n3 c3]] w0 fun e w' => ∃ L c, e = .returned (.slice L len.length c) ∧
      w'.ownsRow w0.heap.size 3 1 (.slice L len.length c) len.length (ints (cutL r len)) ∧ CdsAt w' g0 κ (cutR r len) ∧ Keep (fun k => k ≠ g0) w0 w' := by
  have HM := Lib.hid hm
  have hS := St.startC hc
  clear hm hc
  go_enter Try.func29, Try.ntmps29
  go_wp2_with (first | (refine oL ?_; (first | refine sL1 hS rfl rfl rfl ?_ | refine sL2 hS rfl rfl rfl ?_ | refine sL3 hS rfl rfl ?_ | refine sL4 hS rfl rfl ?_ | refine sL5 hS rfl rfl ?_ | refine sL6 hS rfl rfl ?_ | refine sL7 hS rfl rfl ?_)) | ((first | (refine oB ?_; first | refine sB1 hS rfl rfl ?_ | refine sB2 hS rfl rfl ?_)); clear hS; first | ((fail_if_success guard_hyp g1); intro g1 w hS) | ((fail_if_success guard_hyp g2); intro g2 w hS) | ((fail_if_success guard_hyp g3); intro g3 w hS) | fail) | fail)
  go_loopw [5, 6] (fun s5 s6 wr => ∃ (k : Nat) (L : Option Addr) (cl : Nat) (ys r' : List Int), k ≤ len.length ∧ Hid (cutL r len = ys ++ cutL r' (len.drop k) ∧ cutR r len = cutR r' (len.drop k)) ∧ Hid (ys.length = k) ∧ ys.length ≤ 5 ∧ s6 = .int .i64 k ∧ s5 = .slice L ys.length cl ∧
     St w0 (fun k => k = g0) [irow 3 L cl ys, blk g1 [.slice A1 len.length c1, .slice A2 n2 c2, .slice A3 n3 c3] 28, cds g0 κ r'] wr) (fun _ s6 _ => len.length - (intOf s6).toNat)
  case atStart => exact ⟨0, none, 0, [], r, by omega, Lib.hid (by simp), Lib.hid rfl, by simp, rfl, rfl, hS.addNil _ _⟩
  case round =>
    obtain ⟨k, L, cl, ys, r', hk, HY, HK, hy5, rfl, rfl, hS⟩ := hrel
    by_cases hlt : k < len.length
    · obtain ⟨b1, o1, rfl, hb1, hc1⟩ := h1.atS hlt
      have hb1 := hSg b1 hb1
      have hmm := HM.out _ (List.getElem_mem hlt)
      have hdrop := List.drop_eq_getElem_cons hlt
      generalize hmk : len[k] = z at *
      obtain ⟨m, rfl⟩ := Int.eq_ofNat_of_zero_le hmm.1
      have HD := Lib.hid hdrop
      have hnx := nxt_lt r' (n := m + 1) (by omega)
      have hmm2 : m ≤ 64 := by omega
      clear hmk hmm hdrop
      go_wp2_with (first | (refine oL ?_; (first | refine sL1 hS rfl rfl rfl ?_ | refine sL2 hS rfl rfl rfl ?_ | refine sL3 hS rfl rfl ?_ | refine sL4 hS rfl rfl ?_ | refine sL5 hS rfl rfl ?_ | refine sL6 hS rfl rfl ?_ | refine sL7 hS rfl rfl ?_)) | ((first | (refine oB ?_; first | refine sB1 hS rfl rfl ?_ | refine sB2 hS rfl rfl ?_)); clear hS; first | ((fail_if_success guard_hyp g1); intro g1 w hS) | ((fail_if_success guard_hyp g2); intro g2 w hS) | ((fail_if_success guard_hyp g3); intro g3 w hS) | fail) | fail)
      refine dr_start2 [] 0 1 hS (by kernel_rfl) rfl ?_; clear hS; intro w hS
      refine dM hS 0 rfl rfl rfl ?_
      (try simp only [Act.put, nA, nB, nC])
      refine dP hS 1 rfl rfl ?_
      (try simp only [Act.put, nA, nB, nC])
      first | refine dL1 hS 2 rfl rfl rfl rfl ?_ | refine dL2 hS 2 rfl rfl rfl rfl ?_ | refine dL3 hS 2 rfl rfl rfl ?_ | refine dL4 hS 2 rfl rfl rfl ?_ | refine dL5 hS 2 rfl rfl rfl ?_ | refine dL6 hS 2 rfl rfl rfl ?_ | refine dL7 hS 2 rfl rfl rfl ?_
      (try simp only [Act.put, nA, nB, nC])
      refine dM hS 3 rfl rfl rfl ?_
      (try simp only [Act.put, nA, nB, nC])
      refine dP hS 4 rfl rfl ?_
      (try simp only [Act.put, nA, nB, nC])
      first | refine dL1 hS 5 rfl rfl rfl rfl ?_ | refine dL2 hS 5 rfl rfl rfl rfl ?_ | refine dL3 hS 5 rfl rfl rfl ?_ | refine dL4 hS 5 rfl rfl rfl ?_ | refine dL5 hS 5 rfl rfl rfl ?_ | refine dL6 hS 5 rfl rfl rfl ?_ | refine dL7 hS 5 rfl rfl rfl ?_
      (try simp only [Act.put, nA, nB, nC])
      refine dM hS 6 rfl rfl rfl ?_
      (try simp only [Act.put, nA, nB, nC])
      refine dP hS 7 rfl rfl ?_
      (try simp only [Act.put, nA, nB, nC])
      first | refine dL1 hS 8 rfl rfl rfl rfl ?_ | refine dL2 hS 8 rfl rfl rfl rfl ?_ | refine dL3 hS 8 rfl rfl rfl ?_ | refine dL4 hS 8 rfl rfl rfl ?_ | refine dL5 hS 8 rfl rfl rfl ?_ | refine dL6 hS 8 rfl rfl rfl ?_ | refine dL7 hS 8 rfl rfl rfl ?_
      (try simp only [Act.put, nA, nB, nC])
      refine dM hS 9 rfl rfl rfl ?_
      (try simp only [Act.put, nA, nB, nC])
      refine dP hS 10 rfl rfl ?_
      (try simp only [Act.put, nA, nB, nC])
      first | refine dL1 hS 11 rfl rfl rfl rfl ?_ | refine dL2 hS 11 rfl rfl rfl rfl ?_ | refine dL3 hS 11 rfl rfl rfl ?_ | refine dL4 hS 11 rfl rfl rfl ?_ | refine dL5 hS 11 rfl rfl rfl ?_ | refine dL6 hS 11 rfl rfl rfl ?_ | refine dL7 hS 11 rfl rfl rfl ?_
      (try simp only [Act.put, nA, nB, nC])
      refine dP hS 12 rfl rfl ?_
      (try simp only [Act.put, nA, nB, nC])
      refine dr_one 13 (by kernel_rfl) rfl ?_
      (refine st_call rfl (by kernel_rfl) rfl ?_; refine (next_z (m + 1) hS (by omega) (by omega) (by omega)).mono ?_; rintro e w ⟨rfl, hS⟩)
      (try simp only [Act.put, nA, nB, nC])
      refine dr_end hS ?_
      refine dP hS 14 rfl rfl ?_
      (try simp only [Act.put, nA, nB, nC])
      refine dr_one 15 (by kernel_rfl) rfl ?_
      ((first | refine sC0 hS rfl ?_ | refine sC1 hS rfl rfl ?_ | refine sC2 hS rfl rfl ?_ | refine sC3 hS rfl rfl rfl ?_ | refine sC4 hS rfl rfl rfl ?_); clear hS; first | ((fail_if_success guard_hyp g1); intro g1 w hS) | ((fail_if_success guard_hyp g2); intro g2 w hS) | ((fail_if_success guard_hyp g3); intro g3 w hS) | fail)
      (try simp only [Act.put, nA, nB, nC])
      refine dr_end hS ?_
      refine dr_one 16 (by kernel_rfl) rfl ?_
      ((first | refine sP1 hS rfl rfl rfl ?_ | refine sP2 hS rfl rfl rfl ?_ | refine sP3 hS rfl rfl rfl ?_); clear hS; first | ((fail_if_success guard_hyp L1); intro L1 cl1 w hL1 hM1 hS) | ((fail_if_success guard_hyp L2); intro L2 cl2 w hL2 hM2 hS) | fail)
      (try simp only [Act.put, nA, nB, nC])
      refine dr_end hS ?_
      refine dA hS 17 rfl rfl rfl ?_
      (try simp only [Act.put, nA, nB, nC])
      refine dr_done (by kernel_rfl) ?_
      go_wp2_with (first | (refine oL ?_; (first | refine sL1 hS rfl rfl rfl ?_ | refine sL2 hS rfl rfl rfl ?_ | refine sL3 hS rfl rfl ?_ | refine sL4 hS rfl rfl ?_ | refine sL5 hS rfl rfl ?_ | refine sL6 hS rfl rfl ?_ | refine sL7 hS rfl rfl ?_)) | ((first | (refine oB ?_; first | refine sB1 hS rfl rfl ?_ | refine sB2 hS rfl rfl ?_)); clear hS; first | ((fail_if_success guard_hyp g1); intro g1 w hS) | ((fail_if_success guard_hyp g2); intro g2 w hS) | ((fail_if_success guard_hyp g3); intro g3 w hS) | fail) | fail)
      go_roundw
      case measure => simp [intOf]; omega
      refine ⟨k + 1, _, _, _, r'.tail, by omega, Lib.hid ?_, Lib.hid ?_, ?_, by go_num, by first | rfl | simp, hS⟩
      · have := HY.out
        rw [HD.out] at this
        refine ⟨this.1.trans ?_, this.2.trans ?_⟩
        · simp [cutL]
        · simp [cutR]
      · simp [HK.out]
      · have := HK.out; simp; omega
    · go_wp2_with (first | (refine oL ?_; (first | refine sL1 hS rfl rfl rfl ?_ | refine sL2 hS rfl rfl rfl ?_ | refine sL3 hS rfl rfl ?_ | refine sL4 hS rfl rfl ?_ | refine sL5 hS rfl rfl ?_ | refine sL6 hS rfl rfl ?_ | refine sL7 hS rfl rfl ?_)) | ((first | (refine oB ?_; first | refine sB1 hS rfl rfl ?_ | refine sB2 hS rfl rfl ?_)); clear hS; first | ((fail_if_success guard_hyp g1); intro g1 w hS) | ((fail_if_success guard_hyp g2); intro g2 w hS) | ((fail_if_success guard_hyp g3); intro g3 w hS) | fail) | fail)
      go_ret
      have : k = len.length := by omega
      subst this
      have hy := HY.out
      rw [List.drop_length] at hy
      have hk := HK.out
      have e1 : cutL r len = ys := by simpa [cutL] using hy.1
      refine ⟨L, cl, by rw [← hk]; rfl, ?_, ?_, hS.keep⟩
      · rw [← hk, e1]; exact hS.rowFresh (κ := κ) (r := r')
      · rw [hy.2]; exact hS.codes
end Go.Proofs.Ytkflmichekpfbaa
