/- rollbacknetref17.top. Conditions: both lists lie in memory, of one length. -/
import Derived.Test.YtkflmichekpfbaaGf
namespace Go.Proofs.Ytkflmichekpfbaa
open Go.RowKit
set_option linter.unusedVariables false
set_option linter.unusedSimpArgs false
set_option linter.unusedSectionVars false

set_option maxRecDepth 100000 in
set_option maxHeartbeats 1600000 in
theorem top_any {S T : Nat → Prop} (A B : Option Addr) (c d n : Nat) (xs ys : List Int) (w0 : World) (hx : RI S w0 A xs) (hy : RI T w0 B ys) (hxl : xs.length = n) (hyl : ys.length = n) (hn : 0 < n) (hn' : n ≤ 1000) :
    Calls Try.prog 78 #[.slice A n c, .slice B n d] w0 (RetRow w0 3 1 n (ints (List.zipWith max xs ys))) := by
  have hS := St.start w0 NoM
  subst hxl
  have HL := Lib.hid hyl
  clear hyl
  go_enter Try.func78, Try.ntmps78
  go_wp2_with (first | (refine st_appON hS rfl rfl rfl (hx.ext hS.toExt) rfl (by omega) ?_; clear hS; intro L cl w hL hM hS) | (refine oP ?_; ((first | refine sP1 hS rfl rfl rfl ?_ | refine sP2 hS rfl rfl rfl ?_ | refine sP3 hS rfl rfl rfl ?_); clear hS; first | ((fail_if_success guard_hyp L1); intro L1 cl1 w hL1 hM1 hS) | ((fail_if_success guard_hyp L2); intro L2 cl2 w hL2 hM2 hS) | fail)) | fail)
  simp only [irow] at hS
  obtain ⟨g, rfl⟩ := hS.rowSome L hn
  go_loopw [6] (fun s6 wr => ∃ (k : Nat) (zs : List Int), k ≤ xs.length ∧ zs.length = xs.length ∧ Hid (zs = (List.zipWith max xs ys).take k ++ xs.drop k) ∧ s6 = .int .i64 k ∧ St w0 NoM [row (.slice (some ⟨g, 0, none⟩) xs.length cl) 3 1 xs.length (ints zs)] wr) (fun s6 _ => xs.length - (intOf s6).toNat)
  case atStart => exact ⟨0, xs, by omega, rfl, Lib.hid (by simp), rfl, hS⟩
  case round =>
    obtain ⟨k, zs, hk, hzl, HZ, rfl, hS⟩ := hrel
    by_cases hlt : k < xs.length
    · obtain ⟨b2, o2, rfl, _, hcb⟩ := hy.atNS (k := k) (by rw [HL.out]; exact hlt)
      have HF := Lib.hid (max_fill HL.out hlt)
      have hcell := max_fill_at HL.out hlt
      rw [← HZ.out] at hcell
      generalize nth xs k = y at *
      generalize nth ys k = m at *
      by_cases h0 : y < m
      all_goals
        go_wp2_with (first | (refine oP ?_; ((first | refine sP1 hS rfl rfl rfl ?_ | refine sP2 hS rfl rfl rfl ?_ | refine sP3 hS rfl rfl rfl ?_); clear hS; first | ((fail_if_success guard_hyp L1); intro L1 cl1 w hL1 hM1 hS) | ((fail_if_success guard_hyp L2); intro L2 cl2 w hL2 hM2 hS) | fail)) | fail)
        refine dr_start0 [12]  hS (by kernel_rfl) rfl ?_; clear hS; intro w hS
        refine dM hS 0 rfl rfl rfl ?_
        (try simp only [Act.put, nA, nB, nC])
        refine dM hS 1 rfl rfl rfl ?_
        (try simp only [Act.put, nA, nB, nC])
        refine dM hS 2 rfl rfl rfl ?_
        (try simp only [Act.put, nA, nB, nC])
        refine dM hS 3 rfl rfl rfl ?_
        (try simp only [Act.put, nA, nB, nC])
        refine dP hS 4 rfl rfl ?_
        (try simp only [Act.put, nA, nB, nC])
        first | refine dL1 hS 5 rfl rfl rfl rfl ?_ | refine dL2 hS 5 rfl rfl rfl rfl ?_ | refine dL3 hS 5 rfl rfl rfl ?_ | refine dL4 hS 5 rfl rfl rfl ?_ | refine dL5 hS 5 rfl rfl rfl ?_ | refine dL6 hS 5 rfl rfl rfl ?_ | refine dL7 hS 5 rfl rfl rfl ?_
        (try simp only [Act.put, nA, nB, nC])
        refine dM hS 6 rfl rfl rfl ?_
        (try simp only [Act.put, nA, nB, nC])
        refine dM hS 7 rfl rfl rfl ?_
        (try simp only [Act.put, nA, nB, nC])
        refine dP hS 8 rfl rfl ?_
        (try simp only [Act.put, nA, nB, nC])
        first | refine dL1 hS 9 rfl rfl rfl rfl ?_ | refine dL2 hS 9 rfl rfl rfl rfl ?_ | refine dL3 hS 9 rfl rfl rfl ?_ | refine dL4 hS 9 rfl rfl rfl ?_ | refine dL5 hS 9 rfl rfl rfl ?_ | refine dL6 hS 9 rfl rfl rfl ?_ | refine dL7 hS 9 rfl rfl rfl ?_
        (try simp only [Act.put, nA, nB, nC])
        refine dP hS 10 rfl rfl ?_
        (try simp only [Act.put, nA, nB, nC])
        refine dP hS 11 rfl rfl ?_
        (try simp only [Act.put, nA, nB, nC])
        refine dr_one 12 (by kernel_rfl) rfl ?_
        ((first | refine sS1 hS rfl rfl rfl ?_ | refine sS2 hS rfl rfl rfl ?_ | refine sS3 hS rfl rfl rfl ?_ | refine sS4 hS rfl rfl rfl ?_ | refine sS5 hS rfl rfl rfl ?_); clear hS; intro w hS)
        (try simp only [Act.put, nA, nB, nC])
        refine dr_late (by kernel_rfl) ?_
        refine dr_done (by kernel_rfl) ?_
        go_wp2_with (first | (refine oP ?_; ((first | refine sP1 hS rfl rfl rfl ?_ | refine sP2 hS rfl rfl rfl ?_ | refine sP3 hS rfl rfl rfl ?_); clear hS; first | ((fail_if_success guard_hyp L1); intro L1 cl1 w hL1 hM1 hS) | ((fail_if_success guard_hyp L2); intro L2 cl2 w hL2 hM2 hS) | fail)) | fail)
        go_roundw
        case measure => simp [intOf]; omega
        refine ⟨k + 1, _, by omega, by simp [hzl], Lib.hid ?_, by go_num, hS⟩
        rw [← HF.out, HZ.out]
        congr 1
        first | rfl | omega
    · go_wp2_with (first | (refine oP ?_; ((first | refine sP1 hS rfl rfl rfl ?_ | refine sP2 hS rfl rfl rfl ?_ | refine sP3 hS rfl rfl rfl ?_); clear hS; first | ((fail_if_success guard_hyp L1); intro L1 cl1 w hL1 hM1 hS) | ((fail_if_success guard_hyp L2); intro L2 cl2 w hL2 hM2 hS) | fail)) | fail)
      go_ret
      have hz := HZ.out
      rw [List.take_of_length_le (by simp; omega), List.drop_of_length_le (by omega), List.append_nil] at hz
      subst hz
      exact hS.ret rfl
end Go.Proofs.Ytkflmichekpfbaa
