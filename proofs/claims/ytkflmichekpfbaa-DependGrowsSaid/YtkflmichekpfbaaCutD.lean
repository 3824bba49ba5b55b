/- Cuts: Meet, Join, Lower, Raise, of the program and of the reference. Conditions: the pattern is good, the cut is one. -/
import Derived.Test.YtkflmichekpfbaaCutC
namespace Go.Proofs.Ytkflmichekpfbaa
open Go.RowKit
set_option linter.unusedVariables false
set_option linter.unusedSimpArgs false

theorem zip_fill (f : Int → Int → Int) {xs ys : List Int} (hl : xs.length = ys.length) {k : Nat} (hk : k < xs.length) :
    ((List.zipWith f xs ys).take k ++ List.replicate (xs.length - k) 0).set k (f (nth xs k) (nth ys k)) = (List.zipWith f xs ys).take (k + 1) ++ List.replicate (xs.length - (k + 1)) 0 := by
  have hlt : ((List.zipWith f xs ys).take k).length = k := by simp; omega
  rw [zipWith_take_succ f hk (by omega), List.append_assoc, List.set_append_right _ _ (by omega), hlt, Nat.sub_self, show xs.length - k = (xs.length - (k + 1)) + 1 by omega, List.replicate_succ]
  rfl

set_option maxHeartbeats 1600000 in
theorem join_any {S T : Nat → Prop} (X Y : Option Addr) (c d : Nat) (xs ys : List Int) (w0 : World) (hx : RI S w0 X xs) (hy : RI T w0 Y ys) (hxl : xs.length ≤ 17592186044415) (hyl : ys.length ≤ 9223372036854775807) :
    Calls Try.prog 52 #[.slice X xs.length c, .slice Y ys.length d] w0 (RetRow w0 3 1 (zipI max xs ys).length (ints (zipI max xs ys))) := by
  have hS := St.start w0 NoM
  by_cases hlen : xs.length = ys.length
  · have hne : ((xs.length : Int) != (ys.length : Int)) = false := by simp [hlen]
    have HL := Lib.hid hlen
    rw [zipI, if_pos hlen]
    clear hlen
    go_enter Try.func52, Try.ntmps52
    go_wp2_with (first | ((first | refine sM1 hS rfl rfl rfl ?_); clear hS; first | ((fail_if_success guard_hyp g1); intro g1 w hS) | ((fail_if_success guard_hyp g2); intro g2 w hS) | fail) | fail)
    clear hne
    go_loopw [17] (fun s6 wr => ∃ (k : Nat) (zs : List Int), k ≤ xs.length ∧ Hid (zs = (List.zipWith max xs ys).take k ++ List.replicate (xs.length - k) 0) ∧ zs.length = xs.length ∧ s6 = .int .i64 k ∧ St w0 NoM [row (.slice (some ⟨g1, 0, none⟩) xs.length xs.length) 3 1 xs.length (ints zs)] wr) (fun s6 _ => xs.length - (intOf s6).toNat)
    case atStart => exact ⟨0, _, Nat.zero_le _, Lib.hid (by simp), by simp, rfl, hS⟩
    case round =>
      obtain ⟨k, zs, hk, HZ, hzk, rfl, hS⟩ := hrel
      by_cases hlt : k < xs.length
      · have hlt2 : k < ys.length := by have := HL.out; omega
        have hlt' : (k : Int) < ys.length := by omega
        obtain ⟨b1, o1, rfl, _, hca⟩ := hx.atNS hlt
        obtain ⟨b2, o2, rfl, _, hcb⟩ := hy.atNS hlt2
        have HS := Lib.hid (zip_fill max HL.out hlt)
        generalize nth xs k = y at *
        generalize nth ys k = m at *
        by_cases h0 : y < m
        all_goals
          go_wp2_with (first | ((first | refine sM1 hS rfl rfl rfl ?_); clear hS; first | ((fail_if_success guard_hyp g1); intro g1 w hS) | ((fail_if_success guard_hyp g2); intro g2 w hS) | fail) | fail)
          refine dr_start1 [12] 0 hS (by kernel_rfl) rfl ?_; clear hS; intro w hS
          refine dM hS 0 rfl rfl rfl ?_
          (try simp only [Act.put, nA, nB, nC])
          refine dM hS 1 rfl rfl rfl ?_
          (try simp only [Act.put, nA, nB, nC])
          refine dM hS 2 rfl rfl rfl ?_
          (try simp only [Act.put, nA, nB, nC])
          refine dM hS 3 rfl rfl rfl ?_
          (try simp only [Act.put, nA, nB, nC])
          refine dP hS 4 rfl rfl ?_
          (try simp only [Act.put, nA, nB, nC])
          first | refine dL1 hS 5 rfl rfl rfl rfl ?_ | refine dL2 hS 5 rfl rfl rfl rfl ?_ | refine dL3 hS 5 rfl rfl rfl ?_ | refine dL4 hS 5 rfl rfl rfl ?_ | refine dL5 hS 5 rfl rfl rfl ?_ | refine dL6 hS 5 rfl rfl rfl ?_ | refine dL7 hS 5 rfl rfl rfl ?_
          (try simp only [Act.put, nA, nB, nC])
          refine dM hS 6 rfl rfl rfl ?_
          (try simp only [Act.put, nA, nB, nC])
          refine dM hS 7 rfl rfl rfl ?_
          (try simp only [Act.put, nA, nB, nC])
          refine dP hS 8 rfl rfl ?_
          (try simp only [Act.put, nA, nB, nC])
          first | refine dL1 hS 9 rfl rfl rfl rfl ?_ | refine dL2 hS 9 rfl rfl rfl rfl ?_ | refine dL3 hS 9 rfl rfl rfl ?_ | refine dL4 hS 9 rfl rfl rfl ?_ | refine dL5 hS 9 rfl rfl rfl ?_ | refine dL6 hS 9 rfl rfl rfl ?_ | refine dL7 hS 9 rfl rfl rfl ?_
          (try simp only [Act.put, nA, nB, nC])
          refine dP hS 10 rfl rfl ?_
          (try simp only [Act.put, nA, nB, nC])
          refine dP hS 11 rfl rfl ?_
          (try simp only [Act.put, nA, nB, nC])
          refine dr_one 12 (by kernel_rfl) rfl ?_
          ((first | refine sS1 hS rfl rfl rfl ?_ | refine sS2 hS rfl rfl rfl ?_ | refine sS3 hS rfl rfl rfl ?_ | refine sS4 hS rfl rfl rfl ?_ | refine sS5 hS rfl rfl rfl ?_); clear hS; intro w hS)
          (try simp only [Act.put, nA, nB, nC])
          refine dr_late (by kernel_rfl) ?_
          refine dr_done (by kernel_rfl) ?_
          go_wp2_with (first | ((first | refine sM1 hS rfl rfl rfl ?_); clear hS; first | ((fail_if_success guard_hyp g1); intro g1 w hS) | ((fail_if_success guard_hyp g2); intro g2 w hS) | fail) | fail)
          go_roundw
          case measure => simp [intOf]; omega
          refine ⟨k + 1, _, by omega, Lib.hid ?_, by simp [hzk], by go_num, hS⟩
          rw [← HS.out, HZ.out]
          congr 1
          first | rfl | omega
      · go_wp2_with (first | ((first | refine sM1 hS rfl rfl rfl ?_); clear hS; first | ((fail_if_success guard_hyp g1); intro g1 w hS) | ((fail_if_success guard_hyp g2); intro g2 w hS) | fail) | fail)
        go_ret
        have e : k = xs.length := by omega
        have hz := HZ.out
        have hl := HL.out
        have hzl : (List.zipWith max xs ys).length = xs.length := by simp; omega
        rw [e, List.take_of_length_le (by omega), Nat.sub_self, List.replicate_zero, List.append_nil] at hz
        subst hz
        rw [hzl]
        exact hS.ret rfl
  · have hne : ((xs.length : Int) != (ys.length : Int)) = true := by simp; omega
    rw [zipI, if_neg hlen]
    go_enter Try.func52, Try.ntmps52
    go_wp2_with (first | ((first | refine sM1 hS rfl rfl rfl ?_); clear hS; first | ((fail_if_success guard_hyp g1); intro g1 w hS) | ((fail_if_success guard_hyp g2); intro g2 w hS) | fail) | fail)
    go_ret
    exact ⟨none, 0, rfl, ownsRow_nil _ _ _ _, hS.toExt⟩
end Go.Proofs.Ytkflmichekpfbaa
