/- The machine of marker.Step: channel, push. Conditions: the machine lies in memory, the numbers are in range. -/
import Derived.Test.YtombhhhaidmpeaaSnSame
import Derived.Test.YtombhhhaidmpeaaTail
import Derived.Test.YtombhhhaidmpeaaGe
namespace Go.Proofs.Ytombhhhaidmpeaa
open Go.RowKit
set_option linter.unusedVariables false
set_option linter.unusedSimpArgs false
set_option linter.unusedSectionVars false

theorem mul_bd {p n : Nat} (hp : p < n) (hn : n ≤ 5) : (p : Int) * (n : Int) = ((p * n : Nat) : Int) ∧ p * n ≤ 25 := ⟨by simp, Nat.mul_le_mul (show p ≤ 5 by omega) hn⟩
set_option maxHeartbeats 1600000 in
theorem chan_any (gm p q n c : Nat) (V : Option Addr) (w0 : World) (hc : w0.cell? ⟨gm, 0, none⟩ = some (.slice V n c)) (hn : n ≤ 5) (hp : p < n) (hq : q < n) :
    Calls Try.prog 82 #[.pointer (some ⟨gm, 0, none⟩), .int .i64 (p : Int), .int .i64 (q : Int)] w0 fun e w' => e = .returned (.int .i64 ((p * n + q : Nat) : Int)) ∧ Ext w0 w' := by
  have hS := St.start w0 NoM
  obtain ⟨hm1, hm2⟩ := mul_bd hp hn
  have HM := Lib.hid (show ((p * n + q : Nat) : Int) = ((p * n : Nat) : Int) + (q : Int) by simp)
  rw [HM.out]
  generalize p * n = pn at *
  go_enter Try.func82, Try.ntmps82
  go_wp2_with (first | (refine oL ?_; (first | refine sL1 hS rfl rfl rfl ?_ | refine sL2 hS rfl rfl rfl ?_ | refine sL3 hS rfl rfl ?_ | refine sL4 hS rfl rfl ?_ | refine sL5 hS rfl rfl ?_ | refine sL6 hS rfl rfl ?_ | refine sL7 hS rfl rfl ?_)) | fail)
  go_ret
  exact ⟨rfl, hS.toExt⟩
set_option maxRecDepth 100000 in
set_option maxHeartbeats 3200000 in
theorem push_st {w0 w u : World} {M T : Nat → Prop} {cs : List (Chunk w0 M)} (gm p q n nn gh ch : Nat) (a1 a2 a4 a5 a6 a7 : Option Addr) (k1 k2 k4 k5 k6 k7 : Nat) (hv : List Value) (B : Option Addr) (cb : Nat) (l : List Pcl) (b : Bool) (x : Int)
    (hS : St w0 M (blk gm [.slice a1 n k1, .slice a2 n k2, .slice (some ⟨gh, 0, none⟩) nn ch, .slice a4 n k4, .slice a5 n k5, .slice a6 nn k6, .slice a7 nn k7] 99 :: row (.slice (some ⟨gh, 0, none⟩) nn ch) 63 1 nn hv :: froz T u :: cs) w)
    (hn : n ≤ 5) (hp : p < n) (hq : q < n) (hk : p * n + q < nn) (hnn : nn ≤ 25) (hvl : hv.length = nn) (hvk : hv[p * n + q]? = some (.slice B l.length cb)) (hcb : l.length ≤ cb) (hcb' : cb ≤ 9223372036854775807) (hB : RV T u B (pcs l)) (hl : l.length ≤ 1000000) :
    Calls Try.prog 81 #[.pointer (some ⟨gm, 0, none⟩), .int .i64 (p : Int), .int .i64 (q : Int), .agg #[.bool b, .int .i64 x]] w fun e w' => e = .returned (.tuple #[]) ∧ ∃ T' vk, St w0 M (blk gm [.slice a1 n k1, .slice a2 n k2, .slice (some ⟨gh, 0, none⟩) nn ch, .slice a4 n k4, .slice a5 n k5, .slice a6 nn k6, .slice a7 nn k7] 99 :: row (.slice (some ⟨gh, 0, none⟩) nn ch) 63 1 nn (hv.set (p * n + q) vk) :: froz T' w' :: cs) w' ∧ Into T T' u w' ∧ ChV T' w' vk (l ++ [(b, x)]) := by
  have HB := Lib.hid (And.intro hB (pcs_len l))
  have hBn : B = none → l.length = 0 := fun h => by
    subst h
    have h1 := RV.none_len hB
    have h2 := pcs_len l
    rw [h1] at h2
    simp only [List.length_nil] at h2
    omega
  have HPQ := Lib.hid (And.intro hp hq)
  clear hB hp hq
  obtain ⟨kk, hkk⟩ : ∃ kk, p * n + q = kk := ⟨_, rfl⟩
  have HK := Lib.hid hkk
  rw [hkk] at hk hvk ⊢
  have hk' : (kk : Int) < nn := by omega
  have hkv : kk < hv.length := by omega
  clear hkk
  go_enter Try.func81, Try.ntmps81
  go_wp2_with (first | (go_at_call 82; refine (chan_any gm p q n k1 a1 _ (hS.cellB rfl) hn HPQ.out.1 HPQ.out.2).mono ?_; rw [HK.out]; rintro e w ⟨rfl, hx1⟩; replace hS := hS.ext hx1) | ((first | (refine oB ?_; first | refine sB1 hS rfl rfl ?_ | refine sB2 hS rfl rfl ?_)); clear hS; first | ((fail_if_success guard_hyp g1); intro g1 w hS) | ((fail_if_success guard_hyp g2); intro g2 w hS) | ((fail_if_success guard_hyp g3); intro g3 w hS) | fail) | fail)
  refine dr_start0 [19]  hS (by kernel_rfl) rfl ?_; clear hS; intro w hS
  refine dM hS 0 rfl rfl rfl ?_
  (try simp only [Act.put, nA, nB, nC])
  refine dP hS 1 rfl rfl ?_
  (try simp only [Act.put, nA, nB, nC])
  refine dP hS 2 rfl rfl ?_
  (try simp only [Act.put, nA, nB, nC])
  refine dP hS 3 rfl rfl ?_
  (try simp only [Act.put, nA, nB, nC])
  first | refine dL1 hS 4 rfl rfl rfl rfl ?_ | refine dL2 hS 4 rfl rfl rfl rfl ?_ | refine dL3 hS 4 rfl rfl rfl ?_ | refine dL4 hS 4 rfl rfl rfl ?_ | refine dL5 hS 4 rfl rfl rfl ?_ | refine dL6 hS 4 rfl rfl rfl ?_ | refine dL7 hS 4 rfl rfl rfl ?_
  (try simp only [Act.put, nA, nB, nC])
  refine dM hS 5 rfl rfl rfl ?_
  (try simp only [Act.put, nA, nB, nC])
  refine dM hS 6 rfl rfl rfl ?_
  (try simp only [Act.put, nA, nB, nC])
  refine dP hS 7 rfl rfl ?_
  (try simp only [Act.put, nA, nB, nC])
  refine dP hS 8 rfl rfl ?_
  (try simp only [Act.put, nA, nB, nC])
  refine dP hS 9 rfl rfl ?_
  (try simp only [Act.put, nA, nB, nC])
  first | refine dL1 hS 10 rfl rfl rfl rfl ?_ | refine dL2 hS 10 rfl rfl rfl rfl ?_ | refine dL3 hS 10 rfl rfl rfl ?_ | refine dL4 hS 10 rfl rfl rfl ?_ | refine dL5 hS 10 rfl rfl rfl ?_ | refine dL6 hS 10 rfl rfl rfl ?_ | refine dL7 hS 10 rfl rfl rfl ?_
  (try simp only [Act.put, nA, nB, nC])
  refine dM hS 11 rfl rfl rfl ?_
  (try simp only [Act.put, nA, nB, nC])
  refine dP hS 12 rfl rfl ?_
  (try simp only [Act.put, nA, nB, nC])
  first | refine dL1 hS 13 rfl rfl rfl rfl ?_ | refine dL2 hS 13 rfl rfl rfl rfl ?_ | refine dL3 hS 13 rfl rfl rfl ?_ | refine dL4 hS 13 rfl rfl rfl ?_ | refine dL5 hS 13 rfl rfl rfl ?_ | refine dL6 hS 13 rfl rfl rfl ?_ | refine dL7 hS 13 rfl rfl rfl ?_
  (try simp only [Act.put, nA, nB, nC])
  first | refine dL1 hS 15 rfl rfl rfl rfl ?_ | refine dL2 hS 15 rfl rfl rfl rfl ?_ | refine dL3 hS 15 rfl rfl rfl ?_ | refine dL4 hS 15 rfl rfl rfl ?_ | refine dL5 hS 15 rfl rfl rfl ?_ | refine dL6 hS 15 rfl rfl rfl ?_ | refine dL7 hS 15 rfl rfl rfl ?_
  (try simp only [Act.put, nA, nB, nC])
  refine dr_two 14 16 (by kernel_rfl) rfl rfl ?_ ?_
  (refine st_call rfl (by kernel_rfl) rfl ?_; go_at_call 90; refine (clipVP_any _ _ _ _ hcb hcb' hBn).mono ?_; rintro e w ⟨rfl, hx1⟩; replace hS := hS.ext hx1)
  (try simp only [Act.put, nA, nB, nC])
  refine dr_end hS ?_
  refine dr_one 16 (by kernel_rfl) rfl ?_
  first | (refine st_appF (sz := 2) hS rfl rfl rfl (HB.out.1.into hS.frozInto) HB.out.2 rfl (by omega) hBn (by omega) ?_; clear hS; intro L3 cl3 w hL3 hM3 hS) | (refine st_str hS rfl rfl rfl rfl (by omega) ?_; clear hS; intro w hS) | ((first | refine sC0 hS rfl ?_ | refine sC1 hS rfl rfl ?_ | refine sC2 hS rfl rfl ?_ | refine sC3 hS rfl rfl rfl ?_ | refine sC4 hS rfl rfl rfl ?_); clear hS; first | ((fail_if_success guard_hyp g1); intro g1 w hS) | ((fail_if_success guard_hyp g2); intro g2 w hS) | ((fail_if_success guard_hyp g3); intro g3 w hS) | fail) | fail
  (try simp only [Act.put, nA, nB, nC])
  refine dr_end hS ?_
  refine dr_one 17 (by kernel_rfl) rfl ?_
  first | (refine st_appF (sz := 2) hS rfl rfl rfl (HB.out.1.into hS.frozInto) HB.out.2 rfl (by omega) hBn (by omega) ?_; clear hS; intro L3 cl3 w hL3 hM3 hS) | (refine st_str hS rfl rfl rfl rfl (by omega) ?_; clear hS; intro w hS) | ((first | refine sP1 hS rfl rfl rfl ?_ | refine sP2 hS rfl rfl rfl ?_ | refine sP3 hS rfl rfl rfl ?_); clear hS; first | ((fail_if_success guard_hyp L1); intro L1 cl1 w hL1 hM1 hS) | ((fail_if_success guard_hyp L2); intro L2 cl2 w hL2 hM2 hS) | fail) | fail
  (try simp only [Act.put, nA, nB, nC])
  refine dr_end hS ?_
  refine dP hS 18 rfl rfl ?_
  (try simp only [Act.put, nA, nB, nC])
  refine dr_one 19 (by kernel_rfl) rfl ?_
  first | (refine st_appF (sz := 2) hS rfl rfl rfl (HB.out.1.into hS.frozInto) HB.out.2 rfl (by omega) hBn (by omega) ?_; clear hS; intro L3 cl3 w hL3 hM3 hS) | (refine st_str hS rfl rfl rfl rfl (by omega) ?_; clear hS; intro w hS) | ((first | refine sS1 hS rfl rfl rfl ?_ | refine sS2 hS rfl rfl rfl ?_ | refine sS3 hS rfl rfl rfl ?_ | refine sS4 hS rfl rfl rfl ?_ | refine sS5 hS rfl rfl rfl ?_); clear hS; intro w hS) | fail
  (try simp only [Act.put, nA, nB, nC])
  refine dr_late (by kernel_rfl) ?_
  refine dr_done (by kernel_rfl) ?_
  rotate_left
  first | (refine st_appF (sz := 2) hS rfl rfl rfl (HB.out.1.into hS.frozInto) HB.out.2 rfl (by omega) hBn (by omega) ?_; clear hS; intro L3 cl3 w hL3 hM3 hS) | (refine st_str hS rfl rfl rfl rfl (by omega) ?_; clear hS; intro w hS) | ((first | refine sC0 hS rfl ?_ | refine sC1 hS rfl rfl ?_ | refine sC2 hS rfl rfl ?_ | refine sC3 hS rfl rfl rfl ?_ | refine sC4 hS rfl rfl rfl ?_); clear hS; first | ((fail_if_success guard_hyp g1); intro g1 w hS) | ((fail_if_success guard_hyp g2); intro g2 w hS) | ((fail_if_success guard_hyp g3); intro g3 w hS) | fail) | fail
  (try simp only [Act.put, nA, nB, nC])
  refine dr_end hS ?_
  refine dr_one 14 (by kernel_rfl) rfl ?_
  (refine st_call rfl (by kernel_rfl) rfl ?_; go_at_call 90; refine (clipVP_any _ _ _ _ hcb hcb' hBn).mono ?_; rintro e w ⟨rfl, hx1⟩; replace hS := hS.ext hx1)
  (try simp only [Act.put, nA, nB, nC])
  refine dr_end hS ?_
  refine dr_one 17 (by kernel_rfl) rfl ?_
  first | (refine st_appF (sz := 2) hS rfl rfl rfl (HB.out.1.into hS.frozInto) HB.out.2 rfl (by omega) hBn (by omega) ?_; clear hS; intro L3 cl3 w hL3 hM3 hS) | (refine st_str hS rfl rfl rfl rfl (by omega) ?_; clear hS; intro w hS) | ((first | refine sP1 hS rfl rfl rfl ?_ | refine sP2 hS rfl rfl rfl ?_ | refine sP3 hS rfl rfl rfl ?_); clear hS; first | ((fail_if_success guard_hyp L1); intro L1 cl1 w hL1 hM1 hS) | ((fail_if_success guard_hyp L2); intro L2 cl2 w hL2 hM2 hS) | fail) | fail
  (try simp only [Act.put, nA, nB, nC])
  refine dr_end hS ?_
  refine dP hS 18 rfl rfl ?_
  (try simp only [Act.put, nA, nB, nC])
  refine dr_one 19 (by kernel_rfl) rfl ?_
  first | (refine st_appF (sz := 2) hS rfl rfl rfl (HB.out.1.into hS.frozInto) HB.out.2 rfl (by omega) hBn (by omega) ?_; clear hS; intro L3 cl3 w hL3 hM3 hS) | (refine st_str hS rfl rfl rfl rfl (by omega) ?_; clear hS; intro w hS) | ((first | refine sS1 hS rfl rfl rfl ?_ | refine sS2 hS rfl rfl rfl ?_ | refine sS3 hS rfl rfl rfl ?_ | refine sS4 hS rfl rfl rfl ?_ | refine sS5 hS rfl rfl rfl ?_); clear hS; intro w hS) | fail
  (try simp only [Act.put, nA, nB, nC])
  refine dr_late (by kernel_rfl) ?_
  refine dr_done (by kernel_rfl) ?_
  rotate_left
  all_goals
    go_wp2_with (first | ((first | (refine oB ?_; first | refine sB1 hS rfl rfl ?_ | refine sB2 hS rfl rfl ?_)); clear hS; first | ((fail_if_success guard_hyp g1); intro g1 w hS) | ((fail_if_success guard_hyp g2); intro g2 w hS) | ((fail_if_success guard_hyp g3); intro g3 w hS) | fail) | fail)
    go_end0
    obtain ⟨T', hS', hi, hr⟩ := hS.freezeV
    exact ⟨rfl, T', .slice L3 (l.length + 1) cl3, hS'.re, hi, ⟨L3, cl3, by simp, by simp; omega, hM3, by rw [pcs_append, pcs_one]; exact hr⟩⟩
end Go.Proofs.Ytombhhhaidmpeaa
