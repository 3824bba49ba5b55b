/- MarkerRefuses: what any single move does after some moves. No condition. -/
import Derived.Test.YtkaofbjppibdkaaSnRefL
import Derived.Test.YtkaofbjppibdkaaGe
import Derived.Lib.SmallJoins
namespace Go.Proofs.Ytkaofbjppibdkaa
open Go.RowKit
set_option linter.unusedVariables false
set_option linter.unusedSimpArgs false
set_option linter.unusedSectionVars false

set_option maxRecDepth 100000 in
set_option maxHeartbeats 6400000 in
theorem markerRefuses_any (V : Option Addr) (g : Nat) (vs : List Int) (C : Option Addr) (f : Nat) (bs : List Int) (k1 k2 k3 k4 : Int) (w0 : World) (hvs : RI (fun b => b < w0.heap.size) w0 V vs) (hg : vs.length ≤ g) (hg' : g ≤ 9223372036854775807) (hin : ∀ b ∈ vs, -9223372036854775808 ≤ b ∧ b ≤ 9223372036854775807) (hbs : RV (fun b => b < w0.heap.size) w0 C (bytes bs)) (hf : bs.length ≤ f) (hf' : f ≤ 9223372036854775807) (hby : ∀ b ∈ bs, 0 ≤ b ∧ b ≤ 255) (hk1 : -9223372036854775808 ≤ k1 ∧ k1 ≤ 9223372036854775807) (hk2 : -9223372036854775808 ≤ k2 ∧ k2 ≤ 9223372036854775807) (hk3 : -9223372036854775808 ≤ k3 ∧ k3 ≤ 9223372036854775807) (hk4 : -9223372036854775808 ≤ k4 ∧ k4 ≤ 9223372036854775807) :
    Calls Try.prog 5 #[.slice V vs.length g, .slice C bs.length f, .agg #[.int .i64 k1, .int .i64 k2, .int .i64 k3, .int .i64 k4]] w0 fun e w' => e = .returned (.bool true) ∧ Ext w0 w' := by
  have hS := St.start w0 NoM
  have HV := Lib.hid (And.intro hvs (And.intro hin (And.intro hbs hby)))
  clear hvs hin hbs hby
  go_enter Try.func5, Try.ntmps5
  go_wp2_with (first | (go_at_call 10; refine (awake23_any _).mono ?_; rintro e w ⟨rfl, hx1⟩; replace hS := hS.ext hx1) | (refine oL ?_; (first | refine sL1 hS rfl rfl rfl ?_ | refine sL2 hS rfl rfl rfl ?_ | refine sL3 hS rfl rfl ?_ | refine sL4 hS rfl rfl ?_ | refine sL5 hS rfl rfl ?_ | refine sL6 hS rfl rfl ?_ | refine sL7 hS rfl rfl ?_)) | (refine oS ?_; ((first | refine sS1 hS rfl rfl rfl ?_ | refine sS2 hS rfl rfl rfl ?_ | refine sS3 hS rfl rfl rfl ?_ | refine sS4 hS rfl rfl rfl ?_ | refine sS5 hS rfl rfl rfl ?_); clear hS; intro w hS)) | ((first | (refine oB ?_; first | refine sB1 hS rfl rfl ?_ | refine sB2 hS rfl rfl ?_) | refine sN1 hS rfl ?_); clear hS; first | ((fail_if_success guard_hyp g1); intro g1 w hS) | ((fail_if_success guard_hyp g2); intro g2 w hS) | ((fail_if_success guard_hyp g3); intro g3 w hS) | ((fail_if_success guard_hyp g4); intro g4 w hS) | ((fail_if_success guard_hyp g5); intro g5 w hS) | ((fail_if_success guard_hyp g6); intro g6 w hS) | ((fail_if_success guard_hyp g7); intro g7 w hS) | ((fail_if_success guard_hyp g8); intro g8 w hS) | fail) | fail)
  refine (start_n (HV.out.1.ext hS.toExt) hg hg' HV.out.2.1 (HV.out.2.2.1.ext hS.toExt) hf hf' HV.out.2.2.2).mono ?_
  rintro e u1 ⟨L1, q1, n, xs, L2, q2, m, l, rfl, hxl, hn2, hn4, hxi, hll, hm50, hr1, hr2, hx1⟩
  replace hS := hS.frozNew hx1
  obtain ⟨N1, hN1⟩ : ∃ N : Nat → Prop, N = fun k => w.heap.size ≤ k ∧ k < u1.heap.size := ⟨_, rfl⟩
  rw [← hN1] at hS hr1 hr2
  have HX := Lib.hid (And.intro hxl (And.intro hxi hr1))
  have HL := Lib.hid (And.intro hll hr2)
  clear hN1 hxl hxi hr1 hll hr2 hx1 HV
  obtain ⟨nn, hnn⟩ : ∃ nn, nn = n * n := ⟨_, rfl⟩
  have hnn25 : nn ≤ 25 := by rw [hnn]; exact Nat.le_trans (Nat.mul_le_mul hn4 hn4) (by decide)
  have HNN := Lib.hid hnn.symm
  clear hnn
  go_wp2_with (first | (refine oL ?_; (first | refine sL1 hS rfl rfl rfl ?_ | refine sL2 hS rfl rfl rfl ?_ | refine sL3 hS rfl rfl ?_ | refine sL4 hS rfl rfl ?_ | refine sL5 hS rfl rfl ?_ | refine sL6 hS rfl rfl ?_ | refine sL7 hS rfl rfl ?_)) | (refine oS ?_; ((first | refine sS1 hS rfl rfl rfl ?_ | refine sS2 hS rfl rfl rfl ?_ | refine sS3 hS rfl rfl rfl ?_ | refine sS4 hS rfl rfl rfl ?_ | refine sS5 hS rfl rfl rfl ?_); clear hS; intro w hS)) | ((first | (refine oB ?_; first | refine sB1 hS rfl rfl ?_ | refine sB2 hS rfl rfl ?_) | refine sN1 hS rfl ?_); clear hS; first | ((fail_if_success guard_hyp g1); intro g1 w hS) | ((fail_if_success guard_hyp g2); intro g2 w hS) | ((fail_if_success guard_hyp g3); intro g3 w hS) | ((fail_if_success guard_hyp g4); intro g4 w hS) | ((fail_if_success guard_hyp g5); intro g5 w hS) | ((fail_if_success guard_hyp g6); intro g6 w hS) | ((fail_if_success guard_hyp g7); intro g7 w hS) | ((fail_if_success guard_hyp g8); intro g8 w hS) | fail) | fail)
  refine (snew_n HX.out.1 (HX.out.2.2.into hS.frozInto) (by omega) (by omega)).mono ?_
  rintro e u ⟨⟨A1, c1, A2, c2, A3, c3, A4, c4, A5, c5, A6, c6, A7, c7⟩, rfl, hsn, hx1⟩
  replace hS := hS.frozNew hx1
  obtain ⟨N2, hN2⟩ : ∃ N : Nat → Prop, N = fun k => u1.heap.size ≤ k ∧ k < u.heap.size := ⟨_, rfl⟩
  rw [← hN2] at hS hsn
  have HSN := Lib.hid hsn
  clear hN2 hsn hx1
  simp only [HNN.out]
  go_wp2_with (first | (refine oL ?_; (first | refine sL1 hS rfl rfl rfl ?_ | refine sL2 hS rfl rfl rfl ?_ | refine sL3 hS rfl rfl ?_ | refine sL4 hS rfl rfl ?_ | refine sL5 hS rfl rfl ?_ | refine sL6 hS rfl rfl ?_ | refine sL7 hS rfl rfl ?_)) | (refine oS ?_; ((first | refine sS1 hS rfl rfl rfl ?_ | refine sS2 hS rfl rfl rfl ?_ | refine sS3 hS rfl rfl rfl ?_ | refine sS4 hS rfl rfl rfl ?_ | refine sS5 hS rfl rfl rfl ?_); clear hS; intro w hS)) | ((first | (refine oB ?_; first | refine sB1 hS rfl rfl ?_ | refine sB2 hS rfl rfl ?_) | refine sN1 hS rfl ?_); clear hS; first | ((fail_if_success guard_hyp g1); intro g1 w hS) | ((fail_if_success guard_hyp g2); intro g2 w hS) | ((fail_if_success guard_hyp g3); intro g3 w hS) | ((fail_if_success guard_hyp g4); intro g4 w hS) | ((fail_if_success guard_hyp g5); intro g5 w hS) | ((fail_if_success guard_hyp g6); intro g6 w hS) | ((fail_if_success guard_hyp g7); intro g7 w hS) | ((fail_if_success guard_hyp g8); intro g8 w hS) | fail) | fail)
  have HS0 := Lib.hid (newS_ok (vs := xs) (by rw [HX.out.1]; omega) (by rw [HX.out.1]; omega) HX.out.2.1)
  rw [HX.out.1] at HS0
  generalize hs0 : newS xs = s0 at *
  have HNS := Lib.hid hs0
  clear hs0
  go_loopw [11] (fun s11 wr => ∃ (i : Nat) (A1 : Option Addr) (c1 : Nat) (A2 : Option Addr) (c2 : Nat) (A3 : Option Addr) (c3 : Nat) (A4 : Option Addr) (c4 : Nat) (A5 : Option Addr) (c5 : Nat) (A6 : Option Addr) (c6 : Nat) (A7 : Option Addr) (c7 : Nat) (s : Snp) (T : Nat → Prop) (u : World), i ≤ m ∧ s11 = .int .i64 i ∧ Hid (runS (fL l) s0 i = s) ∧ Hid (SnAt T u ⟨A1, c1, A2, c2, A3, c3, A4, c4, A5, c5, A6, c6, A7, c7⟩ s) ∧ St w0 NoM [blk g2 [.slice A1 n c1, .slice A2 n c2, .slice A3 nn c3, .slice A4 n c4, .slice A5 n c5, .slice A6 nn c6, .slice A7 nn c7] 28, froz T u, froz N1 u1, blk g1 [.int .i64 k1, .int .i64 k2, .int .i64 k3, .int .i64 k4] 40] wr) (fun s11 _ => m - (intOf s11).toNat)
  case atStart => exact ⟨0, A1, c1, A2, c2, A3, c3, A4, c4, A5, c5, A6, c6, A7, c7, s0, N2, u, by omega, rfl, Lib.hid rfl, HSN, hS.re⟩
  case round =>
    clear hS HSN
    obtain ⟨i, A1, c1, A2, c2, A3, c3, A4, c4, A5, c5, A6, c6, A7, c7, s, T, u, hi, rfl, HRUN, HSN, hS⟩ := hrel
    have HC := Lib.hid (show SnOk n i s by have h := runS_ok (f := fL l) HS0.out i; rw [HRUN.out, Nat.zero_add] at h; exact h)
    by_cases hlt : i < m
    · have hlt' : (i : Int) < m := by omega
      obtain ⟨b1, o1, e1, hmv⟩ := mv_fcs HL.out.2 (i := i) (by rw [HL.out.1]; exact hlt)
      subst e1
      have HFI := Lib.hid (fL_at (l := l) (i := i) (by rw [HL.out.1]; exact hlt))
      generalize l[i]'(by rw [HL.out.1]; exact hlt) = mv at *
      obtain ⟨kd, fr, tt, val⟩ := mv
      simp only at hmv
      by_cases hr : refS s ⟨kd, fr, tt, val⟩ = 0
      · have HR := Lib.hid hr
        have HN2 := Lib.hid (runS_next HRUN.out HFI.out HR.out)
        clear hr
        go_wp2_with (first | (refine oL ?_; (first | refine sL1 hS rfl rfl rfl ?_ | refine sL2 hS rfl rfl rfl ?_ | refine sL3 hS rfl rfl ?_ | refine sL4 hS rfl rfl ?_ | refine sL5 hS rfl rfl ?_ | refine sL6 hS rfl rfl ?_ | refine sL7 hS rfl rfl ?_)) | (refine oS ?_; ((first | refine sS1 hS rfl rfl rfl ?_ | refine sS2 hS rfl rfl rfl ?_ | refine sS3 hS rfl rfl rfl ?_ | refine sS4 hS rfl rfl rfl ?_ | refine sS5 hS rfl rfl rfl ?_); clear hS; intro w hS)) | ((first | (refine oB ?_; first | refine sB1 hS rfl rfl ?_ | refine sB2 hS rfl rfl ?_) | refine sN1 hS rfl ?_); clear hS; first | ((fail_if_success guard_hyp g1); intro g1 w hS) | ((fail_if_success guard_hyp g2); intro g2 w hS) | ((fail_if_success guard_hyp g3); intro g3 w hS) | ((fail_if_success guard_hyp g4); intro g4 w hS) | ((fail_if_success guard_hyp g5); intro g5 w hS) | ((fail_if_success guard_hyp g6); intro g6 w hS) | ((fail_if_success guard_hyp g7); intro g7 w hS) | ((fail_if_success guard_hyp g8); intro g8 w hS) | fail) | fail)
        refine dr_start0 []  hS (by kernel_rfl) rfl ?_; clear hS; intro w hS
        first | refine dL1 hS 0 rfl rfl rfl rfl ?_ | refine dL2 hS 0 rfl rfl rfl rfl ?_ | refine dL3 hS 0 rfl rfl rfl ?_ | refine dL4 hS 0 rfl rfl rfl ?_ | refine dL5 hS 0 rfl rfl rfl ?_ | refine dL6 hS 0 rfl rfl rfl ?_ | refine dL7 hS 0 rfl rfl rfl ?_
        (try simp only [Act.put, nA, nB, nC])
        refine dM hS 1 rfl rfl rfl ?_
        (try simp only [Act.put, nA, nB, nC])
        refine dM hS 2 rfl rfl rfl ?_
        (try simp only [Act.put, nA, nB, nC])
        refine dP hS 3 rfl rfl ?_
        (try simp only [Act.put, nA, nB, nC])
        first | refine dL1 hS 4 rfl rfl rfl rfl ?_ | refine dL2 hS 4 rfl rfl rfl rfl ?_ | refine dL3 hS 4 rfl rfl rfl ?_ | refine dL4 hS 4 rfl rfl rfl ?_ | refine dL5 hS 4 rfl rfl rfl ?_ | refine dL6 hS 4 rfl rfl rfl ?_ | refine dL7 hS 4 rfl rfl rfl ?_
        (try simp only [Act.put, nA, nB, nC])
        refine dr_two 5 9 (by kernel_rfl) rfl rfl ?_ ?_
        (refine st_call rfl (by kernel_rfl) rfl ?_; go_at_call 15; refine (step_n (HSN.out.into hS.intoK) HC.out HNN.out (by omega) HR.out).mono ?_; rintro e w1 ⟨D1, j1, D2, j2, D3, j3, D4, j4, D5, j5, D6, j6, D7, j7, rfl, hsn, hx1⟩; obtain ⟨T1, hS1, hi1, hi0⟩ := hS.grow2 hx1; replace hS := hS1; clear hS1; have HS1 := Lib.hid (hsn.into hi1); clear hsn)
        (try simp only [Act.put, nA, nB, nC])
        refine dr_end hS ?_
        refine dM hS 6 rfl rfl rfl ?_
        (try simp only [Act.put, nA, nB, nC])
        refine dP hS 7 rfl rfl ?_
        (try simp only [Act.put, nA, nB, nC])
        refine dP hS 8 rfl rfl ?_
        (try simp only [Act.put, nA, nB, nC])
        refine dr_one 9 (by kernel_rfl) rfl ?_
        (refine sN1 hS rfl ?_; clear hS; first | ((fail_if_success guard_hyp g1); intro g1 w hS) | ((fail_if_success guard_hyp g2); intro g2 w hS) | ((fail_if_success guard_hyp g3); intro g3 w hS) | ((fail_if_success guard_hyp g4); intro g4 w hS) | ((fail_if_success guard_hyp g5); intro g5 w hS) | ((fail_if_success guard_hyp g6); intro g6 w hS) | ((fail_if_success guard_hyp g7); intro g7 w hS) | ((fail_if_success guard_hyp g8); intro g8 w hS) | fail)
        (try simp only [Act.put, nA, nB, nC])
        refine dr_end hS ?_
        refine dr_one 10 (by kernel_rfl) rfl ?_
        ((first | refine sS1 hS rfl rfl rfl ?_ | refine sS2 hS rfl rfl rfl ?_ | refine sS3 hS rfl rfl rfl ?_ | refine sS4 hS rfl rfl rfl ?_ | refine sS5 hS rfl rfl rfl ?_); clear hS; intro w hS)
        (try simp only [Act.put, nA, nB, nC])
        refine dr_end hS ?_
        refine dA hS 11 rfl rfl rfl ?_
        (try simp only [Act.put, nA, nB, nC])
        refine dr_done (by kernel_rfl) ?_
        rotate_left
        (refine sN1 hS rfl ?_; clear hS; first | ((fail_if_success guard_hyp g1); intro g1 w hS) | ((fail_if_success guard_hyp g2); intro g2 w hS) | ((fail_if_success guard_hyp g3); intro g3 w hS) | ((fail_if_success guard_hyp g4); intro g4 w hS) | ((fail_if_success guard_hyp g5); intro g5 w hS) | ((fail_if_success guard_hyp g6); intro g6 w hS) | ((fail_if_success guard_hyp g7); intro g7 w hS) | ((fail_if_success guard_hyp g8); intro g8 w hS) | fail)
        (try simp only [Act.put, nA, nB, nC])
        refine dr_end hS ?_
        refine dr_one 5 (by kernel_rfl) rfl ?_
        (refine st_call rfl (by kernel_rfl) rfl ?_; go_at_call 15; refine (step_n (HSN.out.into hS.intoK) HC.out HNN.out (by omega) HR.out).mono ?_; rintro e w1 ⟨D1, j1, D2, j2, D3, j3, D4, j4, D5, j5, D6, j6, D7, j7, rfl, hsn, hx1⟩; obtain ⟨T1, hS1, hi1, hi0⟩ := hS.grow2 hx1; replace hS := hS1; clear hS1; have HS1 := Lib.hid (hsn.into hi1); clear hsn)
        (try simp only [Act.put, nA, nB, nC])
        refine dr_end hS ?_
        refine dM hS 6 rfl rfl rfl ?_
        (try simp only [Act.put, nA, nB, nC])
        refine dP hS 7 rfl rfl ?_
        (try simp only [Act.put, nA, nB, nC])
        refine dP hS 8 rfl rfl ?_
        (try simp only [Act.put, nA, nB, nC])
        refine dr_one 10 (by kernel_rfl) rfl ?_
        ((first | refine sS1 hS rfl rfl rfl ?_ | refine sS2 hS rfl rfl rfl ?_ | refine sS3 hS rfl rfl rfl ?_ | refine sS4 hS rfl rfl rfl ?_ | refine sS5 hS rfl rfl rfl ?_); clear hS; intro w hS)
        (try simp only [Act.put, nA, nB, nC])
        refine dr_end hS ?_
        refine dA hS 11 rfl rfl rfl ?_
        (try simp only [Act.put, nA, nB, nC])
        refine dr_done (by kernel_rfl) ?_
        rotate_left
        all_goals
          replace hS := hS.re (ds := [blk g2 [.slice A1 n c1, .slice A2 n c2, .slice A3 nn c3, .slice A4 n c4, .slice A5 n c5, .slice A6 nn c6, .slice A7 nn c7] 28, blk g3 [.slice D1 n j1, .slice D2 n j2, .slice D3 nn j3, .slice D4 n j4, .slice D5 n j5, .slice D6 nn j6, .slice D7 nn j7] 28, froz T1 w1, froz T u, froz N1 u1, blk g1 [.int .i64 k1, .int .i64 k2, .int .i64 k3, .int .i64 k4] 40])
          obtain ⟨T2, hS2, hi2, hi3⟩ := hS.merge T1 w1 hi0
          have HS2 := Lib.hid (HS1.out.into hi3)
          replace hS := hS2
          clear hS2 hi0 hi1 hi2 hi3 HS1 HSN
          generalize goS s _ = s2 at *
          go_wp2_with (first | (refine oL ?_; (first | refine sL1 hS rfl rfl rfl ?_ | refine sL2 hS rfl rfl rfl ?_ | refine sL3 hS rfl rfl ?_ | refine sL4 hS rfl rfl ?_ | refine sL5 hS rfl rfl ?_ | refine sL6 hS rfl rfl ?_ | refine sL7 hS rfl rfl ?_)) | (refine oS ?_; ((first | refine sS1 hS rfl rfl rfl ?_ | refine sS2 hS rfl rfl rfl ?_ | refine sS3 hS rfl rfl rfl ?_ | refine sS4 hS rfl rfl rfl ?_ | refine sS5 hS rfl rfl rfl ?_); clear hS; intro w hS)) | ((first | (refine oB ?_; first | refine sB1 hS rfl rfl ?_ | refine sB2 hS rfl rfl ?_) | refine sN1 hS rfl ?_); clear hS; first | ((fail_if_success guard_hyp g1); intro g1 w hS) | ((fail_if_success guard_hyp g2); intro g2 w hS) | ((fail_if_success guard_hyp g3); intro g3 w hS) | ((fail_if_success guard_hyp g4); intro g4 w hS) | ((fail_if_success guard_hyp g5); intro g5 w hS) | ((fail_if_success guard_hyp g6); intro g6 w hS) | ((fail_if_success guard_hyp g7); intro g7 w hS) | ((fail_if_success guard_hyp g8); intro g8 w hS) | fail) | fail)
          go_roundw
          case measure => simp [intOf]; omega
          exact ⟨i + 1, D1, j1, D2, j2, D3, j3, D4, j4, D5, j5, D6, j6, D7, j7, s2, T2, _, by omega, by go_num, HN2, HS2, hS.re⟩
      · have HR := Lib.hid (show (refS s ⟨kd, fr, tt, val⟩ == 0) = false by simpa using hr)
        have HR0 := Lib.hid hr
        have HN2 := Lib.hid (runS_same HRUN.out HFI.out HR0.out)
        clear hr
        go_wp2_with (first | (refine oL ?_; (first | refine sL1 hS rfl rfl rfl ?_ | refine sL2 hS rfl rfl rfl ?_ | refine sL3 hS rfl rfl ?_ | refine sL4 hS rfl rfl ?_ | refine sL5 hS rfl rfl ?_ | refine sL6 hS rfl rfl ?_ | refine sL7 hS rfl rfl ?_)) | (refine oS ?_; ((first | refine sS1 hS rfl rfl rfl ?_ | refine sS2 hS rfl rfl rfl ?_ | refine sS3 hS rfl rfl rfl ?_ | refine sS4 hS rfl rfl rfl ?_ | refine sS5 hS rfl rfl rfl ?_); clear hS; intro w hS)) | ((first | (refine oB ?_; first | refine sB1 hS rfl rfl ?_ | refine sB2 hS rfl rfl ?_) | refine sN1 hS rfl ?_); clear hS; first | ((fail_if_success guard_hyp g1); intro g1 w hS) | ((fail_if_success guard_hyp g2); intro g2 w hS) | ((fail_if_success guard_hyp g3); intro g3 w hS) | ((fail_if_success guard_hyp g4); intro g4 w hS) | ((fail_if_success guard_hyp g5); intro g5 w hS) | ((fail_if_success guard_hyp g6); intro g6 w hS) | ((fail_if_success guard_hyp g7); intro g7 w hS) | ((fail_if_success guard_hyp g8); intro g8 w hS) | fail) | fail)
        refine dr_start0 []  hS (by kernel_rfl) rfl ?_; clear hS; intro w hS
        first | refine dL1 hS 0 rfl rfl rfl rfl ?_ | refine dL2 hS 0 rfl rfl rfl rfl ?_ | refine dL3 hS 0 rfl rfl rfl ?_ | refine dL4 hS 0 rfl rfl rfl ?_ | refine dL5 hS 0 rfl rfl rfl ?_ | refine dL6 hS 0 rfl rfl rfl ?_ | refine dL7 hS 0 rfl rfl rfl ?_
        (try simp only [Act.put, nA, nB, nC])
        refine dM hS 1 rfl rfl rfl ?_
        (try simp only [Act.put, nA, nB, nC])
        refine dM hS 2 rfl rfl rfl ?_
        (try simp only [Act.put, nA, nB, nC])
        refine dP hS 3 rfl rfl ?_
        (try simp only [Act.put, nA, nB, nC])
        first | refine dL1 hS 4 rfl rfl rfl rfl ?_ | refine dL2 hS 4 rfl rfl rfl rfl ?_ | refine dL3 hS 4 rfl rfl rfl ?_ | refine dL4 hS 4 rfl rfl rfl ?_ | refine dL5 hS 4 rfl rfl rfl ?_ | refine dL6 hS 4 rfl rfl rfl ?_ | refine dL7 hS 4 rfl rfl rfl ?_
        (try simp only [Act.put, nA, nB, nC])
        refine dr_two 5 9 (by kernel_rfl) rfl rfl ?_ ?_
        (refine st_call rfl (by kernel_rfl) rfl ?_; go_at_call 15; refine (step_r (HSN.out.into hS.intoK) HC.out HNN.out (by omega) HR0.out).mono ?_; rintro e w1 ⟨D1, j1, D2, j2, D3, j3, D4, j4, D5, j5, D6, j6, D7, j7, rfl, hx1⟩; replace hS := hS.ext hx1)
        (try simp only [Act.put, nA, nB, nC])
        refine dr_end hS ?_
        refine dM hS 6 rfl rfl rfl ?_
        (try simp only [Act.put, nA, nB, nC])
        refine dP hS 7 rfl rfl ?_
        (try simp only [Act.put, nA, nB, nC])
        refine dP hS 8 rfl rfl ?_
        (try simp only [Act.put, nA, nB, nC])
        refine dr_one 9 (by kernel_rfl) rfl ?_
        (refine sN1 hS rfl ?_; clear hS; first | ((fail_if_success guard_hyp g1); intro g1 w hS) | ((fail_if_success guard_hyp g2); intro g2 w hS) | ((fail_if_success guard_hyp g3); intro g3 w hS) | ((fail_if_success guard_hyp g4); intro g4 w hS) | ((fail_if_success guard_hyp g5); intro g5 w hS) | ((fail_if_success guard_hyp g6); intro g6 w hS) | ((fail_if_success guard_hyp g7); intro g7 w hS) | ((fail_if_success guard_hyp g8); intro g8 w hS) | fail)
        (try simp only [Act.put, nA, nB, nC])
        refine dr_end hS ?_
        refine dr_one 10 (by kernel_rfl) rfl ?_
        ((first | refine sS1 hS rfl rfl rfl ?_ | refine sS2 hS rfl rfl rfl ?_ | refine sS3 hS rfl rfl rfl ?_ | refine sS4 hS rfl rfl rfl ?_ | refine sS5 hS rfl rfl rfl ?_); clear hS; intro w hS)
        (try simp only [Act.put, nA, nB, nC])
        refine dr_end hS ?_
        refine dA hS 11 rfl rfl rfl ?_
        (try simp only [Act.put, nA, nB, nC])
        refine dr_done (by kernel_rfl) ?_
        rotate_left
        (refine sN1 hS rfl ?_; clear hS; first | ((fail_if_success guard_hyp g1); intro g1 w hS) | ((fail_if_success guard_hyp g2); intro g2 w hS) | ((fail_if_success guard_hyp g3); intro g3 w hS) | ((fail_if_success guard_hyp g4); intro g4 w hS) | ((fail_if_success guard_hyp g5); intro g5 w hS) | ((fail_if_success guard_hyp g6); intro g6 w hS) | ((fail_if_success guard_hyp g7); intro g7 w hS) | ((fail_if_success guard_hyp g8); intro g8 w hS) | fail)
        (try simp only [Act.put, nA, nB, nC])
        refine dr_end hS ?_
        refine dr_one 5 (by kernel_rfl) rfl ?_
        (refine st_call rfl (by kernel_rfl) rfl ?_; go_at_call 15; refine (step_r (HSN.out.into hS.intoK) HC.out HNN.out (by omega) HR0.out).mono ?_; rintro e w1 ⟨D1, j1, D2, j2, D3, j3, D4, j4, D5, j5, D6, j6, D7, j7, rfl, hx1⟩; replace hS := hS.ext hx1)
        (try simp only [Act.put, nA, nB, nC])
        refine dr_end hS ?_
        refine dM hS 6 rfl rfl rfl ?_
        (try simp only [Act.put, nA, nB, nC])
        refine dP hS 7 rfl rfl ?_
        (try simp only [Act.put, nA, nB, nC])
        refine dP hS 8 rfl rfl ?_
        (try simp only [Act.put, nA, nB, nC])
        refine dr_one 10 (by kernel_rfl) rfl ?_
        ((first | refine sS1 hS rfl rfl rfl ?_ | refine sS2 hS rfl rfl rfl ?_ | refine sS3 hS rfl rfl rfl ?_ | refine sS4 hS rfl rfl rfl ?_ | refine sS5 hS rfl rfl rfl ?_); clear hS; intro w hS)
        (try simp only [Act.put, nA, nB, nC])
        refine dr_end hS ?_
        refine dA hS 11 rfl rfl rfl ?_
        (try simp only [Act.put, nA, nB, nC])
        refine dr_done (by kernel_rfl) ?_
        rotate_left
        all_goals
          have er0 := HR.out
          have er1 := HR0.out
          clear HR HR0
          generalize refS s ⟨kd, fr, tt, val⟩ = er at *
          go_wp2_with (first | (refine oL ?_; (first | refine sL1 hS rfl rfl rfl ?_ | refine sL2 hS rfl rfl rfl ?_ | refine sL3 hS rfl rfl ?_ | refine sL4 hS rfl rfl ?_ | refine sL5 hS rfl rfl ?_ | refine sL6 hS rfl rfl ?_ | refine sL7 hS rfl rfl ?_)) | (refine oS ?_; ((first | refine sS1 hS rfl rfl rfl ?_ | refine sS2 hS rfl rfl rfl ?_ | refine sS3 hS rfl rfl rfl ?_ | refine sS4 hS rfl rfl rfl ?_ | refine sS5 hS rfl rfl rfl ?_); clear hS; intro w hS)) | ((first | (refine oB ?_; first | refine sB1 hS rfl rfl ?_ | refine sB2 hS rfl rfl ?_) | refine sN1 hS rfl ?_); clear hS; first | ((fail_if_success guard_hyp g1); intro g1 w hS) | ((fail_if_success guard_hyp g2); intro g2 w hS) | ((fail_if_success guard_hyp g3); intro g3 w hS) | ((fail_if_success guard_hyp g4); intro g4 w hS) | ((fail_if_success guard_hyp g5); intro g5 w hS) | ((fail_if_success guard_hyp g6); intro g6 w hS) | ((fail_if_success guard_hyp g7); intro g7 w hS) | ((fail_if_success guard_hyp g8); intro g8 w hS) | fail) | fail)
          go_roundw
          case measure => simp [intOf]; omega
          exact ⟨i + 1, A1, c1, A2, c2, A3, c3, A4, c4, A5, c5, A6, c6, A7, c7, s, T, u, by omega, by go_num, HN2, HSN, hS.re⟩
    · obtain rfl : m = i := by omega
      go_wp2_with (first | (refine oL ?_; (first | refine sL1 hS rfl rfl rfl ?_ | refine sL2 hS rfl rfl rfl ?_ | refine sL3 hS rfl rfl ?_ | refine sL4 hS rfl rfl ?_ | refine sL5 hS rfl rfl ?_ | refine sL6 hS rfl rfl ?_ | refine sL7 hS rfl rfl ?_)) | (refine oS ?_; ((first | refine sS1 hS rfl rfl rfl ?_ | refine sS2 hS rfl rfl rfl ?_ | refine sS3 hS rfl rfl rfl ?_ | refine sS4 hS rfl rfl rfl ?_ | refine sS5 hS rfl rfl rfl ?_); clear hS; intro w hS)) | ((first | (refine oB ?_; first | refine sB1 hS rfl rfl ?_ | refine sB2 hS rfl rfl ?_) | refine sN1 hS rfl ?_); clear hS; first | ((fail_if_success guard_hyp g1); intro g1 w hS) | ((fail_if_success guard_hyp g2); intro g2 w hS) | ((fail_if_success guard_hyp g3); intro g3 w hS) | ((fail_if_success guard_hyp g4); intro g4 w hS) | ((fail_if_success guard_hyp g5); intro g5 w hS) | ((fail_if_success guard_hyp g6); intro g6 w hS) | ((fail_if_success guard_hyp g7); intro g7 w hS) | ((fail_if_success guard_hyp g8); intro g8 w hS) | fail) | fail)
      refine (rsnew_n HX.out.1 (HX.out.2.2.into (hS.intoK (T := N1) (u := u1))) (by omega) (by omega)).mono ?_
      rintro e u2 ⟨⟨B1, d1, B2, d2, B3, d3, B4, d4, B5, d5, B6, d6, B7, d7⟩, rfl, hsn, hx1⟩
      rw [HNS.out] at hsn
      have HOLD := HSN
      clear HSN hlt
      replace hS := hS.frozNew hx1
      obtain ⟨N2, hN2⟩ : ∃ N : Nat → Prop, N = fun k => wr.heap.size ≤ k ∧ k < u2.heap.size := ⟨_, rfl⟩
      rw [← hN2] at hS hsn
      have HSN := Lib.hid hsn
      clear hN2 hsn hx1
      simp only [HNN.out]
      have HCE := HC
      have HRE := HRUN
      clear HC HRUN
      go_wp2_with (first | (refine oL ?_; (first | refine sL1 hS rfl rfl rfl ?_ | refine sL2 hS rfl rfl rfl ?_ | refine sL3 hS rfl rfl ?_ | refine sL4 hS rfl rfl ?_ | refine sL5 hS rfl rfl ?_ | refine sL6 hS rfl rfl ?_ | refine sL7 hS rfl rfl ?_)) | (refine oS ?_; ((first | refine sS1 hS rfl rfl rfl ?_ | refine sS2 hS rfl rfl rfl ?_ | refine sS3 hS rfl rfl rfl ?_ | refine sS4 hS rfl rfl rfl ?_ | refine sS5 hS rfl rfl rfl ?_); clear hS; intro w hS)) | ((first | (refine oB ?_; first | refine sB1 hS rfl rfl ?_ | refine sB2 hS rfl rfl ?_) | refine sN1 hS rfl ?_); clear hS; first | ((fail_if_success guard_hyp g1); intro g1 w hS) | ((fail_if_success guard_hyp g2); intro g2 w hS) | ((fail_if_success guard_hyp g3); intro g3 w hS) | ((fail_if_success guard_hyp g4); intro g4 w hS) | ((fail_if_success guard_hyp g5); intro g5 w hS) | ((fail_if_success guard_hyp g6); intro g6 w hS) | ((fail_if_success guard_hyp g7); intro g7 w hS) | ((fail_if_success guard_hyp g8); intro g8 w hS) | fail) | fail)
      go_loopw [16] (fun s16 wr => ∃ (i : Nat) (B1 : Option Addr) (d1 : Nat) (B2 : Option Addr) (d2 : Nat) (B3 : Option Addr) (d3 : Nat) (B4 : Option Addr) (d4 : Nat) (B5 : Option Addr) (d5 : Nat) (B6 : Option Addr) (d6 : Nat) (B7 : Option Addr) (d7 : Nat) (t : Snp) (T' : Nat → Prop) (u' : World), i ≤ m ∧ s16 = .int .i64 i ∧ Hid (runS (fL l) s0 i = t) ∧ Hid (SnAt T' u' ⟨B1, d1, B2, d2, B3, d3, B4, d4, B5, d5, B6, d6, B7, d7⟩ t) ∧ St w0 NoM [blk g3 [.slice B1 n d1, .slice B2 n d2, .slice B3 nn d3, .slice B4 n d4, .slice B5 n d5, .slice B6 nn d6, .slice B7 nn d7] 28, froz T' u', blk g2 [.slice A1 n c1, .slice A2 n c2, .slice A3 nn c3, .slice A4 n c4, .slice A5 n c5, .slice A6 nn c6, .slice A7 nn c7] 28, froz T u, froz N1 u1, blk g1 [.int .i64 k1, .int .i64 k2, .int .i64 k3, .int .i64 k4] 40] wr) (fun s16 _ => m - (intOf s16).toNat)
      case atStart => exact ⟨0, B1, d1, B2, d2, B3, d3, B4, d4, B5, d5, B6, d6, B7, d7, s0, N2, u2, by omega, rfl, Lib.hid rfl, HSN, hS.re⟩
      case round =>
        clear hS HSN
        obtain ⟨i, B1, d1, B2, d2, B3, d3, B4, d4, B5, d5, B6, d6, B7, d7, t, T', u', hi, rfl, HRUN, HSN, hS⟩ := hrel
        have HC := Lib.hid (show SnOk n i t by have h := runS_ok (f := fL l) HS0.out i; rw [HRUN.out, Nat.zero_add] at h; exact h)
        by_cases hlt : i < m
        · have hlt' : (i : Int) < m := by omega
          obtain ⟨b1, o1, e1, hmv⟩ := mv_fcs HL.out.2 (i := i) (by rw [HL.out.1]; exact hlt)
          subst e1
          have HFI := Lib.hid (fL_at (l := l) (i := i) (by rw [HL.out.1]; exact hlt))
          generalize l[i]'(by rw [HL.out.1]; exact hlt) = mv at *
          obtain ⟨kd, fr, tt, val⟩ := mv
          simp only at hmv
          by_cases hr : refS t ⟨kd, fr, tt, val⟩ = 0
          · have HR := Lib.hid hr
            have HN2 := Lib.hid (runS_next HRUN.out HFI.out HR.out)
            clear hr
            go_wp2_with (first | (refine oL ?_; (first | refine sL1 hS rfl rfl rfl ?_ | refine sL2 hS rfl rfl rfl ?_ | refine sL3 hS rfl rfl ?_ | refine sL4 hS rfl rfl ?_ | refine sL5 hS rfl rfl ?_ | refine sL6 hS rfl rfl ?_ | refine sL7 hS rfl rfl ?_)) | (refine oS ?_; ((first | refine sS1 hS rfl rfl rfl ?_ | refine sS2 hS rfl rfl rfl ?_ | refine sS3 hS rfl rfl rfl ?_ | refine sS4 hS rfl rfl rfl ?_ | refine sS5 hS rfl rfl rfl ?_); clear hS; intro w hS)) | ((first | (refine oB ?_; first | refine sB1 hS rfl rfl ?_ | refine sB2 hS rfl rfl ?_) | refine sN1 hS rfl ?_); clear hS; first | ((fail_if_success guard_hyp g1); intro g1 w hS) | ((fail_if_success guard_hyp g2); intro g2 w hS) | ((fail_if_success guard_hyp g3); intro g3 w hS) | ((fail_if_success guard_hyp g4); intro g4 w hS) | ((fail_if_success guard_hyp g5); intro g5 w hS) | ((fail_if_success guard_hyp g6); intro g6 w hS) | ((fail_if_success guard_hyp g7); intro g7 w hS) | ((fail_if_success guard_hyp g8); intro g8 w hS) | fail) | fail)
            refine dr_start0 []  hS (by kernel_rfl) rfl ?_; clear hS; intro w hS
            first | refine dL1 hS 0 rfl rfl rfl rfl ?_ | refine dL2 hS 0 rfl rfl rfl rfl ?_ | refine dL3 hS 0 rfl rfl rfl ?_ | refine dL4 hS 0 rfl rfl rfl ?_ | refine dL5 hS 0 rfl rfl rfl ?_ | refine dL6 hS 0 rfl rfl rfl ?_ | refine dL7 hS 0 rfl rfl rfl ?_
            (try simp only [Act.put, nA, nB, nC])
            refine dM hS 1 rfl rfl rfl ?_
            (try simp only [Act.put, nA, nB, nC])
            refine dM hS 2 rfl rfl rfl ?_
            (try simp only [Act.put, nA, nB, nC])
            refine dP hS 3 rfl rfl ?_
            (try simp only [Act.put, nA, nB, nC])
            first | refine dL1 hS 4 rfl rfl rfl rfl ?_ | refine dL2 hS 4 rfl rfl rfl rfl ?_ | refine dL3 hS 4 rfl rfl rfl ?_ | refine dL4 hS 4 rfl rfl rfl ?_ | refine dL5 hS 4 rfl rfl rfl ?_ | refine dL6 hS 4 rfl rfl rfl ?_ | refine dL7 hS 4 rfl rfl rfl ?_
            (try simp only [Act.put, nA, nB, nC])
            refine dr_two 5 9 (by kernel_rfl) rfl rfl ?_ ?_
            (refine st_call rfl (by kernel_rfl) rfl ?_; go_at_call 16; refine (rstep_n (HSN.out.into hS.intoK) HC.out HNN.out (by omega) HR.out).mono ?_; rintro e w1 ⟨D1, j1, D2, j2, D3, j3, D4, j4, D5, j5, D6, j6, D7, j7, rfl, hsn, hx1⟩; obtain ⟨T1, hS1, hi1, hi0⟩ := hS.grow2 hx1; replace hS := hS1; clear hS1; have HS1 := Lib.hid (hsn.into hi1); clear hsn)
            (try simp only [Act.put, nA, nB, nC])
            refine dr_end hS ?_
            refine dM hS 6 rfl rfl rfl ?_
            (try simp only [Act.put, nA, nB, nC])
            refine dP hS 7 rfl rfl ?_
            (try simp only [Act.put, nA, nB, nC])
            refine dP hS 8 rfl rfl ?_
            (try simp only [Act.put, nA, nB, nC])
            refine dr_one 9 (by kernel_rfl) rfl ?_
            (refine sN1 hS rfl ?_; clear hS; first | ((fail_if_success guard_hyp g1); intro g1 w hS) | ((fail_if_success guard_hyp g2); intro g2 w hS) | ((fail_if_success guard_hyp g3); intro g3 w hS) | ((fail_if_success guard_hyp g4); intro g4 w hS) | ((fail_if_success guard_hyp g5); intro g5 w hS) | ((fail_if_success guard_hyp g6); intro g6 w hS) | ((fail_if_success guard_hyp g7); intro g7 w hS) | ((fail_if_success guard_hyp g8); intro g8 w hS) | fail)
            (try simp only [Act.put, nA, nB, nC])
            refine dr_end hS ?_
            refine dr_one 10 (by kernel_rfl) rfl ?_
            ((first | refine sS1 hS rfl rfl rfl ?_ | refine sS2 hS rfl rfl rfl ?_ | refine sS3 hS rfl rfl rfl ?_ | refine sS4 hS rfl rfl rfl ?_ | refine sS5 hS rfl rfl rfl ?_); clear hS; intro w hS)
            (try simp only [Act.put, nA, nB, nC])
            refine dr_end hS ?_
            refine dA hS 11 rfl rfl rfl ?_
            (try simp only [Act.put, nA, nB, nC])
            refine dr_done (by kernel_rfl) ?_
            rotate_left
            (refine sN1 hS rfl ?_; clear hS; first | ((fail_if_success guard_hyp g1); intro g1 w hS) | ((fail_if_success guard_hyp g2); intro g2 w hS) | ((fail_if_success guard_hyp g3); intro g3 w hS) | ((fail_if_success guard_hyp g4); intro g4 w hS) | ((fail_if_success guard_hyp g5); intro g5 w hS) | ((fail_if_success guard_hyp g6); intro g6 w hS) | ((fail_if_success guard_hyp g7); intro g7 w hS) | ((fail_if_success guard_hyp g8); intro g8 w hS) | fail)
            (try simp only [Act.put, nA, nB, nC])
            refine dr_end hS ?_
            refine dr_one 5 (by kernel_rfl) rfl ?_
            (refine st_call rfl (by kernel_rfl) rfl ?_; go_at_call 16; refine (rstep_n (HSN.out.into hS.intoK) HC.out HNN.out (by omega) HR.out).mono ?_; rintro e w1 ⟨D1, j1, D2, j2, D3, j3, D4, j4, D5, j5, D6, j6, D7, j7, rfl, hsn, hx1⟩; obtain ⟨T1, hS1, hi1, hi0⟩ := hS.grow2 hx1; replace hS := hS1; clear hS1; have HS1 := Lib.hid (hsn.into hi1); clear hsn)
            (try simp only [Act.put, nA, nB, nC])
            refine dr_end hS ?_
            refine dM hS 6 rfl rfl rfl ?_
            (try simp only [Act.put, nA, nB, nC])
            refine dP hS 7 rfl rfl ?_
            (try simp only [Act.put, nA, nB, nC])
            refine dP hS 8 rfl rfl ?_
            (try simp only [Act.put, nA, nB, nC])
            refine dr_one 10 (by kernel_rfl) rfl ?_
            ((first | refine sS1 hS rfl rfl rfl ?_ | refine sS2 hS rfl rfl rfl ?_ | refine sS3 hS rfl rfl rfl ?_ | refine sS4 hS rfl rfl rfl ?_ | refine sS5 hS rfl rfl rfl ?_); clear hS; intro w hS)
            (try simp only [Act.put, nA, nB, nC])
            refine dr_end hS ?_
            refine dA hS 11 rfl rfl rfl ?_
            (try simp only [Act.put, nA, nB, nC])
            refine dr_done (by kernel_rfl) ?_
            rotate_left
            all_goals
              replace hS := hS.re (ds := [blk g3 [.slice B1 n d1, .slice B2 n d2, .slice B3 nn d3, .slice B4 n d4, .slice B5 n d5, .slice B6 nn d6, .slice B7 nn d7] 28, blk g4 [.slice D1 n j1, .slice D2 n j2, .slice D3 nn j3, .slice D4 n j4, .slice D5 n j5, .slice D6 nn j6, .slice D7 nn j7] 28, froz T1 w1, froz T' u', blk g2 [.slice A1 n c1, .slice A2 n c2, .slice A3 nn c3, .slice A4 n c4, .slice A5 n c5, .slice A6 nn c6, .slice A7 nn c7] 28, froz T u, froz N1 u1, blk g1 [.int .i64 k1, .int .i64 k2, .int .i64 k3, .int .i64 k4] 40])
              obtain ⟨T2, hS2, hi2, hi3⟩ := hS.merge T1 w1 hi0
              have HS2 := Lib.hid (HS1.out.into hi3)
              replace hS := hS2
              clear hS2 hi0 hi1 hi2 hi3 HS1 HSN
              generalize goS t _ = s2 at *
              go_wp2_with (first | (refine oL ?_; (first | refine sL1 hS rfl rfl rfl ?_ | refine sL2 hS rfl rfl rfl ?_ | refine sL3 hS rfl rfl ?_ | refine sL4 hS rfl rfl ?_ | refine sL5 hS rfl rfl ?_ | refine sL6 hS rfl rfl ?_ | refine sL7 hS rfl rfl ?_)) | (refine oS ?_; ((first | refine sS1 hS rfl rfl rfl ?_ | refine sS2 hS rfl rfl rfl ?_ | refine sS3 hS rfl rfl rfl ?_ | refine sS4 hS rfl rfl rfl ?_ | refine sS5 hS rfl rfl rfl ?_); clear hS; intro w hS)) | ((first | (refine oB ?_; first | refine sB1 hS rfl rfl ?_ | refine sB2 hS rfl rfl ?_) | refine sN1 hS rfl ?_); clear hS; first | ((fail_if_success guard_hyp g1); intro g1 w hS) | ((fail_if_success guard_hyp g2); intro g2 w hS) | ((fail_if_success guard_hyp g3); intro g3 w hS) | ((fail_if_success guard_hyp g4); intro g4 w hS) | ((fail_if_success guard_hyp g5); intro g5 w hS) | ((fail_if_success guard_hyp g6); intro g6 w hS) | ((fail_if_success guard_hyp g7); intro g7 w hS) | ((fail_if_success guard_hyp g8); intro g8 w hS) | fail) | fail)
              go_roundw
              case measure => simp [intOf]; omega
              exact ⟨i + 1, D1, j1, D2, j2, D3, j3, D4, j4, D5, j5, D6, j6, D7, j7, s2, T2, _, by omega, by go_num, HN2, HS2, hS.re⟩
          · have HR := Lib.hid (show (refS t ⟨kd, fr, tt, val⟩ == 0) = false by simpa using hr)
            have HR0 := Lib.hid hr
            have HN2 := Lib.hid (runS_same HRUN.out HFI.out HR0.out)
            clear hr
            go_wp2_with (first | (refine oL ?_; (first | refine sL1 hS rfl rfl rfl ?_ | refine sL2 hS rfl rfl rfl ?_ | refine sL3 hS rfl rfl ?_ | refine sL4 hS rfl rfl ?_ | refine sL5 hS rfl rfl ?_ | refine sL6 hS rfl rfl ?_ | refine sL7 hS rfl rfl ?_)) | (refine oS ?_; ((first | refine sS1 hS rfl rfl rfl ?_ | refine sS2 hS rfl rfl rfl ?_ | refine sS3 hS rfl rfl rfl ?_ | refine sS4 hS rfl rfl rfl ?_ | refine sS5 hS rfl rfl rfl ?_); clear hS; intro w hS)) | ((first | (refine oB ?_; first | refine sB1 hS rfl rfl ?_ | refine sB2 hS rfl rfl ?_) | refine sN1 hS rfl ?_); clear hS; first | ((fail_if_success guard_hyp g1); intro g1 w hS) | ((fail_if_success guard_hyp g2); intro g2 w hS) | ((fail_if_success guard_hyp g3); intro g3 w hS) | ((fail_if_success guard_hyp g4); intro g4 w hS) | ((fail_if_success guard_hyp g5); intro g5 w hS) | ((fail_if_success guard_hyp g6); intro g6 w hS) | ((fail_if_success guard_hyp g7); intro g7 w hS) | ((fail_if_success guard_hyp g8); intro g8 w hS) | fail) | fail)
            refine dr_start0 []  hS (by kernel_rfl) rfl ?_; clear hS; intro w hS
            first | refine dL1 hS 0 rfl rfl rfl rfl ?_ | refine dL2 hS 0 rfl rfl rfl rfl ?_ | refine dL3 hS 0 rfl rfl rfl ?_ | refine dL4 hS 0 rfl rfl rfl ?_ | refine dL5 hS 0 rfl rfl rfl ?_ | refine dL6 hS 0 rfl rfl rfl ?_ | refine dL7 hS 0 rfl rfl rfl ?_
            (try simp only [Act.put, nA, nB, nC])
            refine dM hS 1 rfl rfl rfl ?_
            (try simp only [Act.put, nA, nB, nC])
            refine dM hS 2 rfl rfl rfl ?_
            (try simp only [Act.put, nA, nB, nC])
            refine dP hS 3 rfl rfl ?_
            (try simp only [Act.put, nA, nB, nC])
            first | refine dL1 hS 4 rfl rfl rfl rfl ?_ | refine dL2 hS 4 rfl rfl rfl rfl ?_ | refine dL3 hS 4 rfl rfl rfl ?_ | refine dL4 hS 4 rfl rfl rfl ?_ | refine dL5 hS 4 rfl rfl rfl ?_ | refine dL6 hS 4 rfl rfl rfl ?_ | refine dL7 hS 4 rfl rfl rfl ?_
            (try simp only [Act.put, nA, nB, nC])
            refine dr_two 5 9 (by kernel_rfl) rfl rfl ?_ ?_
            (refine st_call rfl (by kernel_rfl) rfl ?_; go_at_call 16; refine (rstep_r (HSN.out.into hS.intoK) HC.out HNN.out (by omega) HR0.out).mono ?_; rintro e w1 ⟨D1, j1, D2, j2, D3, j3, D4, j4, D5, j5, D6, j6, D7, j7, rfl, hx1⟩; replace hS := hS.ext hx1)
            (try simp only [Act.put, nA, nB, nC])
            refine dr_end hS ?_
            refine dM hS 6 rfl rfl rfl ?_
            (try simp only [Act.put, nA, nB, nC])
            refine dP hS 7 rfl rfl ?_
            (try simp only [Act.put, nA, nB, nC])
            refine dP hS 8 rfl rfl ?_
            (try simp only [Act.put, nA, nB, nC])
            refine dr_one 9 (by kernel_rfl) rfl ?_
            (refine sN1 hS rfl ?_; clear hS; first | ((fail_if_success guard_hyp g1); intro g1 w hS) | ((fail_if_success guard_hyp g2); intro g2 w hS) | ((fail_if_success guard_hyp g3); intro g3 w hS) | ((fail_if_success guard_hyp g4); intro g4 w hS) | ((fail_if_success guard_hyp g5); intro g5 w hS) | ((fail_if_success guard_hyp g6); intro g6 w hS) | ((fail_if_success guard_hyp g7); intro g7 w hS) | ((fail_if_success guard_hyp g8); intro g8 w hS) | fail)
            (try simp only [Act.put, nA, nB, nC])
            refine dr_end hS ?_
            refine dr_one 10 (by kernel_rfl) rfl ?_
            ((first | refine sS1 hS rfl rfl rfl ?_ | refine sS2 hS rfl rfl rfl ?_ | refine sS3 hS rfl rfl rfl ?_ | refine sS4 hS rfl rfl rfl ?_ | refine sS5 hS rfl rfl rfl ?_); clear hS; intro w hS)
            (try simp only [Act.put, nA, nB, nC])
            refine dr_end hS ?_
            refine dA hS 11 rfl rfl rfl ?_
            (try simp only [Act.put, nA, nB, nC])
            refine dr_done (by kernel_rfl) ?_
            rotate_left
            (refine sN1 hS rfl ?_; clear hS; first | ((fail_if_success guard_hyp g1); intro g1 w hS) | ((fail_if_success guard_hyp g2); intro g2 w hS) | ((fail_if_success guard_hyp g3); intro g3 w hS) | ((fail_if_success guard_hyp g4); intro g4 w hS) | ((fail_if_success guard_hyp g5); intro g5 w hS) | ((fail_if_success guard_hyp g6); intro g6 w hS) | ((fail_if_success guard_hyp g7); intro g7 w hS) | ((fail_if_success guard_hyp g8); intro g8 w hS) | fail)
            (try simp only [Act.put, nA, nB, nC])
            refine dr_end hS ?_
            refine dr_one 5 (by kernel_rfl) rfl ?_
            (refine st_call rfl (by kernel_rfl) rfl ?_; go_at_call 16; refine (rstep_r (HSN.out.into hS.intoK) HC.out HNN.out (by omega) HR0.out).mono ?_; rintro e w1 ⟨D1, j1, D2, j2, D3, j3, D4, j4, D5, j5, D6, j6, D7, j7, rfl, hx1⟩; replace hS := hS.ext hx1)
            (try simp only [Act.put, nA, nB, nC])
            refine dr_end hS ?_
            refine dM hS 6 rfl rfl rfl ?_
            (try simp only [Act.put, nA, nB, nC])
            refine dP hS 7 rfl rfl ?_
            (try simp only [Act.put, nA, nB, nC])
            refine dP hS 8 rfl rfl ?_
            (try simp only [Act.put, nA, nB, nC])
            refine dr_one 10 (by kernel_rfl) rfl ?_
            ((first | refine sS1 hS rfl rfl rfl ?_ | refine sS2 hS rfl rfl rfl ?_ | refine sS3 hS rfl rfl rfl ?_ | refine sS4 hS rfl rfl rfl ?_ | refine sS5 hS rfl rfl rfl ?_); clear hS; intro w hS)
            (try simp only [Act.put, nA, nB, nC])
            refine dr_end hS ?_
            refine dA hS 11 rfl rfl rfl ?_
            (try simp only [Act.put, nA, nB, nC])
            refine dr_done (by kernel_rfl) ?_
            rotate_left
            all_goals
              have er0 := HR.out
              have er1 := HR0.out
              clear HR HR0
              generalize refS t ⟨kd, fr, tt, val⟩ = er at *
              go_wp2_with (first | (refine oL ?_; (first | refine sL1 hS rfl rfl rfl ?_ | refine sL2 hS rfl rfl rfl ?_ | refine sL3 hS rfl rfl ?_ | refine sL4 hS rfl rfl ?_ | refine sL5 hS rfl rfl ?_ | refine sL6 hS rfl rfl ?_ | refine sL7 hS rfl rfl ?_)) | (refine oS ?_; ((first | refine sS1 hS rfl rfl rfl ?_ | refine sS2 hS rfl rfl rfl ?_ | refine sS3 hS rfl rfl rfl ?_ | refine sS4 hS rfl rfl rfl ?_ | refine sS5 hS rfl rfl rfl ?_); clear hS; intro w hS)) | ((first | (refine oB ?_; first | refine sB1 hS rfl rfl ?_ | refine sB2 hS rfl rfl ?_) | refine sN1 hS rfl ?_); clear hS; first | ((fail_if_success guard_hyp g1); intro g1 w hS) | ((fail_if_success guard_hyp g2); intro g2 w hS) | ((fail_if_success guard_hyp g3); intro g3 w hS) | ((fail_if_success guard_hyp g4); intro g4 w hS) | ((fail_if_success guard_hyp g5); intro g5 w hS) | ((fail_if_success guard_hyp g6); intro g6 w hS) | ((fail_if_success guard_hyp g7); intro g7 w hS) | ((fail_if_success guard_hyp g8); intro g8 w hS) | fail) | fail)
              go_roundw
              case measure => simp [intOf]; omega
              exact ⟨i + 1, B1, d1, B2, d2, B3, d3, B4, d4, B5, d5, B6, d6, B7, d7, t, T', u', by omega, by go_num, HN2, HSN, hS.re⟩
        · obtain rfl : m = i := by omega
          have hts : t = s := by rw [← HRUN.out]; exact HRE.out
          subst hts
          clear HC HRUN HRE hlt
          by_cases hr : refS t ⟨k1, k2, k3, k4⟩ = 0
          · have HR := Lib.hid hr
            have HLN := Lib.hid (show SnLen n nn (goS t ⟨k1, k2, k3, k4⟩) by have h := (goS_ok HCE.out HR.out).len (by omega); rw [HNN.out] at h; exact h)
            clear hr
            replace hS := hS.re (ds := [blk g2 [.slice A1 n c1, .slice A2 n c2, .slice A3 nn c3, .slice A4 n c4, .slice A5 n c5, .slice A6 nn c6, .slice A7 nn c7] 28, froz T u, blk g3 [.slice B1 n d1, .slice B2 n d2, .slice B3 nn d3, .slice B4 n d4, .slice B5 n d5, .slice B6 nn d6, .slice B7 nn d7] 28, froz T' u', blk g1 [.int .i64 k1, .int .i64 k2, .int .i64 k3, .int .i64 k4] 40])
            go_upto_region 21 with (first | (go_at_call 15; refine (step_n (HOLD.out.into hS.intoK) HCE.out HNN.out (by omega) HR.out).mono ?_; rintro e w1 ⟨D1, j1, D2, j2, D3, j3, D4, j4, D5, j5, D6, j6, D7, j7, rfl, hsn, hx1⟩; obtain ⟨T1, hS1, hi1, hi0⟩ := hS.grow2 hx1; replace hS := hS1; clear hS1; have HS1 := Lib.hid (hsn.into hi1); clear hsn) | (refine oL ?_; (first | refine sL1 hS rfl rfl rfl ?_ | refine sL2 hS rfl rfl rfl ?_ | refine sL3 hS rfl rfl ?_ | refine sL4 hS rfl rfl ?_ | refine sL5 hS rfl rfl ?_ | refine sL6 hS rfl rfl ?_ | refine sL7 hS rfl rfl ?_)) | (refine oS ?_; ((first | refine sS1 hS rfl rfl rfl ?_ | refine sS2 hS rfl rfl rfl ?_ | refine sS3 hS rfl rfl rfl ?_ | refine sS4 hS rfl rfl rfl ?_ | refine sS5 hS rfl rfl rfl ?_); clear hS; intro w hS)) | ((first | (refine oB ?_; first | refine sB1 hS rfl rfl ?_ | refine sB2 hS rfl rfl ?_) | refine sN1 hS rfl ?_); clear hS; first | ((fail_if_success guard_hyp g1); intro g1 w hS) | ((fail_if_success guard_hyp g2); intro g2 w hS) | ((fail_if_success guard_hyp g3); intro g3 w hS) | ((fail_if_success guard_hyp g4); intro g4 w hS) | ((fail_if_success guard_hyp g5); intro g5 w hS) | ((fail_if_success guard_hyp g6); intro g6 w hS) | ((fail_if_success guard_hyp g7); intro g7 w hS) | ((fail_if_success guard_hyp g8); intro g8 w hS) | fail) | fail)
            replace hS := hS.re (ds := [blk g4 [.slice D1 n j1, .slice D2 n j2, .slice D3 nn j3, .slice D4 n j4, .slice D5 n j5, .slice D6 nn j6, .slice D7 nn j7] 28, froz T1 w1, froz T u, blk g3 [.slice B1 n d1, .slice B2 n d2, .slice B3 nn d3, .slice B4 n d4, .slice B5 n d5, .slice B6 nn d6, .slice B7 nn d7] 28, froz T' u', blk g1 [.int .i64 k1, .int .i64 k2, .int .i64 k3, .int .i64 k4] 40])
            obtain ⟨T2, hS2, hi2, hi3⟩ := hS.merge T1 w1 hi0
            have HS2 := Lib.hid (HS1.out.into hi3)
            obtain ⟨u3, hu3⟩ : ∃ x, x = w := ⟨_, rfl⟩
            rw [← hu3] at HS2
            have hS3 : St w0 NoM [froz T' u', blk g4 [.slice D1 n j1, .slice D2 n j2, .slice D3 nn j3, .slice D4 n j4, .slice D5 n j5, .slice D6 nn j6, .slice D7 nn j7] 28, froz T2 u3, blk g3 [.slice B1 n d1, .slice B2 n d2, .slice B3 nn d3, .slice B4 n d4, .slice B5 n d5, .slice B6 nn d6, .slice B7 nn d7] 28, blk g1 [.int .i64 k1, .int .i64 k2, .int .i64 k3, .int .i64 k4] 40] w := by rw [hu3]; exact hS2.re
            replace hS := hS3
            clear hS2 hS3 hi0 hi1 hi2 hi3 HS1 hu3 HOLD
            go_upto_region 22 with (first | (go_at_call 16; refine (rstep_n (HSN.out.into hS.intoK) HCE.out HNN.out (by omega) HR.out).mono ?_; rintro e w3 ⟨E1, p1, E2, p2, E3, p3, E4, p4, E5, p5, E6, p6, E7, p7, rfl, hsn, hx1⟩; obtain ⟨T3, hS1, hi1, hi0⟩ := hS.grow2 hx1; replace hS := hS1; clear hS1; have HS1 := Lib.hid (hsn.into hi1); clear hsn) | (refine oL ?_; (first | refine sL1 hS rfl rfl rfl ?_ | refine sL2 hS rfl rfl rfl ?_ | refine sL3 hS rfl rfl ?_ | refine sL4 hS rfl rfl ?_ | refine sL5 hS rfl rfl ?_ | refine sL6 hS rfl rfl ?_ | refine sL7 hS rfl rfl ?_)) | (refine oS ?_; ((first | refine sS1 hS rfl rfl rfl ?_ | refine sS2 hS rfl rfl rfl ?_ | refine sS3 hS rfl rfl rfl ?_ | refine sS4 hS rfl rfl rfl ?_ | refine sS5 hS rfl rfl rfl ?_); clear hS; intro w hS)) | ((first | (refine oB ?_; first | refine sB1 hS rfl rfl ?_ | refine sB2 hS rfl rfl ?_) | refine sN1 hS rfl ?_); clear hS; first | ((fail_if_success guard_hyp g1); intro g1 w hS) | ((fail_if_success guard_hyp g2); intro g2 w hS) | ((fail_if_success guard_hyp g3); intro g3 w hS) | ((fail_if_success guard_hyp g4); intro g4 w hS) | ((fail_if_success guard_hyp g5); intro g5 w hS) | ((fail_if_success guard_hyp g6); intro g6 w hS) | ((fail_if_success guard_hyp g7); intro g7 w hS) | ((fail_if_success guard_hyp g8); intro g8 w hS) | fail) | fail)
            replace hS := hS.re (ds := [blk g5 [.slice E1 n p1, .slice E2 n p2, .slice E3 nn p3, .slice E4 n p4, .slice E5 n p5, .slice E6 nn p6, .slice E7 nn p7] 28, froz T3 w3, froz T' u', blk g4 [.slice D1 n j1, .slice D2 n j2, .slice D3 nn j3, .slice D4 n j4, .slice D5 n j5, .slice D6 nn j6, .slice D7 nn j7] 28, froz T2 u3, blk g1 [.int .i64 k1, .int .i64 k2, .int .i64 k3, .int .i64 k4] 40])
            obtain ⟨T4, hS2, hi2, hi3⟩ := hS.merge T3 w3 hi0
            have HS4 := Lib.hid (HS1.out.into hi3)
            obtain ⟨u4, hu4⟩ : ∃ x, x = w := ⟨_, rfl⟩
            rw [← hu4] at HS4
            have hS3 : St w0 NoM [froz T4 u4, blk g5 [.slice E1 n p1, .slice E2 n p2, .slice E3 nn p3, .slice E4 n p4, .slice E5 n p5, .slice E6 nn p6, .slice E7 nn p7] 28, blk g4 [.slice D1 n j1, .slice D2 n j2, .slice D3 nn j3, .slice D4 n j4, .slice D5 n j5, .slice D6 nn j6, .slice D7 nn j7] 28, froz T2 u3] w := by rw [hu4]; exact hS2.re
            replace hS := hS3
            clear hS2 hS3 hi0 hi1 hi2 hi3 HS1 hu4 HSN
            generalize goS t _ = s3 at *
            refine lR ?_
            refine lM rfl rfl ?_
            (try simp only [Act.put, nA, nB, nC])
            refine lM rfl rfl ?_
            (try simp only [Act.put, nA, nB, nC])
            refine lP rfl ?_
            (try simp only [Act.put, nA, nB, nC])
            refine lM rfl rfl ?_
            (try simp only [Act.put, nA, nB, nC])
            first | refine lQ rfl ?_ | (refine ⟨?_⟩; ((first | refine sL1 hS rfl rfl rfl ?_ | refine sL2 hS rfl rfl rfl ?_ | refine sL3 hS rfl rfl ?_ | refine sL4 hS rfl rfl ?_ | refine sL5 hS rfl rfl ?_ | refine sL6 hS rfl rfl ?_ | refine sL7 hS rfl rfl ?_)); refine WL.h ?_) | fail
            (try simp only [Act.put, nA, nB, nC])
            first | refine lQ rfl ?_ | (refine ⟨?_⟩; ((first | refine sL1 hS rfl rfl rfl ?_ | refine sL2 hS rfl rfl rfl ?_ | refine sL3 hS rfl rfl ?_ | refine sL4 hS rfl rfl ?_ | refine sL5 hS rfl rfl ?_ | refine sL6 hS rfl rfl ?_ | refine sL7 hS rfl rfl ?_)); refine WL.h ?_) | fail
            (try simp only [Act.put, nA, nB, nC])
            first | refine lQ rfl ?_ | (refine ⟨?_⟩; (refine st_call rfl (by kernel_rfl) rfl ?_; go_at_call 13; refine (same_n (HS2.out.into hS.intoK) (HS4.out.into hS.intoK) HLN.out (by omega) (by omega)).mono ?_; rintro e w ⟨rfl, hx1⟩; replace hS := hS.ext hx1); refine WL.h ?_) | fail
            (try simp only [Act.put, nA, nB, nC])
            refine lP rfl ?_
            (try simp only [Act.put, nA, nB, nC])
            refine lA rfl rfl ?_
            (try simp only [Act.put, nA, nB, nC])
            refine lZ ?_
            go_wp2_with (first | (refine oL ?_; (first | refine sL1 hS rfl rfl rfl ?_ | refine sL2 hS rfl rfl rfl ?_ | refine sL3 hS rfl rfl ?_ | refine sL4 hS rfl rfl ?_ | refine sL5 hS rfl rfl ?_ | refine sL6 hS rfl rfl ?_ | refine sL7 hS rfl rfl ?_)) | (refine oS ?_; ((first | refine sS1 hS rfl rfl rfl ?_ | refine sS2 hS rfl rfl rfl ?_ | refine sS3 hS rfl rfl rfl ?_ | refine sS4 hS rfl rfl rfl ?_ | refine sS5 hS rfl rfl rfl ?_); clear hS; intro w hS)) | ((first | (refine oB ?_; first | refine sB1 hS rfl rfl ?_ | refine sB2 hS rfl rfl ?_) | refine sN1 hS rfl ?_); clear hS; first | ((fail_if_success guard_hyp g1); intro g1 w hS) | ((fail_if_success guard_hyp g2); intro g2 w hS) | ((fail_if_success guard_hyp g3); intro g3 w hS) | ((fail_if_success guard_hyp g4); intro g4 w hS) | ((fail_if_success guard_hyp g5); intro g5 w hS) | ((fail_if_success guard_hyp g6); intro g6 w hS) | ((fail_if_success guard_hyp g7); intro g7 w hS) | ((fail_if_success guard_hyp g8); intro g8 w hS) | fail) | fail)
            go_ret
            exact ⟨rfl, hS.toExt⟩
          · have HR0 := Lib.hid hr
            clear hr
            go_upto_region 21 with (first | (go_at_call 15; refine (step_r (HOLD.out.into hS.intoK) HCE.out HNN.out (by omega) HR0.out).mono ?_; rintro e w1 ⟨D1, j1, D2, j2, D3, j3, D4, j4, D5, j5, D6, j6, D7, j7, rfl, hx1⟩; replace hS := hS.ext hx1) | (refine oL ?_; (first | refine sL1 hS rfl rfl rfl ?_ | refine sL2 hS rfl rfl rfl ?_ | refine sL3 hS rfl rfl ?_ | refine sL4 hS rfl rfl ?_ | refine sL5 hS rfl rfl ?_ | refine sL6 hS rfl rfl ?_ | refine sL7 hS rfl rfl ?_)) | (refine oS ?_; ((first | refine sS1 hS rfl rfl rfl ?_ | refine sS2 hS rfl rfl rfl ?_ | refine sS3 hS rfl rfl rfl ?_ | refine sS4 hS rfl rfl rfl ?_ | refine sS5 hS rfl rfl rfl ?_); clear hS; intro w hS)) | ((first | (refine oB ?_; first | refine sB1 hS rfl rfl ?_ | refine sB2 hS rfl rfl ?_) | refine sN1 hS rfl ?_); clear hS; first | ((fail_if_success guard_hyp g1); intro g1 w hS) | ((fail_if_success guard_hyp g2); intro g2 w hS) | ((fail_if_success guard_hyp g3); intro g3 w hS) | ((fail_if_success guard_hyp g4); intro g4 w hS) | ((fail_if_success guard_hyp g5); intro g5 w hS) | ((fail_if_success guard_hyp g6); intro g6 w hS) | ((fail_if_success guard_hyp g7); intro g7 w hS) | ((fail_if_success guard_hyp g8); intro g8 w hS) | fail) | fail)
            go_upto_region 22 with (first | (go_at_call 16; refine (rstep_r (HSN.out.into hS.intoK) HCE.out HNN.out (by omega) HR0.out).mono ?_; rintro e w1 ⟨E1, p1, E2, p2, E3, p3, E4, p4, E5, p5, E6, p6, E7, p7, rfl, hx1⟩; replace hS := hS.ext hx1) | (refine oL ?_; (first | refine sL1 hS rfl rfl rfl ?_ | refine sL2 hS rfl rfl rfl ?_ | refine sL3 hS rfl rfl ?_ | refine sL4 hS rfl rfl ?_ | refine sL5 hS rfl rfl ?_ | refine sL6 hS rfl rfl ?_ | refine sL7 hS rfl rfl ?_)) | (refine oS ?_; ((first | refine sS1 hS rfl rfl rfl ?_ | refine sS2 hS rfl rfl rfl ?_ | refine sS3 hS rfl rfl rfl ?_ | refine sS4 hS rfl rfl rfl ?_ | refine sS5 hS rfl rfl rfl ?_); clear hS; intro w hS)) | ((first | (refine oB ?_; first | refine sB1 hS rfl rfl ?_ | refine sB2 hS rfl rfl ?_) | refine sN1 hS rfl ?_); clear hS; first | ((fail_if_success guard_hyp g1); intro g1 w hS) | ((fail_if_success guard_hyp g2); intro g2 w hS) | ((fail_if_success guard_hyp g3); intro g3 w hS) | ((fail_if_success guard_hyp g4); intro g4 w hS) | ((fail_if_success guard_hyp g5); intro g5 w hS) | ((fail_if_success guard_hyp g6); intro g6 w hS) | ((fail_if_success guard_hyp g7); intro g7 w hS) | ((fail_if_success guard_hyp g8); intro g8 w hS) | fail) | fail)
            clear HR0
            generalize refS t _ = er at *
            have e0 : (er == er) = true := by simp
            refine lR ?_
            refine lM rfl rfl ?_
            (try simp only [Act.put, nA, nB, nC])
            refine lM rfl rfl ?_
            (try simp only [Act.put, nA, nB, nC])
            refine lP rfl ?_
            (try simp only [Act.put, nA, nB, nC])
            refine lM rfl rfl ?_
            (try simp only [Act.put, nA, nB, nC])
            first | refine lQ rfl ?_ | (refine ⟨?_⟩; ((first | refine sL1 hS rfl rfl rfl ?_ | refine sL2 hS rfl rfl rfl ?_ | refine sL3 hS rfl rfl ?_ | refine sL4 hS rfl rfl ?_ | refine sL5 hS rfl rfl ?_ | refine sL6 hS rfl rfl ?_ | refine sL7 hS rfl rfl ?_)); refine WL.h ?_) | fail
            (try simp only [Act.put, nA, nB, nC])
            first | refine lQ rfl ?_ | (refine ⟨?_⟩; ((first | refine sL1 hS rfl rfl rfl ?_ | refine sL2 hS rfl rfl rfl ?_ | refine sL3 hS rfl rfl ?_ | refine sL4 hS rfl rfl ?_ | refine sL5 hS rfl rfl ?_ | refine sL6 hS rfl rfl ?_ | refine sL7 hS rfl rfl ?_)); refine WL.h ?_) | fail
            (try simp only [Act.put, nA, nB, nC])
            first | refine lQ rfl ?_ | (refine ⟨?_⟩; (refine st_call rfl (by kernel_rfl) rfl ?_; go_at_call 13; refine (same_0).mono ?_; rintro e w ⟨rfl, hx1⟩; replace hS := hS.ext hx1); refine WL.h ?_) | fail
            (try simp only [Act.put, nA, nB, nC])
            refine lP rfl ?_
            (try simp only [Act.put, nA, nB, nC])
            refine lA rfl rfl ?_
            (try simp only [Act.put, nA, nB, nC])
            refine lZ ?_
            go_wp2_with (first | (refine oL ?_; (first | refine sL1 hS rfl rfl rfl ?_ | refine sL2 hS rfl rfl rfl ?_ | refine sL3 hS rfl rfl ?_ | refine sL4 hS rfl rfl ?_ | refine sL5 hS rfl rfl ?_ | refine sL6 hS rfl rfl ?_ | refine sL7 hS rfl rfl ?_)) | (refine oS ?_; ((first | refine sS1 hS rfl rfl rfl ?_ | refine sS2 hS rfl rfl rfl ?_ | refine sS3 hS rfl rfl rfl ?_ | refine sS4 hS rfl rfl rfl ?_ | refine sS5 hS rfl rfl rfl ?_); clear hS; intro w hS)) | ((first | (refine oB ?_; first | refine sB1 hS rfl rfl ?_ | refine sB2 hS rfl rfl ?_) | refine sN1 hS rfl ?_); clear hS; first | ((fail_if_success guard_hyp g1); intro g1 w hS) | ((fail_if_success guard_hyp g2); intro g2 w hS) | ((fail_if_success guard_hyp g3); intro g3 w hS) | ((fail_if_success guard_hyp g4); intro g4 w hS) | ((fail_if_success guard_hyp g5); intro g5 w hS) | ((fail_if_success guard_hyp g6); intro g6 w hS) | ((fail_if_success guard_hyp g7); intro g7 w hS) | ((fail_if_success guard_hyp g8); intro g8 w hS) | fail) | fail)
            go_ret
            exact ⟨rfl, hS.toExt⟩
open Go.ChangeShapes Go.WideShapes Go.ChangeAt
set_option maxRecDepth 100000 in
theorem lifted_MarkerRefuses (os : Os) (started : os.Started) (H : Type) (enc : TypeId × Value → H) :
    ReturnsInHanded {} Try.checked os 5 .any (Rows.markerRefusesSpec.pre6 enc Try.prog Try.f5 Rows.markerRefusesRow.domain false) (Rows.markerRefusesSpec.post enc Try.prog Try.f5 false true false false) := by
  refine law_lifted (C := Try.checked) (s := Rows.markerRefusesSpec) (tb := 4) (by kernel_rfl) started (by kernel_rfl) Try.func5
      (ChangeSpec.witness6 (enc := enc) (C := Try.checked) false ⟨#[], #[.slice none 0 0, .slice none 0 0, .agg #[.int .i64 0, .int .i64 0, .int .i64 0, .int .i64 0]], []⟩ 8 (by kernel_rfl) (by kernel_rfl) (by kernel_rfl) (by kernel_rfl))
      (by kernel_rfl) rfl rfl Try.underlying4 (read_of (by kernel_rfl)) ?_ ?_
  · intro ds hl
    match ds, hl with
    | [d0, d1, d2], _ => exact ⟨rfl, rfl, rfl⟩
  · intro W base args ds p hval0 hA0
    have hval : ∀ (j : Nat) t v, Try.f5.params[j]? = some t → args[j]? = some v → Value.okWide Try.prog W .any base t v := hval0
    have hA : DataW.TrodAll enc Try.prog W 0 (fun _ => true) true Try.f5.params.toList args.toList ds p := hA0
    clear hA0 hval0
    rw [Try.params5] at hA hval
    obtain ⟨v0, v1, v2, d0, d1, d2, p0, p1, p2, rfl, rfl, rfl, h0, h1, h2⟩ := trodAll_three hA
    obtain ⟨A0, c0, xs0, rfl, hri0, hc0, hd0, hwf0⟩ := open_nums Try.underlying22 Try.underlying3 (by kernel_rfl) (hval 0 _ v0 rfl rfl) h0
    obtain ⟨A1, c1, xs1, rfl, hri1, hc1, hd1, hwf1⟩ := open_nums Try.underlying34 Try.underlying5 (by kernel_rfl) (hval 1 _ v1 rfl rfl) h1
    obtain ⟨m0, m1, m2, m3, y0, y1, y2, y3, nf, rfl, _, _, q0, q1, q2, q3⟩ := Joins.open_agg4 Try.underlying40 (by kernel_rfl) (by kernel_rfl) (hval 2 _ v2 rfl rfl) h2
    obtain ⟨z0, e0, _, hz0⟩ := DataW.trod_int Try.underlying3 q0
    simp only [List.cons.injEq, and_true] at e0
    subst e0
    obtain ⟨z1, e1, _, hz1⟩ := DataW.trod_int Try.underlying3 q1
    simp only [List.cons.injEq, and_true] at e1
    subst e1
    obtain ⟨z2, e2, _, hz2⟩ := DataW.trod_int Try.underlying3 q2
    simp only [List.cons.injEq, and_true] at e2
    subst e2
    obtain ⟨z3, e3, _, hz3⟩ := DataW.trod_int Try.underlying3 q3
    simp only [List.cons.injEq, and_true] at e3
    subst e3
    exact markerRefuses_any A0 c0 xs0 A1 c1 xs1 z0 z1 z2 z3 W hri0 hc0 hd0 (fun b hb => i64_bd (hwf0 b hb)) hri1 hc1 hd1 (fun b hb => u8_bd (hwf1 b hb)) (i64_bd hz0) (i64_bd hz1) (i64_bd hz2) (i64_bd hz3)
/-- MarkerRefuses returns true for every input, and leaves its arguments as they were. -/
theorem proved_MarkerRefuses : Rows.MarkerRefusesSaid :=
  OpenClaim.holds_of_wide 5 Try.f5 rfl rfl rfl rfl rfl rfl rfl ⟨rfl, rfl, rfl, rfl, rfl⟩ rfl rfl rfl rfl rfl (by kernel_rfl) Try.func5 (by kernel_rfl)
    (of_decide_eq_true (by kernel_rfl)) (by unfold Func.isWrapper; rw [if_neg (by decide +kernel)]; exact ⟨rfl, rfl⟩)
    (fun os started H enc _ => lifted_MarkerRefuses os started H enc)
end Go.Proofs.Ytkaofbjppibdkaa
