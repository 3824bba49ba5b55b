/- MarkerConserves: the present total never changes; a complete snapshot has recorded it. No condition. -/
import Derived.Test.YtkaofbjppibdkaaSnCons
import Derived.Test.YtkaofbjppibdkaaLaw
namespace Go.Proofs.Ytkaofbjppibdkaa
open Go.RowKit
set_option linter.unusedVariables false
set_option linter.unusedSimpArgs false
set_option linter.unusedSectionVars false

set_option maxRecDepth 100000 in
set_option maxHeartbeats 6400000 in
theorem markerConserves_any (V : Option Addr) (g : Nat) (vs : List Int) (C : Option Addr) (f : Nat) (bs : List Int) (w0 : World) (hvs : RI (fun b => b < w0.heap.size) w0 V vs) (hg : vs.length ≤ g) (hg' : g ≤ 9223372036854775807) (hin : ∀ b ∈ vs, -9223372036854775808 ≤ b ∧ b ≤ 9223372036854775807) (hbs : RV (fun b => b < w0.heap.size) w0 C (bytes bs)) (hf : bs.length ≤ f) (hf' : f ≤ 9223372036854775807) (hby : ∀ b ∈ bs, 0 ≤ b ∧ b ≤ 255) :
    Calls Try.prog 6 #[.slice V vs.length g, .slice C bs.length f] w0 fun e w' => e = .returned (.bool true) ∧ Ext w0 w' := by
  have hS := St.start w0 NoM
  have HV := Lib.hid (And.intro hvs (And.intro hin (And.intro hbs hby)))
  clear hvs hin hbs hby
  go_enter Try.func6, Try.ntmps6
  go_wp2_with (first | (go_at_call 10; refine (awake23_any _).mono ?_; rintro e w ⟨rfl, hx1⟩; replace hS := hS.ext hx1) | (refine oL ?_; (first | refine sL1 hS rfl rfl rfl ?_ | refine sL2 hS rfl rfl rfl ?_ | refine sL3 hS rfl rfl ?_ | refine sL4 hS rfl rfl ?_ | refine sL5 hS rfl rfl ?_ | refine sL6 hS rfl rfl ?_ | refine sL7 hS rfl rfl ?_)) | (refine oS ?_; ((first | refine sS1 hS rfl rfl rfl ?_ | refine sS2 hS rfl rfl rfl ?_ | refine sS3 hS rfl rfl rfl ?_ | refine sS4 hS rfl rfl rfl ?_ | refine sS5 hS rfl rfl rfl ?_); clear hS; intro w hS)) | ((first | refine sN1 hS rfl ?_); clear hS; first | ((fail_if_success guard_hyp g1); intro g1 w hS) | ((fail_if_success guard_hyp g2); intro g2 w hS) | ((fail_if_success guard_hyp g3); intro g3 w hS) | fail) | fail)
  refine (start_n (HV.out.1.ext hS.toExt) hg hg' HV.out.2.1 (HV.out.2.2.1.ext hS.toExt) hf hf' HV.out.2.2.2).mono ?_
  rintro e u1 ⟨L1, k1, n, xs, L2, k2, m, l, rfl, hxl, hn2, hn4, hxi, hll, hm50, hr1, hr2, hx1⟩
  replace hS := hS.frozNew hx1
  obtain ⟨N1, hN1⟩ : ∃ N : Nat → Prop, N = fun k => w.heap.size ≤ k ∧ k < u1.heap.size := ⟨_, rfl⟩
  rw [← hN1] at hS hr1 hr2
  have HX := Lib.hid (And.intro hxl (And.intro hxi hr1))
  have HL := Lib.hid (And.intro hll hr2)
  clear hN1 hxl hxi hr1 hll hr2 hx1 HV
  go_wp2_with (first | (refine oL ?_; (first | refine sL1 hS rfl rfl rfl ?_ | refine sL2 hS rfl rfl rfl ?_ | refine sL3 hS rfl rfl ?_ | refine sL4 hS rfl rfl ?_ | refine sL5 hS rfl rfl ?_ | refine sL6 hS rfl rfl ?_ | refine sL7 hS rfl rfl ?_)) | (refine oS ?_; ((first | refine sS1 hS rfl rfl rfl ?_ | refine sS2 hS rfl rfl rfl ?_ | refine sS3 hS rfl rfl rfl ?_ | refine sS4 hS rfl rfl rfl ?_ | refine sS5 hS rfl rfl rfl ?_); clear hS; intro w hS)) | ((first | refine sN1 hS rfl ?_); clear hS; first | ((fail_if_success guard_hyp g1); intro g1 w hS) | ((fail_if_success guard_hyp g2); intro g2 w hS) | ((fail_if_success guard_hyp g3); intro g3 w hS) | fail) | fail)
  go_loopw [7, 8] (fun s7 s8 wr => ∃ (i : Nat) (t : Int), i ≤ n ∧ s8 = .int .i64 i ∧ s7 = .int .i64 t ∧ Hid (t = wsum 0 (xs.take i)) ∧ St w0 NoM [froz N1 u1] wr) (fun _ s8 _ => n - (intOf s8).toNat)
  case atStart => exact ⟨0, 0, by omega, rfl, rfl, Lib.hid rfl, hS⟩
  case round =>
    clear hS
    obtain ⟨i, t, hi, rfl, rfl, HT, hS⟩ := hrel
    by_cases hlt : i < n
    · have hlt' : (i : Int) < n := by omega
      obtain ⟨b1, o1, e1, hc⟩ := HX.out.2.2.fc (k := i) (by rw [HX.out.1]; exact hlt)
      subst e1
      have HW := Lib.hid (wsum_take (a := 0) (l := xs) (k := i) (by rw [HX.out.1]; exact hlt))
      generalize nth xs i = x at *
      go_wp2_with (first | (refine oL ?_; (first | refine sL1 hS rfl rfl rfl ?_ | refine sL2 hS rfl rfl rfl ?_ | refine sL3 hS rfl rfl ?_ | refine sL4 hS rfl rfl ?_ | refine sL5 hS rfl rfl ?_ | refine sL6 hS rfl rfl ?_ | refine sL7 hS rfl rfl ?_)) | (refine oS ?_; ((first | refine sS1 hS rfl rfl rfl ?_ | refine sS2 hS rfl rfl rfl ?_ | refine sS3 hS rfl rfl rfl ?_ | refine sS4 hS rfl rfl rfl ?_ | refine sS5 hS rfl rfl rfl ?_); clear hS; intro w hS)) | ((first | refine sN1 hS rfl ?_); clear hS; first | ((fail_if_success guard_hyp g1); intro g1 w hS) | ((fail_if_success guard_hyp g2); intro g2 w hS) | ((fail_if_success guard_hyp g3); intro g3 w hS) | fail) | fail)
      go_roundw
      case measure => simp [intOf]; omega
      exact ⟨i + 1, wrap64 (t + x), by omega, by go_num, rfl, Lib.hid (by rw [HW.out, HT.out]), hS⟩
    · have HTT := Lib.hid (show wrap64 xs.sum = t by rw [HT.out, ← wsum_zero, List.take_of_length_le (by rw [HX.out.1]; omega)])
      clear HT
      go_wp2_with (first | (refine oL ?_; (first | refine sL1 hS rfl rfl rfl ?_ | refine sL2 hS rfl rfl rfl ?_ | refine sL3 hS rfl rfl ?_ | refine sL4 hS rfl rfl ?_ | refine sL5 hS rfl rfl ?_ | refine sL6 hS rfl rfl ?_ | refine sL7 hS rfl rfl ?_)) | (refine oS ?_; ((first | refine sS1 hS rfl rfl rfl ?_ | refine sS2 hS rfl rfl rfl ?_ | refine sS3 hS rfl rfl rfl ?_ | refine sS4 hS rfl rfl rfl ?_ | refine sS5 hS rfl rfl rfl ?_); clear hS; intro w hS)) | ((first | refine sN1 hS rfl ?_); clear hS; first | ((fail_if_success guard_hyp g1); intro g1 w hS) | ((fail_if_success guard_hyp g2); intro g2 w hS) | ((fail_if_success guard_hyp g3); intro g3 w hS) | fail) | fail)
      refine (snew_n HX.out.1 (HX.out.2.2.into hS.frozInto) (by omega) (by omega)).mono ?_
      rintro e u ⟨⟨A1, c1, A2, c2, A3, c3, A4, c4, A5, c5, A6, c6, A7, c7⟩, rfl, hsn, hx1⟩
      replace hS := hS.frozNew hx1
      obtain ⟨N2, hN2⟩ : ∃ N : Nat → Prop, N = fun k => wr.heap.size ≤ k ∧ k < u.heap.size := ⟨_, rfl⟩
      rw [← hN2] at hS hsn
      have HSN := Lib.hid hsn
      have HC := Lib.hid (cons_new HX.out.1 (by omega) (by omega) HX.out.2.1)
      generalize xs.sum = tot at *
      generalize newS xs = s0 at *
      clear hN2 hsn hx1 HX hlt hi
      obtain ⟨nn, hnn⟩ : ∃ nn, nn = n * n := ⟨_, rfl⟩
      have hnn25 : nn ≤ 25 := by rw [hnn]; exact Nat.le_trans (Nat.mul_le_mul hn4 hn4) (by decide)
      simp only [← hnn]
      have HNN := Lib.hid hnn.symm
      clear hnn
      go_wp2_with (first | (refine oL ?_; (first | refine sL1 hS rfl rfl rfl ?_ | refine sL2 hS rfl rfl rfl ?_ | refine sL3 hS rfl rfl ?_ | refine sL4 hS rfl rfl ?_ | refine sL5 hS rfl rfl ?_ | refine sL6 hS rfl rfl ?_ | refine sL7 hS rfl rfl ?_)) | (refine oS ?_; ((first | refine sS1 hS rfl rfl rfl ?_ | refine sS2 hS rfl rfl rfl ?_ | refine sS3 hS rfl rfl rfl ?_ | refine sS4 hS rfl rfl rfl ?_ | refine sS5 hS rfl rfl rfl ?_); clear hS; intro w hS)) | ((first | refine sN1 hS rfl ?_); clear hS; first | ((fail_if_success guard_hyp g1); intro g1 w hS) | ((fail_if_success guard_hyp g2); intro g2 w hS) | ((fail_if_success guard_hyp g3); intro g3 w hS) | fail) | fail)
      go_loopw [11] (fun s11 wr => ∃ (i : Nat) (A1 : Option Addr) (c1 : Nat) (A2 : Option Addr) (c2 : Nat) (A3 : Option Addr) (c3 : Nat) (A4 : Option Addr) (c4 : Nat) (A5 : Option Addr) (c5 : Nat) (A6 : Option Addr) (c6 : Nat) (A7 : Option Addr) (c7 : Nat) (s : Snp) (T : Nat → Prop) (u : World), i ≤ m ∧ s11 = .int .i64 i ∧ Hid (Cons n i tot s) ∧ Hid (SnAt T u ⟨A1, c1, A2, c2, A3, c3, A4, c4, A5, c5, A6, c6, A7, c7⟩ s) ∧ St w0 NoM [blk g1 [.slice A1 n c1, .slice A2 n c2, .slice A3 nn c3, .slice A4 n c4, .slice A5 n c5, .slice A6 nn c6, .slice A7 nn c7] 28, froz T u, froz N1 u1] wr) (fun s11 _ => m - (intOf s11).toNat)
      case atStart => exact ⟨0, A1, c1, A2, c2, A3, c3, A4, c4, A5, c5, A6, c6, A7, c7, s0, N2, u, by omega, rfl, HC, HSN, hS.re⟩
      case round =>
        clear hS HSN HC
        obtain ⟨i, A1, c1, A2, c2, A3, c3, A4, c4, A5, c5, A6, c6, A7, c7, s, T, u, hi, rfl, HC, HSN, hS⟩ := hrel
        by_cases hlt : i < m
        · have hlt' : (i : Int) < m := by omega
          obtain ⟨b1, o1, e1, hmv⟩ := mv_fcs HL.out.2 (i := i) (by rw [HL.out.1]; exact hlt)
          subst e1
          generalize l[i]'(by rw [HL.out.1]; exact hlt) = mv at *
          obtain ⟨kd, fr, tt, val⟩ := mv
          simp only at hmv
          by_cases hr : refS s ⟨kd, fr, tt, val⟩ = 0
          · have HR := Lib.hid hr
            clear hr
            go_wp2_with (first | (refine oL ?_; (first | refine sL1 hS rfl rfl rfl ?_ | refine sL2 hS rfl rfl rfl ?_ | refine sL3 hS rfl rfl ?_ | refine sL4 hS rfl rfl ?_ | refine sL5 hS rfl rfl ?_ | refine sL6 hS rfl rfl ?_ | refine sL7 hS rfl rfl ?_)) | (refine oS ?_; ((first | refine sS1 hS rfl rfl rfl ?_ | refine sS2 hS rfl rfl rfl ?_ | refine sS3 hS rfl rfl rfl ?_ | refine sS4 hS rfl rfl rfl ?_ | refine sS5 hS rfl rfl rfl ?_); clear hS; intro w hS)) | ((first | refine sN1 hS rfl ?_); clear hS; first | ((fail_if_success guard_hyp g1); intro g1 w hS) | ((fail_if_success guard_hyp g2); intro g2 w hS) | ((fail_if_success guard_hyp g3); intro g3 w hS) | fail) | fail)
            refine dr_start0 []  hS (by kernel_rfl) rfl ?_; clear hS; intro w hS
            first | refine dL1 hS 0 rfl rfl rfl rfl ?_ | refine dL2 hS 0 rfl rfl rfl rfl ?_ | refine dL3 hS 0 rfl rfl rfl ?_ | refine dL4 hS 0 rfl rfl rfl ?_ | refine dL5 hS 0 rfl rfl rfl ?_ | refine dL6 hS 0 rfl rfl rfl ?_ | refine dL7 hS 0 rfl rfl rfl ?_
            (try simp only [Act.put, nA, nB, nC])
            refine dM hS 1 rfl rfl rfl ?_
            (try simp only [Act.put, nA, nB, nC])
            refine dM hS 2 rfl rfl rfl ?_
            (try simp only [Act.put, nA, nB, nC])
            refine dP hS 3 rfl rfl ?_
            (try simp only [Act.put, nA, nB, nC])
            first | refine dL1 hS 4 rfl rfl rfl rfl ?_ | refine dL2 hS 4 rfl rfl rfl rfl ?_ | refine dL3 hS 4 rfl rfl rfl ?_ | refine dL4 hS 4 rfl rfl rfl ?_ | refine dL5 hS 4 rfl rfl rfl ?_ | refine dL6 hS 4 rfl rfl rfl ?_ | refine dL7 hS 4 rfl rfl rfl ?_
            (try simp only [Act.put, nA, nB, nC])
            refine dr_two 5 9 (by kernel_rfl) rfl rfl ?_ ?_
            (refine st_call rfl (by kernel_rfl) rfl ?_; go_at_call 15; refine (step_n (HSN.out.into hS.intoK) HC.out.ok HNN.out (by omega) HR.out).mono ?_; rintro e w1 ⟨B1, d1, B2, d2, B3, d3, B4, d4, B5, d5, B6, d6, B7, d7, rfl, hsn, hx1⟩; obtain ⟨T1, hS1, hi1, hi0⟩ := hS.grow2 hx1; replace hS := hS1; clear hS1; have HS1 := Lib.hid (hsn.into hi1); clear hsn)
            (try simp only [Act.put, nA, nB, nC])
            refine dr_end hS ?_
            refine dM hS 6 rfl rfl rfl ?_
            (try simp only [Act.put, nA, nB, nC])
            refine dP hS 7 rfl rfl ?_
            (try simp only [Act.put, nA, nB, nC])
            refine dP hS 8 rfl rfl ?_
            (try simp only [Act.put, nA, nB, nC])
            refine dr_one 9 (by kernel_rfl) rfl ?_
            (refine sN1 hS rfl ?_; clear hS; first | ((fail_if_success guard_hyp g1); intro g1 w hS) | ((fail_if_success guard_hyp g2); intro g2 w hS) | ((fail_if_success guard_hyp g3); intro g3 w hS) | fail)
            (try simp only [Act.put, nA, nB, nC])
            refine dr_end hS ?_
            refine dr_one 10 (by kernel_rfl) rfl ?_
            ((first | refine sS1 hS rfl rfl rfl ?_ | refine sS2 hS rfl rfl rfl ?_ | refine sS3 hS rfl rfl rfl ?_ | refine sS4 hS rfl rfl rfl ?_ | refine sS5 hS rfl rfl rfl ?_); clear hS; intro w hS)
            (try simp only [Act.put, nA, nB, nC])
            refine dr_end hS ?_
            refine dA hS 11 rfl rfl rfl ?_
            (try simp only [Act.put, nA, nB, nC])
            refine dr_done (by kernel_rfl) ?_
            rotate_left
            (refine sN1 hS rfl ?_; clear hS; first | ((fail_if_success guard_hyp g1); intro g1 w hS) | ((fail_if_success guard_hyp g2); intro g2 w hS) | ((fail_if_success guard_hyp g3); intro g3 w hS) | fail)
            (try simp only [Act.put, nA, nB, nC])
            refine dr_end hS ?_
            refine dr_one 5 (by kernel_rfl) rfl ?_
            (refine st_call rfl (by kernel_rfl) rfl ?_; go_at_call 15; refine (step_n (HSN.out.into hS.intoK) HC.out.ok HNN.out (by omega) HR.out).mono ?_; rintro e w1 ⟨B1, d1, B2, d2, B3, d3, B4, d4, B5, d5, B6, d6, B7, d7, rfl, hsn, hx1⟩; obtain ⟨T1, hS1, hi1, hi0⟩ := hS.grow2 hx1; replace hS := hS1; clear hS1; have HS1 := Lib.hid (hsn.into hi1); clear hsn)
            (try simp only [Act.put, nA, nB, nC])
            refine dr_end hS ?_
            refine dM hS 6 rfl rfl rfl ?_
            (try simp only [Act.put, nA, nB, nC])
            refine dP hS 7 rfl rfl ?_
            (try simp only [Act.put, nA, nB, nC])
            refine dP hS 8 rfl rfl ?_
            (try simp only [Act.put, nA, nB, nC])
            refine dr_one 10 (by kernel_rfl) rfl ?_
            ((first | refine sS1 hS rfl rfl rfl ?_ | refine sS2 hS rfl rfl rfl ?_ | refine sS3 hS rfl rfl rfl ?_ | refine sS4 hS rfl rfl rfl ?_ | refine sS5 hS rfl rfl rfl ?_); clear hS; intro w hS)
            (try simp only [Act.put, nA, nB, nC])
            refine dr_end hS ?_
            refine dA hS 11 rfl rfl rfl ?_
            (try simp only [Act.put, nA, nB, nC])
            refine dr_done (by kernel_rfl) ?_
            rotate_left
            all_goals
              replace hS := hS.re (ds := [blk g1 [.slice A1 n c1, .slice A2 n c2, .slice A3 nn c3, .slice A4 n c4, .slice A5 n c5, .slice A6 nn c6, .slice A7 nn c7] 28, blk g2 [.slice B1 n d1, .slice B2 n d2, .slice B3 nn d3, .slice B4 n d4, .slice B5 n d5, .slice B6 nn d6, .slice B7 nn d7] 28, froz T1 w1, froz T u, froz N1 u1])
              obtain ⟨T2, hS2, hi2, hi3⟩ := hS.merge T1 w1 hi0
              have HS2 := Lib.hid (HS1.out.into hi3)
              have HC2 := Lib.hid (HC.out.go HR.out)
              replace hS := hS2
              clear hS2 hi0 hi1 hi2 hi3 HS1 HC HSN
              generalize goS s ⟨kd, fr, tt, val⟩ = s2 at *
              have HLN := Lib.hid (show SnLen n nn s2 by have h := HC2.out.ok.len (by omega); rw [HNN.out] at h; exact h)
              have HTP := Lib.hid (show totP s2 = t by rw [HC2.out.pres, HTT.out])
              have HTR := Lib.hid (show compS s2 = true → totR s2 = t from fun h => by rw [HC2.out.recd h, HTT.out])
              have et : (t != t) = false := by simp
              have et2 : (t == t) = true := by simp
              cases hcb : compS s2 with
              | true =>
                have HCB := Lib.hid hcb
                have HTR2 := Lib.hid (HTR.out hcb)
                clear hcb
                go_wp2_with (first | (go_at_call 17; refine (totals_n (HS2.out.into hS.intoK) HLN.out (by omega) (by omega)).mono ?_; rw [HTP.out, HTR2.out]; rintro e w ⟨rfl, hx1⟩; replace hS := hS.ext hx1) | (go_at_call 19; refine (complete_n (HS2.out.into hS.intoK) HLN.out (by omega) (by omega)).mono ?_; rw [HCB.out]; rintro e w ⟨rfl, hx1⟩; replace hS := hS.ext hx1) | (refine oL ?_; (first | refine sL1 hS rfl rfl rfl ?_ | refine sL2 hS rfl rfl rfl ?_ | refine sL3 hS rfl rfl ?_ | refine sL4 hS rfl rfl ?_ | refine sL5 hS rfl rfl ?_ | refine sL6 hS rfl rfl ?_ | refine sL7 hS rfl rfl ?_)) | (refine oS ?_; ((first | refine sS1 hS rfl rfl rfl ?_ | refine sS2 hS rfl rfl rfl ?_ | refine sS3 hS rfl rfl rfl ?_ | refine sS4 hS rfl rfl rfl ?_ | refine sS5 hS rfl rfl rfl ?_); clear hS; intro w hS)) | ((first | refine sN1 hS rfl ?_); clear hS; first | ((fail_if_success guard_hyp g1); intro g1 w hS) | ((fail_if_success guard_hyp g2); intro g2 w hS) | ((fail_if_success guard_hyp g3); intro g3 w hS) | fail) | fail)
                go_roundw
                case measure => simp [intOf]; omega
                exact ⟨i + 1, B1, d1, B2, d2, B3, d3, B4, d4, B5, d5, B6, d6, B7, d7, s2, _, _, by omega, by go_num, HC2, HS2, hS.re⟩
              | false =>
                have HCB := Lib.hid hcb
                clear hcb
                go_wp2_with (first | (go_at_call 17; refine (totals_n (HS2.out.into hS.intoK) HLN.out (by omega) (by omega)).mono ?_; rw [HTP.out]; rintro e w ⟨rfl, hx1⟩; replace hS := hS.ext hx1) | (go_at_call 19; refine (complete_n (HS2.out.into hS.intoK) HLN.out (by omega) (by omega)).mono ?_; rw [HCB.out]; rintro e w ⟨rfl, hx1⟩; replace hS := hS.ext hx1) | (refine oL ?_; (first | refine sL1 hS rfl rfl rfl ?_ | refine sL2 hS rfl rfl rfl ?_ | refine sL3 hS rfl rfl ?_ | refine sL4 hS rfl rfl ?_ | refine sL5 hS rfl rfl ?_ | refine sL6 hS rfl rfl ?_ | refine sL7 hS rfl rfl ?_)) | (refine oS ?_; ((first | refine sS1 hS rfl rfl rfl ?_ | refine sS2 hS rfl rfl rfl ?_ | refine sS3 hS rfl rfl rfl ?_ | refine sS4 hS rfl rfl rfl ?_ | refine sS5 hS rfl rfl rfl ?_); clear hS; intro w hS)) | ((first | refine sN1 hS rfl ?_); clear hS; first | ((fail_if_success guard_hyp g1); intro g1 w hS) | ((fail_if_success guard_hyp g2); intro g2 w hS) | ((fail_if_success guard_hyp g3); intro g3 w hS) | fail) | fail)
                go_roundw
                case measure => simp [intOf]; omega
                exact ⟨i + 1, B1, d1, B2, d2, B3, d3, B4, d4, B5, d5, B6, d6, B7, d7, s2, _, _, by omega, by go_num, HC2, HS2, hS.re⟩
          · have HR := Lib.hid (show (refS s ⟨kd, fr, tt, val⟩ == 0) = false by simpa using hr)
            have HR0 := Lib.hid hr
            clear hr
            go_wp2_with (first | (refine oL ?_; (first | refine sL1 hS rfl rfl rfl ?_ | refine sL2 hS rfl rfl rfl ?_ | refine sL3 hS rfl rfl ?_ | refine sL4 hS rfl rfl ?_ | refine sL5 hS rfl rfl ?_ | refine sL6 hS rfl rfl ?_ | refine sL7 hS rfl rfl ?_)) | (refine oS ?_; ((first | refine sS1 hS rfl rfl rfl ?_ | refine sS2 hS rfl rfl rfl ?_ | refine sS3 hS rfl rfl rfl ?_ | refine sS4 hS rfl rfl rfl ?_ | refine sS5 hS rfl rfl rfl ?_); clear hS; intro w hS)) | ((first | refine sN1 hS rfl ?_); clear hS; first | ((fail_if_success guard_hyp g1); intro g1 w hS) | ((fail_if_success guard_hyp g2); intro g2 w hS) | ((fail_if_success guard_hyp g3); intro g3 w hS) | fail) | fail)
            refine dr_start0 []  hS (by kernel_rfl) rfl ?_; clear hS; intro w hS
            first | refine dL1 hS 0 rfl rfl rfl rfl ?_ | refine dL2 hS 0 rfl rfl rfl rfl ?_ | refine dL3 hS 0 rfl rfl rfl ?_ | refine dL4 hS 0 rfl rfl rfl ?_ | refine dL5 hS 0 rfl rfl rfl ?_ | refine dL6 hS 0 rfl rfl rfl ?_ | refine dL7 hS 0 rfl rfl rfl ?_
            (try simp only [Act.put, nA, nB, nC])
            refine dM hS 1 rfl rfl rfl ?_
            (try simp only [Act.put, nA, nB, nC])
            refine dM hS 2 rfl rfl rfl ?_
            (try simp only [Act.put, nA, nB, nC])
            refine dP hS 3 rfl rfl ?_
            (try simp only [Act.put, nA, nB, nC])
            first | refine dL1 hS 4 rfl rfl rfl rfl ?_ | refine dL2 hS 4 rfl rfl rfl rfl ?_ | refine dL3 hS 4 rfl rfl rfl ?_ | refine dL4 hS 4 rfl rfl rfl ?_ | refine dL5 hS 4 rfl rfl rfl ?_ | refine dL6 hS 4 rfl rfl rfl ?_ | refine dL7 hS 4 rfl rfl rfl ?_
            (try simp only [Act.put, nA, nB, nC])
            refine dr_two 5 9 (by kernel_rfl) rfl rfl ?_ ?_
            (refine st_call rfl (by kernel_rfl) rfl ?_; go_at_call 15; refine (step_r (HSN.out.into hS.intoK) HC.out.ok HNN.out (by omega) HR0.out).mono ?_; rintro e w1 ⟨B1, d1, B2, d2, B3, d3, B4, d4, B5, d5, B6, d6, B7, d7, rfl, hx1⟩; replace hS := hS.ext hx1)
            (try simp only [Act.put, nA, nB, nC])
            refine dr_end hS ?_
            refine dM hS 6 rfl rfl rfl ?_
            (try simp only [Act.put, nA, nB, nC])
            refine dP hS 7 rfl rfl ?_
            (try simp only [Act.put, nA, nB, nC])
            refine dP hS 8 rfl rfl ?_
            (try simp only [Act.put, nA, nB, nC])
            refine dr_one 9 (by kernel_rfl) rfl ?_
            (refine sN1 hS rfl ?_; clear hS; first | ((fail_if_success guard_hyp g1); intro g1 w hS) | ((fail_if_success guard_hyp g2); intro g2 w hS) | ((fail_if_success guard_hyp g3); intro g3 w hS) | fail)
            (try simp only [Act.put, nA, nB, nC])
            refine dr_end hS ?_
            refine dr_one 10 (by kernel_rfl) rfl ?_
            ((first | refine sS1 hS rfl rfl rfl ?_ | refine sS2 hS rfl rfl rfl ?_ | refine sS3 hS rfl rfl rfl ?_ | refine sS4 hS rfl rfl rfl ?_ | refine sS5 hS rfl rfl rfl ?_); clear hS; intro w hS)
            (try simp only [Act.put, nA, nB, nC])
            refine dr_end hS ?_
            refine dA hS 11 rfl rfl rfl ?_
            (try simp only [Act.put, nA, nB, nC])
            refine dr_done (by kernel_rfl) ?_
            rotate_left
            (refine sN1 hS rfl ?_; clear hS; first | ((fail_if_success guard_hyp g1); intro g1 w hS) | ((fail_if_success guard_hyp g2); intro g2 w hS) | ((fail_if_success guard_hyp g3); intro g3 w hS) | fail)
            (try simp only [Act.put, nA, nB, nC])
            refine dr_end hS ?_
            refine dr_one 5 (by kernel_rfl) rfl ?_
            (refine st_call rfl (by kernel_rfl) rfl ?_; go_at_call 15; refine (step_r (HSN.out.into hS.intoK) HC.out.ok HNN.out (by omega) HR0.out).mono ?_; rintro e w1 ⟨B1, d1, B2, d2, B3, d3, B4, d4, B5, d5, B6, d6, B7, d7, rfl, hx1⟩; replace hS := hS.ext hx1)
            (try simp only [Act.put, nA, nB, nC])
            refine dr_end hS ?_
            refine dM hS 6 rfl rfl rfl ?_
            (try simp only [Act.put, nA, nB, nC])
            refine dP hS 7 rfl rfl ?_
            (try simp only [Act.put, nA, nB, nC])
            refine dP hS 8 rfl rfl ?_
            (try simp only [Act.put, nA, nB, nC])
            refine dr_one 10 (by kernel_rfl) rfl ?_
            ((first | refine sS1 hS rfl rfl rfl ?_ | refine sS2 hS rfl rfl rfl ?_ | refine sS3 hS rfl rfl rfl ?_ | refine sS4 hS rfl rfl rfl ?_ | refine sS5 hS rfl rfl rfl ?_); clear hS; intro w hS)
            (try simp only [Act.put, nA, nB, nC])
            refine dr_end hS ?_
            refine dA hS 11 rfl rfl rfl ?_
            (try simp only [Act.put, nA, nB, nC])
            refine dr_done (by kernel_rfl) ?_
            rotate_left
            all_goals
              have HC9 := Lib.hid (HC.out.mono (Nat.le_succ i))
              have er0 := HR.out
              have er1 := HR0.out
              clear HR HR0 HC
              generalize refS s ⟨kd, fr, tt, val⟩ = er at *
              have HLN := Lib.hid (show SnLen n nn s by have h := HC9.out.ok.len (by omega); rw [HNN.out] at h; exact h)
              have HTP := Lib.hid (show totP s = t by rw [HC9.out.pres, HTT.out])
              have HTR := Lib.hid (show compS s = true → totR s = t from fun h => by rw [HC9.out.recd h, HTT.out])
              have et : (t != t) = false := by simp
              have et2 : (t == t) = true := by simp
              cases hcb : compS s with
              | true =>
                have HCB := Lib.hid hcb
                have HTR2 := Lib.hid (HTR.out hcb)
                clear hcb
                go_wp2_with (first | (go_at_call 17; refine (totals_n (HSN.out.into hS.intoK) HLN.out (by omega) (by omega)).mono ?_; rw [HTP.out, HTR2.out]; rintro e w ⟨rfl, hx1⟩; replace hS := hS.ext hx1) | (go_at_call 19; refine (complete_n (HSN.out.into hS.intoK) HLN.out (by omega) (by omega)).mono ?_; rw [HCB.out]; rintro e w ⟨rfl, hx1⟩; replace hS := hS.ext hx1) | (refine oL ?_; (first | refine sL1 hS rfl rfl rfl ?_ | refine sL2 hS rfl rfl rfl ?_ | refine sL3 hS rfl rfl ?_ | refine sL4 hS rfl rfl ?_ | refine sL5 hS rfl rfl ?_ | refine sL6 hS rfl rfl ?_ | refine sL7 hS rfl rfl ?_)) | (refine oS ?_; ((first | refine sS1 hS rfl rfl rfl ?_ | refine sS2 hS rfl rfl rfl ?_ | refine sS3 hS rfl rfl rfl ?_ | refine sS4 hS rfl rfl rfl ?_ | refine sS5 hS rfl rfl rfl ?_); clear hS; intro w hS)) | ((first | refine sN1 hS rfl ?_); clear hS; first | ((fail_if_success guard_hyp g1); intro g1 w hS) | ((fail_if_success guard_hyp g2); intro g2 w hS) | ((fail_if_success guard_hyp g3); intro g3 w hS) | fail) | fail)
                go_roundw
                case measure => simp [intOf]; omega
                exact ⟨i + 1, A1, c1, A2, c2, A3, c3, A4, c4, A5, c5, A6, c6, A7, c7, s, _, _, by omega, by go_num, HC9, HSN, hS.re⟩
              | false =>
                have HCB := Lib.hid hcb
                clear hcb
                go_wp2_with (first | (go_at_call 17; refine (totals_n (HSN.out.into hS.intoK) HLN.out (by omega) (by omega)).mono ?_; rw [HTP.out]; rintro e w ⟨rfl, hx1⟩; replace hS := hS.ext hx1) | (go_at_call 19; refine (complete_n (HSN.out.into hS.intoK) HLN.out (by omega) (by omega)).mono ?_; rw [HCB.out]; rintro e w ⟨rfl, hx1⟩; replace hS := hS.ext hx1) | (refine oL ?_; (first | refine sL1 hS rfl rfl rfl ?_ | refine sL2 hS rfl rfl rfl ?_ | refine sL3 hS rfl rfl ?_ | refine sL4 hS rfl rfl ?_ | refine sL5 hS rfl rfl ?_ | refine sL6 hS rfl rfl ?_ | refine sL7 hS rfl rfl ?_)) | (refine oS ?_; ((first | refine sS1 hS rfl rfl rfl ?_ | refine sS2 hS rfl rfl rfl ?_ | refine sS3 hS rfl rfl rfl ?_ | refine sS4 hS rfl rfl rfl ?_ | refine sS5 hS rfl rfl rfl ?_); clear hS; intro w hS)) | ((first | refine sN1 hS rfl ?_); clear hS; first | ((fail_if_success guard_hyp g1); intro g1 w hS) | ((fail_if_success guard_hyp g2); intro g2 w hS) | ((fail_if_success guard_hyp g3); intro g3 w hS) | fail) | fail)
                go_roundw
                case measure => simp [intOf]; omega
                exact ⟨i + 1, A1, c1, A2, c2, A3, c3, A4, c4, A5, c5, A6, c6, A7, c7, s, _, _, by omega, by go_num, HC9, HSN, hS.re⟩
        · go_wp2_with (first | (refine oL ?_; (first | refine sL1 hS rfl rfl rfl ?_ | refine sL2 hS rfl rfl rfl ?_ | refine sL3 hS rfl rfl ?_ | refine sL4 hS rfl rfl ?_ | refine sL5 hS rfl rfl ?_ | refine sL6 hS rfl rfl ?_ | refine sL7 hS rfl rfl ?_)) | (refine oS ?_; ((first | refine sS1 hS rfl rfl rfl ?_ | refine sS2 hS rfl rfl rfl ?_ | refine sS3 hS rfl rfl rfl ?_ | refine sS4 hS rfl rfl rfl ?_ | refine sS5 hS rfl rfl rfl ?_); clear hS; intro w hS)) | ((first | refine sN1 hS rfl ?_); clear hS; first | ((fail_if_success guard_hyp g1); intro g1 w hS) | ((fail_if_success guard_hyp g2); intro g2 w hS) | ((fail_if_success guard_hyp g3); intro g3 w hS) | fail) | fail)
          go_ret
          exact ⟨rfl, hS.toExt⟩
open Go.ChangeShapes Go.WideShapes Go.ChangeAt
set_option maxRecDepth 100000 in
theorem lifted_MarkerConserves (os : Os) (started : os.Started) (H : Type) (enc : TypeId × Value → H) :
    ReturnsInHanded {} Try.checked os 6 .any (Rows.markerConservesSpec.pre6 enc Try.prog Try.f6 Rows.markerConservesRow.domain false) (Rows.markerConservesSpec.post enc Try.prog Try.f6 false true false false) := by
  refine law_lifted (C := Try.checked) (s := Rows.markerConservesSpec) (tb := 4) (by kernel_rfl) started (by kernel_rfl) Try.func6
      (ChangeSpec.witness6 (enc := enc) (C := Try.checked) false ⟨#[], #[.slice none 0 0, .slice none 0 0], []⟩ 8 (by kernel_rfl) (by kernel_rfl) (by kernel_rfl) (by kernel_rfl))
      (by kernel_rfl) rfl rfl Try.underlying4 (read_of (by kernel_rfl)) ?_ ?_
  · intro ds hl
    match ds, hl with
    | [d0, d1], _ => exact ⟨rfl, rfl, rfl⟩
  · intro W base args ds p hval0 hA0
    have hval : ∀ (j : Nat) t v, Try.f6.params[j]? = some t → args[j]? = some v → Value.okWide Try.prog W .any base t v := hval0
    have hA : DataW.TrodAll enc Try.prog W 0 (fun _ => true) true Try.f6.params.toList args.toList ds p := hA0
    clear hA0 hval0
    rw [Try.params6] at hA hval
    obtain ⟨v0, v1, d0, d1, p0, p1, rfl, rfl, rfl, h0, h1⟩ := trodAll_two hA
    obtain ⟨A0, c0, xs0, rfl, hri0, hc0, hd0, hwf0⟩ := open_nums Try.underlying22 Try.underlying3 (by kernel_rfl) (hval 0 _ v0 rfl rfl) h0
    obtain ⟨A1, c1, xs1, rfl, hri1, hc1, hd1, hwf1⟩ := open_nums Try.underlying34 Try.underlying5 (by kernel_rfl) (hval 1 _ v1 rfl rfl) h1
    exact markerConserves_any A0 c0 xs0 A1 c1 xs1 W hri0 hc0 hd0 (fun b hb => i64_bd (hwf0 b hb)) hri1 hc1 hd1 (fun b hb => u8_bd (hwf1 b hb))
/-- MarkerConserves returns true for every input, and leaves its arguments as they were. -/
theorem proved_MarkerConserves : Rows.MarkerConservesSaid :=
  OpenClaim.holds_of_wide 6 Try.f6 rfl rfl rfl rfl rfl rfl rfl ⟨rfl, rfl, rfl, rfl, rfl⟩ rfl rfl rfl rfl rfl (by kernel_rfl) Try.func6 (by kernel_rfl)
    (of_decide_eq_true (by kernel_rfl)) (by unfold Func.isWrapper; rw [if_neg (by decide +kernel)]; exact ⟨rfl, rfl⟩)
    (fun os started H enc _ => lifted_MarkerConserves os started H enc)
end Go.Proofs.Ytkaofbjppibdkaa
