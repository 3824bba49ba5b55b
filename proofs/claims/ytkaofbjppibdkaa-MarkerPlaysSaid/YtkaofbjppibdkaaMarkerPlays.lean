/- MarkerPlays: the machine after each move is the reference's; so are Complete and Totals. No condition. -/
import Derived.Test.YtkaofbjppibdkaaSnRefL
import Derived.Test.YtkaofbjppibdkaaSnTotR
import Derived.Test.YtkaofbjppibdkaaGe
namespace Go.Proofs.Ytkaofbjppibdkaa
open Go.RowKit
set_option linter.unusedVariables false
set_option linter.unusedSimpArgs false
set_option linter.unusedSectionVars false

theorem rtotals_n {S : Nat → Prop} {A1 A2 A3 A4 A5 A6 A7 : Option Addr} {c1 c2 c3 c4 c5 c6 c7 n m : Nat} {s : Snp} {w0 : World} (hs : SnAt S w0 ⟨A1, c1, A2, c2, A3, c3, A4, c4, A5, c5, A6, c6, A7, c7⟩ s) (hl : SnLen n m s) (hn : n ≤ 5) (hm : m ≤ 25) :
    Calls Try.prog 18 #[.agg #[.slice A1 n c1, .slice A2 n c2, .slice A3 m c3, .slice A4 n c4, .slice A5 n c5, .slice A6 m c6, .slice A7 m c7]] w0 fun e w' => e = .returned (.tuple #[.int .i64 (totP s), .int .i64 (totR s)]) ∧ Ext w0 w' :=
  rtotals_any ⟨A1, c1, A2, c2, A3, c3, A4, c4, A5, c5, A6, c6, A7, c7⟩ s n m w0 hs hl (by omega) (by omega)
theorem rcomplete_n {S : Nat → Prop} {A1 A2 A3 A4 A5 A6 A7 : Option Addr} {c1 c2 c3 c4 c5 c6 c7 n m b : Nat} {s : Snp} {w0 : World} (hs : SnAt S w0 ⟨A1, c1, A2, c2, A3, c3, A4, c4, A5, c5, A6, c6, A7, c7⟩ s) (hl : SnLen n m s) (hok : SnOk n b s) (hn : n ≤ 5) (hm : m ≤ 25) :
    Calls Try.prog 20 #[.agg #[.slice A1 n c1, .slice A2 n c2, .slice A3 m c3, .slice A4 n c4, .slice A5 n c5, .slice A6 m c6, .slice A7 m c7]] w0 fun e w' => e = .returned (.bool (compS s)) ∧ Ext w0 w' :=
  rcomplete_any ⟨A1, c1, A2, c2, A3, c3, A4, c4, A5, c5, A6, c6, A7, c7⟩ s n m b w0 hs hl hok (by omega) (by omega)
set_option maxRecDepth 100000 in
set_option maxHeartbeats 6400000 in
theorem markerPlays_any (V : Option Addr) (g : Nat) (vs : List Int) (C : Option Addr) (f : Nat) (bs : List Int) (w0 : World) (hvs : RI (fun b => b < w0.heap.size) w0 V vs) (hg : vs.length ≤ g) (hg' : g ≤ 9223372036854775807) (hin : ∀ b ∈ vs, -9223372036854775808 ≤ b ∧ b ≤ 9223372036854775807) (hbs : RV (fun b => b < w0.heap.size) w0 C (bytes bs)) (hf : bs.length ≤ f) (hf' : f ≤ 9223372036854775807) (hby : ∀ b ∈ bs, 0 ≤ b ∧ b ≤ 255) :
    Calls Try.prog 4 #[.slice V vs.length g, .slice C bs.length f] w0 fun e w' => e = .returned (.bool true) ∧ Ext w0 w' := by
  have hS := St.start w0 NoM
  have HV := Lib.hid (And.intro hvs (And.intro hin (And.intro hbs hby)))
  clear hvs hin hbs hby
  go_enter Try.func4, Try.ntmps4
  go_wp2_with (first | (go_at_call 10; refine (awake23_any _).mono ?_; rintro e w ⟨rfl, hx1⟩; replace hS := hS.ext hx1) | (refine oL ?_; (first | refine sL1 hS rfl rfl rfl ?_ | refine sL2 hS rfl rfl rfl ?_ | refine sL3 hS rfl rfl ?_ | refine sL4 hS rfl rfl ?_ | refine sL5 hS rfl rfl ?_ | refine sL6 hS rfl rfl ?_ | refine sL7 hS rfl rfl ?_)) | (refine oS ?_; ((first | refine sS1 hS rfl rfl rfl ?_ | refine sS2 hS rfl rfl rfl ?_ | refine sS3 hS rfl rfl rfl ?_ | refine sS4 hS rfl rfl rfl ?_ | refine sS5 hS rfl rfl rfl ?_); clear hS; intro w hS)) | ((first | refine sN1 hS rfl ?_); clear hS; first | ((fail_if_success guard_hyp g1); intro g1 w hS) | ((fail_if_success guard_hyp g2); intro g2 w hS) | ((fail_if_success guard_hyp g3); intro g3 w hS) | ((fail_if_success guard_hyp g4); intro g4 w hS) | ((fail_if_success guard_hyp g5); intro g5 w hS) | fail) | fail)
  refine (start_n (HV.out.1.ext hS.toExt) hg hg' HV.out.2.1 (HV.out.2.2.1.ext hS.toExt) hf hf' HV.out.2.2.2).mono ?_
  rintro e u1 ⟨L1, q1, n, xs, L2, q2, m, l, rfl, hxl, hn2, hn4, hxi, hll, hm50, hr1, hr2, hx1⟩
  replace hS := hS.frozNew hx1
  obtain ⟨N1, hN1⟩ : ∃ N : Nat → Prop, N = fun k => w.heap.size ≤ k ∧ k < u1.heap.size := ⟨_, rfl⟩
  rw [← hN1] at hS hr1 hr2
  have HX := Lib.hid (And.intro hxl (And.intro hxi hr1))
  have HL := Lib.hid (And.intro hll hr2)
  clear hN1 hxl hxi hr1 hll hr2 hx1 HV
  obtain ⟨nn, hnn⟩ : ∃ nn, nn = n * n := ⟨_, rfl⟩
  have hnn25 : nn ≤ 25 := by rw [hnn]; exact Nat.le_trans (Nat.mul_le_mul hn4 hn4) (by decide)
  have HNN := Lib.hid hnn.symm
  clear hnn
  go_wp2_with (first | (refine oL ?_; (first | refine sL1 hS rfl rfl rfl ?_ | refine sL2 hS rfl rfl rfl ?_ | refine sL3 hS rfl rfl ?_ | refine sL4 hS rfl rfl ?_ | refine sL5 hS rfl rfl ?_ | refine sL6 hS rfl rfl ?_ | refine sL7 hS rfl rfl ?_)) | (refine oS ?_; ((first | refine sS1 hS rfl rfl rfl ?_ | refine sS2 hS rfl rfl rfl ?_ | refine sS3 hS rfl rfl rfl ?_ | refine sS4 hS rfl rfl rfl ?_ | refine sS5 hS rfl rfl rfl ?_); clear hS; intro w hS)) | ((first | refine sN1 hS rfl ?_); clear hS; first | ((fail_if_success guard_hyp g1); intro g1 w hS) | ((fail_if_success guard_hyp g2); intro g2 w hS) | ((fail_if_success guard_hyp g3); intro g3 w hS) | ((fail_if_success guard_hyp g4); intro g4 w hS) | ((fail_if_success guard_hyp g5); intro g5 w hS) | fail) | fail)
  refine (snew_n HX.out.1 (HX.out.2.2.into hS.frozInto) (by omega) (by omega)).mono ?_
  rintro e u ⟨⟨A1, c1, A2, c2, A3, c3, A4, c4, A5, c5, A6, c6, A7, c7⟩, rfl, hsn, hx1⟩
  replace hS := hS.frozNew hx1
  obtain ⟨N2, hN2⟩ : ∃ N : Nat → Prop, N = fun k => u1.heap.size ≤ k ∧ k < u.heap.size := ⟨_, rfl⟩
  rw [← hN2] at hS hsn
  have HSN := Lib.hid hsn
  clear hN2 hsn hx1
  simp only [HNN.out]
  go_wp2_with (first | (refine oL ?_; (first | refine sL1 hS rfl rfl rfl ?_ | refine sL2 hS rfl rfl rfl ?_ | refine sL3 hS rfl rfl ?_ | refine sL4 hS rfl rfl ?_ | refine sL5 hS rfl rfl ?_ | refine sL6 hS rfl rfl ?_ | refine sL7 hS rfl rfl ?_)) | (refine oS ?_; ((first | refine sS1 hS rfl rfl rfl ?_ | refine sS2 hS rfl rfl rfl ?_ | refine sS3 hS rfl rfl rfl ?_ | refine sS4 hS rfl rfl rfl ?_ | refine sS5 hS rfl rfl rfl ?_); clear hS; intro w hS)) | ((first | refine sN1 hS rfl ?_); clear hS; first | ((fail_if_success guard_hyp g1); intro g1 w hS) | ((fail_if_success guard_hyp g2); intro g2 w hS) | ((fail_if_success guard_hyp g3); intro g3 w hS) | ((fail_if_success guard_hyp g4); intro g4 w hS) | ((fail_if_success guard_hyp g5); intro g5 w hS) | fail) | fail)
  refine (rsnew_n HX.out.1 (HX.out.2.2.into (hS.intoK (T := N1))) (by omega) (by omega)).mono ?_
  rintro e u2 ⟨⟨B1, d1, B2, d2, B3, d3, B4, d4, B5, d5, B6, d6, B7, d7⟩, rfl, hsn, hx1⟩
  replace hS := hS.frozNew hx1
  obtain ⟨N3, hN3⟩ : ∃ N : Nat → Prop, N = fun k => w.heap.size ≤ k ∧ k < u2.heap.size := ⟨_, rfl⟩
  rw [← hN3] at hS hsn
  have HST := Lib.hid hsn
  clear hN3 hsn hx1
  simp only [HNN.out]
  go_wp2_with (first | (refine oL ?_; (first | refine sL1 hS rfl rfl rfl ?_ | refine sL2 hS rfl rfl rfl ?_ | refine sL3 hS rfl rfl ?_ | refine sL4 hS rfl rfl ?_ | refine sL5 hS rfl rfl ?_ | refine sL6 hS rfl rfl ?_ | refine sL7 hS rfl rfl ?_)) | (refine oS ?_; ((first | refine sS1 hS rfl rfl rfl ?_ | refine sS2 hS rfl rfl rfl ?_ | refine sS3 hS rfl rfl rfl ?_ | refine sS4 hS rfl rfl rfl ?_ | refine sS5 hS rfl rfl rfl ?_); clear hS; intro w hS)) | ((first | refine sN1 hS rfl ?_); clear hS; first | ((fail_if_success guard_hyp g1); intro g1 w hS) | ((fail_if_success guard_hyp g2); intro g2 w hS) | ((fail_if_success guard_hyp g3); intro g3 w hS) | ((fail_if_success guard_hyp g4); intro g4 w hS) | ((fail_if_success guard_hyp g5); intro g5 w hS) | fail) | fail)
  have HC0 := Lib.hid (newS_ok (vs := xs) (by rw [HX.out.1]; omega) (by rw [HX.out.1]; omega) HX.out.2.1)
  rw [HX.out.1] at HC0
  generalize newS xs = s0 at *
  clear HX
  go_loopw [11] (fun s11 wr => ∃ (i : Nat) (A1 : Option Addr) (c1 : Nat) (A2 : Option Addr) (c2 : Nat) (A3 : Option Addr) (c3 : Nat) (A4 : Option Addr) (c4 : Nat) (A5 : Option Addr) (c5 : Nat) (A6 : Option Addr) (c6 : Nat) (A7 : Option Addr) (c7 : Nat) (B1 : Option Addr) (d1 : Nat) (B2 : Option Addr) (d2 : Nat) (B3 : Option Addr) (d3 : Nat) (B4 : Option Addr) (d4 : Nat) (B5 : Option Addr) (d5 : Nat) (B6 : Option Addr) (d6 : Nat) (B7 : Option Addr) (d7 : Nat) (s : Snp) (T : Nat → Prop) (u : World) (T' : Nat → Prop) (u' : World), i ≤ m ∧ s11 = .int .i64 i ∧ Hid (SnOk n i s) ∧ Hid (SnAt T u ⟨A1, c1, A2, c2, A3, c3, A4, c4, A5, c5, A6, c6, A7, c7⟩ s) ∧ Hid (SnAt T' u' ⟨B1, d1, B2, d2, B3, d3, B4, d4, B5, d5, B6, d6, B7, d7⟩ s) ∧ St w0 NoM [blk g1 [.slice A1 n c1, .slice A2 n c2, .slice A3 nn c3, .slice A4 n c4, .slice A5 n c5, .slice A6 nn c6, .slice A7 nn c7] 28, blk g2 [.slice B1 n d1, .slice B2 n d2, .slice B3 nn d3, .slice B4 n d4, .slice B5 n d5, .slice B6 nn d6, .slice B7 nn d7] 28, froz T u, froz T' u', froz N1 u1] wr) (fun s11 _ => m - (intOf s11).toNat)
  case atStart => exact ⟨0, A1, c1, A2, c2, A3, c3, A4, c4, A5, c5, A6, c6, A7, c7, B1, d1, B2, d2, B3, d3, B4, d4, B5, d5, B6, d6, B7, d7, s0, N2, u, N3, u2, by omega, rfl, HC0, HSN, HST, hS.re⟩
  case round =>
    clear hS HSN HST HC0
    obtain ⟨i, A1, c1, A2, c2, A3, c3, A4, c4, A5, c5, A6, c6, A7, c7, B1, d1, B2, d2, B3, d3, B4, d4, B5, d5, B6, d6, B7, d7, s, T, u, T', u', hi, rfl, HC, HSN, HST, hS⟩ := hrel
    by_cases hlt : i < m
    · have hlt' : (i : Int) < m := by omega
      obtain ⟨b1, o1, e1, hmv⟩ := mv_fcs HL.out.2 (i := i) (by rw [HL.out.1]; exact hlt)
      subst e1
      generalize l[i]'(by rw [HL.out.1]; exact hlt) = mv at *
      obtain ⟨kd, fr, tt, val⟩ := mv
      simp only at hmv
      by_cases hr : refS s ⟨kd, fr, tt, val⟩ = 0
      · have HR := Lib.hid hr
        have HC2 := Lib.hid (goS_ok HC.out HR.out)
        have HLN := Lib.hid (show SnLen n nn (goS s ⟨kd, fr, tt, val⟩) by have h := HC2.out.len (by omega); rw [HNN.out] at h; exact h)
        clear hr
        go_upto_region 9 with (first | (refine oL ?_; (first | refine sL1 hS rfl rfl rfl ?_ | refine sL2 hS rfl rfl rfl ?_ | refine sL3 hS rfl rfl ?_ | refine sL4 hS rfl rfl ?_ | refine sL5 hS rfl rfl ?_ | refine sL6 hS rfl rfl ?_ | refine sL7 hS rfl rfl ?_)) | (refine oS ?_; ((first | refine sS1 hS rfl rfl rfl ?_ | refine sS2 hS rfl rfl rfl ?_ | refine sS3 hS rfl rfl rfl ?_ | refine sS4 hS rfl rfl rfl ?_ | refine sS5 hS rfl rfl rfl ?_); clear hS; intro w hS)) | ((first | refine sN1 hS rfl ?_); clear hS; first | ((fail_if_success guard_hyp g1); intro g1 w hS) | ((fail_if_success guard_hyp g2); intro g2 w hS) | ((fail_if_success guard_hyp g3); intro g3 w hS) | ((fail_if_success guard_hyp g4); intro g4 w hS) | ((fail_if_success guard_hyp g5); intro g5 w hS) | fail) | fail)
        try simp only [Act.put, nA, nB, nC]
        go_cut [12, 13] (fun s12 s13 wx => ∃ (g3 : Nat) (D1 : Option Addr) (j1 : Nat) (D2 : Option Addr) (j2 : Nat) (D3 : Option Addr) (j3 : Nat) (D4 : Option Addr) (j4 : Nat) (D5 : Option Addr) (j5 : Nat) (D6 : Option Addr) (j6 : Nat) (D7 : Option Addr) (j7 : Nat) (T2 : Nat → Prop) (u2 : World), s12 = .pointer (some ⟨g3, 0, none⟩) ∧ s13 = .int .i64 0 ∧ Hid (SnAt T2 u2 ⟨D1, j1, D2, j2, D3, j3, D4, j4, D5, j5, D6, j6, D7, j7⟩ (goS s ⟨kd, fr, tt, val⟩)) ∧ St w0 NoM [blk g1 [.slice A1 n c1, .slice A2 n c2, .slice A3 nn c3, .slice A4 n c4, .slice A5 n c5, .slice A6 nn c6, .slice A7 nn c7] 28, blk g2 [.slice B1 n d1, .slice B2 n d2, .slice B3 nn d3, .slice B4 n d4, .slice B5 n d5, .slice B6 nn d6, .slice B7 nn d7] 28, blk g3 [.slice D1 n j1, .slice D2 n j2, .slice D3 nn j3, .slice D4 n j4, .slice D5 n j5, .slice D6 nn j6, .slice D7 nn j7] 28, froz T' u', froz T2 u2, froz N1 u1] wx)
        case first =>
          refine dr_start0 []  hS (by kernel_rfl) rfl ?_; clear hS; intro w hS
          first | refine dL1 hS 0 rfl rfl rfl rfl ?_ | refine dL2 hS 0 rfl rfl rfl rfl ?_ | refine dL3 hS 0 rfl rfl rfl ?_ | refine dL4 hS 0 rfl rfl rfl ?_ | refine dL5 hS 0 rfl rfl rfl ?_ | refine dL6 hS 0 rfl rfl rfl ?_ | refine dL7 hS 0 rfl rfl rfl ?_
          (try simp only [Act.put, nA, nB, nC])
          refine dM hS 1 rfl rfl rfl ?_
          (try simp only [Act.put, nA, nB, nC])
          refine dM hS 2 rfl rfl rfl ?_
          (try simp only [Act.put, nA, nB, nC])
          refine dP hS 3 rfl rfl ?_
          (try simp only [Act.put, nA, nB, nC])
          first | refine dL1 hS 4 rfl rfl rfl rfl ?_ | refine dL2 hS 4 rfl rfl rfl rfl ?_ | refine dL3 hS 4 rfl rfl rfl ?_ | refine dL4 hS 4 rfl rfl rfl ?_ | refine dL5 hS 4 rfl rfl rfl ?_ | refine dL6 hS 4 rfl rfl rfl ?_ | refine dL7 hS 4 rfl rfl rfl ?_
          (try simp only [Act.put, nA, nB, nC])
          refine dr_two 5 9 (by kernel_rfl) rfl rfl ?_ ?_
          (refine st_call rfl (by kernel_rfl) rfl ?_; go_at_call 15; refine (step_n (HSN.out.into hS.intoK) HC.out HNN.out (by omega) HR.out).mono ?_; rintro e w1 ⟨D1, j1, D2, j2, D3, j3, D4, j4, D5, j5, D6, j6, D7, j7, rfl, hsn, hx1⟩; obtain ⟨T1, hS1, hi1, hi0⟩ := hS.grow2 hx1; replace hS := hS1; clear hS1; have HS1 := Lib.hid (hsn.into hi1); clear hsn)
          (try simp only [Act.put, nA, nB, nC])
          refine dr_end hS ?_
          refine dM hS 6 rfl rfl rfl ?_
          (try simp only [Act.put, nA, nB, nC])
          refine dP hS 7 rfl rfl ?_
          (try simp only [Act.put, nA, nB, nC])
          refine dP hS 8 rfl rfl ?_
          (try simp only [Act.put, nA, nB, nC])
          refine dr_one 9 (by kernel_rfl) rfl ?_
          (refine sN1 hS rfl ?_; clear hS; first | ((fail_if_success guard_hyp g1); intro g1 w hS) | ((fail_if_success guard_hyp g2); intro g2 w hS) | ((fail_if_success guard_hyp g3); intro g3 w hS) | ((fail_if_success guard_hyp g4); intro g4 w hS) | ((fail_if_success guard_hyp g5); intro g5 w hS) | fail)
          (try simp only [Act.put, nA, nB, nC])
          refine dr_end hS ?_
          refine dr_one 10 (by kernel_rfl) rfl ?_
          ((first | refine sS1 hS rfl rfl rfl ?_ | refine sS2 hS rfl rfl rfl ?_ | refine sS3 hS rfl rfl rfl ?_ | refine sS4 hS rfl rfl rfl ?_ | refine sS5 hS rfl rfl rfl ?_); clear hS; intro w hS)
          (try simp only [Act.put, nA, nB, nC])
          refine dr_end hS ?_
          refine dA hS 11 rfl rfl rfl ?_
          (try simp only [Act.put, nA, nB, nC])
          refine dr_done (by kernel_rfl) ?_
          rotate_left
          (refine sN1 hS rfl ?_; clear hS; first | ((fail_if_success guard_hyp g1); intro g1 w hS) | ((fail_if_success guard_hyp g2); intro g2 w hS) | ((fail_if_success guard_hyp g3); intro g3 w hS) | ((fail_if_success guard_hyp g4); intro g4 w hS) | ((fail_if_success guard_hyp g5); intro g5 w hS) | fail)
          (try simp only [Act.put, nA, nB, nC])
          refine dr_end hS ?_
          refine dr_one 5 (by kernel_rfl) rfl ?_
          (refine st_call rfl (by kernel_rfl) rfl ?_; go_at_call 15; refine (step_n (HSN.out.into hS.intoK) HC.out HNN.out (by omega) HR.out).mono ?_; rintro e w1 ⟨D1, j1, D2, j2, D3, j3, D4, j4, D5, j5, D6, j6, D7, j7, rfl, hsn, hx1⟩; obtain ⟨T1, hS1, hi1, hi0⟩ := hS.grow2 hx1; replace hS := hS1; clear hS1; have HS1 := Lib.hid (hsn.into hi1); clear hsn)
          (try simp only [Act.put, nA, nB, nC])
          refine dr_end hS ?_
          refine dM hS 6 rfl rfl rfl ?_
          (try simp only [Act.put, nA, nB, nC])
          refine dP hS 7 rfl rfl ?_
          (try simp only [Act.put, nA, nB, nC])
          refine dP hS 8 rfl rfl ?_
          (try simp only [Act.put, nA, nB, nC])
          refine dr_one 10 (by kernel_rfl) rfl ?_
          ((first | refine sS1 hS rfl rfl rfl ?_ | refine sS2 hS rfl rfl rfl ?_ | refine sS3 hS rfl rfl rfl ?_ | refine sS4 hS rfl rfl rfl ?_ | refine sS5 hS rfl rfl rfl ?_); clear hS; intro w hS)
          (try simp only [Act.put, nA, nB, nC])
          refine dr_end hS ?_
          refine dA hS 11 rfl rfl rfl ?_
          (try simp only [Act.put, nA, nB, nC])
          refine dr_done (by kernel_rfl) ?_
          rotate_left
          all_goals
            replace hS := hS.re (ds := [blk g1 [.slice A1 n c1, .slice A2 n c2, .slice A3 nn c3, .slice A4 n c4, .slice A5 n c5, .slice A6 nn c6, .slice A7 nn c7] 28, blk g2 [.slice B1 n d1, .slice B2 n d2, .slice B3 nn d3, .slice B4 n d4, .slice B5 n d5, .slice B6 nn d6, .slice B7 nn d7] 28, blk g3 [.slice D1 n j1, .slice D2 n j2, .slice D3 nn j3, .slice D4 n j4, .slice D5 n j5, .slice D6 nn j6, .slice D7 nn j7] 28, froz T1 w1, froz T u, froz T' u', froz N1 u1])
            obtain ⟨T2, hS2, hi2, hi3⟩ := hS.merge T1 w1 hi0
            have HS2 := Lib.hid (HS1.out.into hi3)
            replace hS := hS2
            clear hS2 hi0 hi1 hi2 hi3 HS1 HSN
            generalize goS s _ = s2 at *
            go_wp2_with fail
            go_meet
            exact ⟨g3, D1, j1, D2, j2, D3, j3, D4, j4, D5, j5, D6, j6, D7, j7, T2, _, rfl, rfl, HS2, hS.re⟩
        case rest =>
        clear hS HSN
        obtain ⟨g3, D1, j1, D2, j2, D3, j3, D4, j4, D5, j5, D6, j6, D7, j7, T2, u2, rfl, rfl, HSN, hS⟩ := hcut
        go_upto_region 10 with (first | (refine oL ?_; (first | refine sL1 hS rfl rfl rfl ?_ | refine sL2 hS rfl rfl rfl ?_ | refine sL3 hS rfl rfl ?_ | refine sL4 hS rfl rfl ?_ | refine sL5 hS rfl rfl ?_ | refine sL6 hS rfl rfl ?_ | refine sL7 hS rfl rfl ?_)) | (refine oS ?_; ((first | refine sS1 hS rfl rfl rfl ?_ | refine sS2 hS rfl rfl rfl ?_ | refine sS3 hS rfl rfl rfl ?_ | refine sS4 hS rfl rfl rfl ?_ | refine sS5 hS rfl rfl rfl ?_); clear hS; intro w hS)) | ((first | refine sN1 hS rfl ?_); clear hS; first | ((fail_if_success guard_hyp g1); intro g1 w hS) | ((fail_if_success guard_hyp g2); intro g2 w hS) | ((fail_if_success guard_hyp g3); intro g3 w hS) | ((fail_if_success guard_hyp g4); intro g4 w hS) | ((fail_if_success guard_hyp g5); intro g5 w hS) | fail) | fail)
        try simp only [Act.put, nA, nB, nC]
        go_cut [14, 15] (fun s14 s15 wx => ∃ (g4 : Nat) (E1 : Option Addr) (p1 : Nat) (E2 : Option Addr) (p2 : Nat) (E3 : Option Addr) (p3 : Nat) (E4 : Option Addr) (p4 : Nat) (E5 : Option Addr) (p5 : Nat) (E6 : Option Addr) (p6 : Nat) (E7 : Option Addr) (p7 : Nat) (T4 : Nat → Prop) (u4 : World), s14 = .pointer (some ⟨g4, 0, none⟩) ∧ s15 = .int .i64 0 ∧ Hid (SnAt T4 u4 ⟨E1, p1, E2, p2, E3, p3, E4, p4, E5, p5, E6, p6, E7, p7⟩ (goS s ⟨kd, fr, tt, val⟩)) ∧ St w0 NoM [blk g1 [.slice A1 n c1, .slice A2 n c2, .slice A3 nn c3, .slice A4 n c4, .slice A5 n c5, .slice A6 nn c6, .slice A7 nn c7] 28, blk g2 [.slice B1 n d1, .slice B2 n d2, .slice B3 nn d3, .slice B4 n d4, .slice B5 n d5, .slice B6 nn d6, .slice B7 nn d7] 28, blk g3 [.slice D1 n j1, .slice D2 n j2, .slice D3 nn j3, .slice D4 n j4, .slice D5 n j5, .slice D6 nn j6, .slice D7 nn j7] 28, blk g4 [.slice E1 n p1, .slice E2 n p2, .slice E3 nn p3, .slice E4 n p4, .slice E5 n p5, .slice E6 nn p6, .slice E7 nn p7] 28, froz T2 u2, froz T4 u4, froz N1 u1] wx)
        case first =>
          refine dr_start0 []  hS (by kernel_rfl) rfl ?_; clear hS; intro w hS
          first | refine dL1 hS 0 rfl rfl rfl rfl ?_ | refine dL2 hS 0 rfl rfl rfl rfl ?_ | refine dL3 hS 0 rfl rfl rfl ?_ | refine dL4 hS 0 rfl rfl rfl ?_ | refine dL5 hS 0 rfl rfl rfl ?_ | refine dL6 hS 0 rfl rfl rfl ?_ | refine dL7 hS 0 rfl rfl rfl ?_
          (try simp only [Act.put, nA, nB, nC])
          refine dM hS 1 rfl rfl rfl ?_
          (try simp only [Act.put, nA, nB, nC])
          refine dM hS 2 rfl rfl rfl ?_
          (try simp only [Act.put, nA, nB, nC])
          refine dP hS 3 rfl rfl ?_
          (try simp only [Act.put, nA, nB, nC])
          first | refine dL1 hS 4 rfl rfl rfl rfl ?_ | refine dL2 hS 4 rfl rfl rfl rfl ?_ | refine dL3 hS 4 rfl rfl rfl ?_ | refine dL4 hS 4 rfl rfl rfl ?_ | refine dL5 hS 4 rfl rfl rfl ?_ | refine dL6 hS 4 rfl rfl rfl ?_ | refine dL7 hS 4 rfl rfl rfl ?_
          (try simp only [Act.put, nA, nB, nC])
          refine dr_two 5 9 (by kernel_rfl) rfl rfl ?_ ?_
          (refine st_call rfl (by kernel_rfl) rfl ?_; go_at_call 16; refine (rstep_n (HST.out.into hS.intoK) HC.out HNN.out (by omega) HR.out).mono ?_; rintro e w3 ⟨E1, p1, E2, p2, E3, p3, E4, p4, E5, p5, E6, p6, E7, p7, rfl, hsn, hx1⟩; obtain ⟨T3, hS1, hi1, hi0⟩ := hS.grow2 hx1; replace hS := hS1; clear hS1; have HS1 := Lib.hid (hsn.into hi1); clear hsn)
          (try simp only [Act.put, nA, nB, nC])
          refine dr_end hS ?_
          refine dM hS 6 rfl rfl rfl ?_
          (try simp only [Act.put, nA, nB, nC])
          refine dP hS 7 rfl rfl ?_
          (try simp only [Act.put, nA, nB, nC])
          refine dP hS 8 rfl rfl ?_
          (try simp only [Act.put, nA, nB, nC])
          refine dr_one 9 (by kernel_rfl) rfl ?_
          (refine sN1 hS rfl ?_; clear hS; first | ((fail_if_success guard_hyp g1); intro g1 w hS) | ((fail_if_success guard_hyp g2); intro g2 w hS) | ((fail_if_success guard_hyp g3); intro g3 w hS) | ((fail_if_success guard_hyp g4); intro g4 w hS) | ((fail_if_success guard_hyp g5); intro g5 w hS) | fail)
          (try simp only [Act.put, nA, nB, nC])
          refine dr_end hS ?_
          refine dr_one 10 (by kernel_rfl) rfl ?_
          ((first | refine sS1 hS rfl rfl rfl ?_ | refine sS2 hS rfl rfl rfl ?_ | refine sS3 hS rfl rfl rfl ?_ | refine sS4 hS rfl rfl rfl ?_ | refine sS5 hS rfl rfl rfl ?_); clear hS; intro w hS)
          (try simp only [Act.put, nA, nB, nC])
          refine dr_end hS ?_
          refine dA hS 11 rfl rfl rfl ?_
          (try simp only [Act.put, nA, nB, nC])
          refine dr_done (by kernel_rfl) ?_
          rotate_left
          (refine sN1 hS rfl ?_; clear hS; first | ((fail_if_success guard_hyp g1); intro g1 w hS) | ((fail_if_success guard_hyp g2); intro g2 w hS) | ((fail_if_success guard_hyp g3); intro g3 w hS) | ((fail_if_success guard_hyp g4); intro g4 w hS) | ((fail_if_success guard_hyp g5); intro g5 w hS) | fail)
          (try simp only [Act.put, nA, nB, nC])
          refine dr_end hS ?_
          refine dr_one 5 (by kernel_rfl) rfl ?_
          (refine st_call rfl (by kernel_rfl) rfl ?_; go_at_call 16; refine (rstep_n (HST.out.into hS.intoK) HC.out HNN.out (by omega) HR.out).mono ?_; rintro e w3 ⟨E1, p1, E2, p2, E3, p3, E4, p4, E5, p5, E6, p6, E7, p7, rfl, hsn, hx1⟩; obtain ⟨T3, hS1, hi1, hi0⟩ := hS.grow2 hx1; replace hS := hS1; clear hS1; have HS1 := Lib.hid (hsn.into hi1); clear hsn)
          (try simp only [Act.put, nA, nB, nC])
          refine dr_end hS ?_
          refine dM hS 6 rfl rfl rfl ?_
          (try simp only [Act.put, nA, nB, nC])
          refine dP hS 7 rfl rfl ?_
          (try simp only [Act.put, nA, nB, nC])
          refine dP hS 8 rfl rfl ?_
          (try simp only [Act.put, nA, nB, nC])
          refine dr_one 10 (by kernel_rfl) rfl ?_
          ((first | refine sS1 hS rfl rfl rfl ?_ | refine sS2 hS rfl rfl rfl ?_ | refine sS3 hS rfl rfl rfl ?_ | refine sS4 hS rfl rfl rfl ?_ | refine sS5 hS rfl rfl rfl ?_); clear hS; intro w hS)
          (try simp only [Act.put, nA, nB, nC])
          refine dr_end hS ?_
          refine dA hS 11 rfl rfl rfl ?_
          (try simp only [Act.put, nA, nB, nC])
          refine dr_done (by kernel_rfl) ?_
          rotate_left
          all_goals
            replace hS := hS.re (ds := [blk g1 [.slice A1 n c1, .slice A2 n c2, .slice A3 nn c3, .slice A4 n c4, .slice A5 n c5, .slice A6 nn c6, .slice A7 nn c7] 28, blk g2 [.slice B1 n d1, .slice B2 n d2, .slice B3 nn d3, .slice B4 n d4, .slice B5 n d5, .slice B6 nn d6, .slice B7 nn d7] 28, blk g3 [.slice D1 n j1, .slice D2 n j2, .slice D3 nn j3, .slice D4 n j4, .slice D5 n j5, .slice D6 nn j6, .slice D7 nn j7] 28, blk g4 [.slice E1 n p1, .slice E2 n p2, .slice E3 nn p3, .slice E4 n p4, .slice E5 n p5, .slice E6 nn p6, .slice E7 nn p7] 28, froz T3 w3, froz T' u', froz T2 u2, froz N1 u1])
            obtain ⟨T4, hS2, hi2, hi3⟩ := hS.merge T3 w3 hi0
            have HS2 := Lib.hid (HS1.out.into hi3)
            replace hS := hS2
            clear hS2 hi0 hi1 hi2 hi3 HS1 HST HSN
            generalize goS s _ = s2 at *
            go_wp2_with fail
            go_meet
            exact ⟨g4, E1, p1, E2, p2, E3, p3, E4, p4, E5, p5, E6, p6, E7, p7, T4, _, rfl, rfl, HS2, hS.re⟩
        case rest =>
        clear hS HST
        obtain ⟨g4, E1, p1, E2, p2, E3, p3, E4, p4, E5, p5, E6, p6, E7, p7, T4, u4, rfl, rfl, HST, hS⟩ := hcut
        clear HR
        generalize goS s _ = s2 at *
        go_upto_region 11 with (first | (refine oL ?_; (first | refine sL1 hS rfl rfl rfl ?_ | refine sL2 hS rfl rfl rfl ?_ | refine sL3 hS rfl rfl ?_ | refine sL4 hS rfl rfl ?_ | refine sL5 hS rfl rfl ?_ | refine sL6 hS rfl rfl ?_ | refine sL7 hS rfl rfl ?_)) | (refine oS ?_; ((first | refine sS1 hS rfl rfl rfl ?_ | refine sS2 hS rfl rfl rfl ?_ | refine sS3 hS rfl rfl rfl ?_ | refine sS4 hS rfl rfl rfl ?_ | refine sS5 hS rfl rfl rfl ?_); clear hS; intro w hS)) | ((first | refine sN1 hS rfl ?_); clear hS; first | ((fail_if_success guard_hyp g1); intro g1 w hS) | ((fail_if_success guard_hyp g2); intro g2 w hS) | ((fail_if_success guard_hyp g3); intro g3 w hS) | ((fail_if_success guard_hyp g4); intro g4 w hS) | ((fail_if_success guard_hyp g5); intro g5 w hS) | fail) | fail)
        refine lR ?_
        refine lM rfl rfl ?_
        (try simp only [Act.put, nA, nB, nC])
        refine lM rfl rfl ?_
        (try simp only [Act.put, nA, nB, nC])
        refine lP rfl ?_
        (try simp only [Act.put, nA, nB, nC])
        refine lM rfl rfl ?_
        (try simp only [Act.put, nA, nB, nC])
        first | refine lQ rfl ?_ | (refine ⟨?_⟩; ((first | refine sL1 hS rfl rfl rfl ?_ | refine sL2 hS rfl rfl rfl ?_ | refine sL3 hS rfl rfl ?_ | refine sL4 hS rfl rfl ?_ | refine sL5 hS rfl rfl ?_ | refine sL6 hS rfl rfl ?_ | refine sL7 hS rfl rfl ?_)); refine WL.h ?_) | fail
        (try simp only [Act.put, nA, nB, nC])
        first | refine lQ rfl ?_ | (refine ⟨?_⟩; ((first | refine sL1 hS rfl rfl rfl ?_ | refine sL2 hS rfl rfl rfl ?_ | refine sL3 hS rfl rfl ?_ | refine sL4 hS rfl rfl ?_ | refine sL5 hS rfl rfl ?_ | refine sL6 hS rfl rfl ?_ | refine sL7 hS rfl rfl ?_)); refine WL.h ?_) | fail
        (try simp only [Act.put, nA, nB, nC])
        first | refine lQ rfl ?_ | (refine ⟨?_⟩; (refine st_call rfl (by kernel_rfl) rfl ?_; go_at_call 13; refine (same_n (HSN.out.into (hS.intoK (T := T2) (u := u2))) (HST.out.into (hS.intoK (T := T4) (u := u4))) HLN.out (by omega) (by omega)).mono ?_; rintro e w ⟨rfl, hx1⟩; replace hS := hS.ext hx1); refine WL.h ?_) | fail
        (try simp only [Act.put, nA, nB, nC])
        first | refine lQ rfl ?_ | refine lP rfl ?_ | fail
        (try simp only [Act.put, nA, nB, nC])
        refine lP rfl ?_
        (try simp only [Act.put, nA, nB, nC])
        refine lZ ?_
        go_wp2_with (first | (refine oL ?_; (first | refine sL1 hS rfl rfl rfl ?_ | refine sL2 hS rfl rfl rfl ?_ | refine sL3 hS rfl rfl ?_ | refine sL4 hS rfl rfl ?_ | refine sL5 hS rfl rfl ?_ | refine sL6 hS rfl rfl ?_ | refine sL7 hS rfl rfl ?_)) | (refine oS ?_; ((first | refine sS1 hS rfl rfl rfl ?_ | refine sS2 hS rfl rfl rfl ?_ | refine sS3 hS rfl rfl rfl ?_ | refine sS4 hS rfl rfl rfl ?_ | refine sS5 hS rfl rfl rfl ?_); clear hS; intro w hS)) | ((first | refine sN1 hS rfl ?_); clear hS; first | ((fail_if_success guard_hyp g1); intro g1 w hS) | ((fail_if_success guard_hyp g2); intro g2 w hS) | ((fail_if_success guard_hyp g3); intro g3 w hS) | ((fail_if_success guard_hyp g4); intro g4 w hS) | ((fail_if_success guard_hyp g5); intro g5 w hS) | fail) | fail)
        refine dr_start2 [3] 0 0 hS (by kernel_rfl) rfl ?_; clear hS; intro w hS
        first | refine dL1 hS 0 rfl rfl rfl rfl ?_ | refine dL2 hS 0 rfl rfl rfl rfl ?_ | refine dL3 hS 0 rfl rfl rfl ?_ | refine dL4 hS 0 rfl rfl rfl ?_ | refine dL5 hS 0 rfl rfl rfl ?_ | refine dL6 hS 0 rfl rfl rfl ?_ | refine dL7 hS 0 rfl rfl rfl ?_
        (try simp only [Act.put, nA, nB, nC])
        first | refine dL1 hS 1 rfl rfl rfl rfl ?_ | refine dL2 hS 1 rfl rfl rfl rfl ?_ | refine dL3 hS 1 rfl rfl rfl ?_ | refine dL4 hS 1 rfl rfl rfl ?_ | refine dL5 hS 1 rfl rfl rfl ?_ | refine dL6 hS 1 rfl rfl rfl ?_ | refine dL7 hS 1 rfl rfl rfl ?_
        (try simp only [Act.put, nA, nB, nC])
        refine dr_one 2 (by kernel_rfl) rfl ?_
        ((first | refine sS1 hS rfl rfl rfl ?_ | refine sS2 hS rfl rfl rfl ?_ | refine sS3 hS rfl rfl rfl ?_ | refine sS4 hS rfl rfl rfl ?_ | refine sS5 hS rfl rfl rfl ?_); clear hS; intro w hS)
        (try simp only [Act.put, nA, nB, nC])
        refine dr_end hS ?_
        refine dr_one 3 (by kernel_rfl) rfl ?_
        ((first | refine sS1 hS rfl rfl rfl ?_ | refine sS2 hS rfl rfl rfl ?_ | refine sS3 hS rfl rfl rfl ?_ | refine sS4 hS rfl rfl rfl ?_ | refine sS5 hS rfl rfl rfl ?_); clear hS; intro w hS)
        (try simp only [Act.put, nA, nB, nC])
        refine dr_late (by kernel_rfl) ?_
        refine dr_done (by kernel_rfl) ?_
        all_goals
          replace hS := hS.re (ds := [blk g1 [.slice D1 n j1, .slice D2 n j2, .slice D3 nn j3, .slice D4 n j4, .slice D5 n j5, .slice D6 nn j6, .slice D7 nn j7] 28, blk g2 [.slice E1 n p1, .slice E2 n p2, .slice E3 nn p3, .slice E4 n p4, .slice E5 n p5, .slice E6 nn p6, .slice E7 nn p7] 28, froz T2 u2, froz T4 u4, froz N1 u1])
          generalize htp : totP s2 = tp at *
          generalize htr : totR s2 = tr at *
          generalize hcb : compS s2 = cb at *
          have HTP := Lib.hid htp
          have HTR := Lib.hid htr
          have HCB := Lib.hid hcb
          clear htp htr hcb
          have e0 : (tp != tp) = false := by simp
          have e1 : (tr != tr) = false := by simp
          have e2 : (cb != cb) = false := by simp
          go_wp2_with (first | (go_at_call 17; refine (totals_n (HSN.out.into (hS.intoK (T := T2) (u := u2))) HLN.out (by omega) (by omega)).mono ?_; rw [HTP.out, HTR.out]; rintro e w ⟨rfl, hx1⟩; replace hS := hS.ext hx1) | (go_at_call 18; refine (rtotals_n (HST.out.into (hS.intoK (T := T4) (u := u4))) HLN.out (by omega) (by omega)).mono ?_; rw [HTP.out, HTR.out]; rintro e w ⟨rfl, hx1⟩; replace hS := hS.ext hx1) | (refine oL ?_; (first | refine sL1 hS rfl rfl rfl ?_ | refine sL2 hS rfl rfl rfl ?_ | refine sL3 hS rfl rfl ?_ | refine sL4 hS rfl rfl ?_ | refine sL5 hS rfl rfl ?_ | refine sL6 hS rfl rfl ?_ | refine sL7 hS rfl rfl ?_)) | (refine oS ?_; ((first | refine sS1 hS rfl rfl rfl ?_ | refine sS2 hS rfl rfl rfl ?_ | refine sS3 hS rfl rfl rfl ?_ | refine sS4 hS rfl rfl rfl ?_ | refine sS5 hS rfl rfl rfl ?_); clear hS; intro w hS)) | ((first | refine sN1 hS rfl ?_); clear hS; first | ((fail_if_success guard_hyp g1); intro g1 w hS) | ((fail_if_success guard_hyp g2); intro g2 w hS) | ((fail_if_success guard_hyp g3); intro g3 w hS) | ((fail_if_success guard_hyp g4); intro g4 w hS) | ((fail_if_success guard_hyp g5); intro g5 w hS) | fail) | fail)
          refine dr_start0 []  hS (by kernel_rfl) rfl ?_; clear hS; intro w hS
          refine dM hS 0 rfl rfl rfl ?_
          (try simp only [Act.put, nA, nB, nC])
          refine dM hS 1 rfl rfl rfl ?_
          (try simp only [Act.put, nA, nB, nC])
          refine dP hS 2 rfl rfl ?_
          (try simp only [Act.put, nA, nB, nC])
          refine dM hS 3 rfl rfl rfl ?_
          (try simp only [Act.put, nA, nB, nC])
          first | refine dM hS 4 rfl rfl rfl ?_ | refine dQ hS 4 rfl rfl ?_
          (try simp only [Act.put, nA, nB, nC])
          first | refine dM hS 5 rfl rfl rfl ?_ | refine dQ hS 5 rfl rfl ?_
          (try simp only [Act.put, nA, nB, nC])
          first | refine dP hS 6 rfl rfl ?_ | refine dQ hS 6 rfl rfl ?_
          (try simp only [Act.put, nA, nB, nC])
          refine dP hS 7 rfl rfl ?_
          (try simp only [Act.put, nA, nB, nC])
          refine dM hS 8 rfl rfl rfl ?_
          (try simp only [Act.put, nA, nB, nC])
          first | refine dL1 hS 9 rfl rfl rfl rfl ?_ | refine dL2 hS 9 rfl rfl rfl rfl ?_ | refine dL3 hS 9 rfl rfl rfl ?_ | refine dL4 hS 9 rfl rfl rfl ?_ | refine dL5 hS 9 rfl rfl rfl ?_ | refine dL6 hS 9 rfl rfl rfl ?_ | refine dL7 hS 9 rfl rfl rfl ?_ | refine dQ hS 9 rfl rfl ?_
          (try simp only [Act.put, nA, nB, nC])
          first | refine dL1 hS 11 rfl rfl rfl rfl ?_ | refine dL2 hS 11 rfl rfl rfl rfl ?_ | refine dL3 hS 11 rfl rfl rfl ?_ | refine dL4 hS 11 rfl rfl rfl ?_ | refine dL5 hS 11 rfl rfl rfl ?_ | refine dL6 hS 11 rfl rfl rfl ?_ | refine dL7 hS 11 rfl rfl rfl ?_ | refine dQ hS 11 rfl rfl ?_
          (try simp only [Act.put, nA, nB, nC])
          refine dr_one 10 (by kernel_rfl) rfl ?_
          (refine st_call rfl (by kernel_rfl) rfl ?_; go_at_call 19; refine (complete_n (HSN.out.into (hS.intoK (T := T2) (u := u2))) HLN.out (by omega) (by omega)).mono ?_; rw [HCB.out]; rintro e w ⟨rfl, hx1⟩; replace hS := hS.ext hx1)
          (try simp only [Act.put, nA, nB, nC])
          refine dr_end hS ?_
          refine dr_one 12 (by kernel_rfl) rfl ?_
          (refine st_call rfl (by kernel_rfl) rfl ?_; go_at_call 20; refine (rcomplete_n (HST.out.into (hS.intoK (T := T4) (u := u4))) HLN.out HC2.out (by omega) (by omega)).mono ?_; rw [HCB.out]; rintro e w ⟨rfl, hx1⟩; replace hS := hS.ext hx1)
          (try simp only [Act.put, nA, nB, nC])
          refine dr_end hS ?_
          first | refine dP hS 13 rfl rfl ?_ | refine dQ hS 13 rfl rfl ?_
          (try simp only [Act.put, nA, nB, nC])
          refine dP hS 14 rfl rfl ?_
          (try simp only [Act.put, nA, nB, nC])
          refine dr_done (by kernel_rfl) ?_
          all_goals
            go_wp2_with (first | (refine oL ?_; (first | refine sL1 hS rfl rfl rfl ?_ | refine sL2 hS rfl rfl rfl ?_ | refine sL3 hS rfl rfl ?_ | refine sL4 hS rfl rfl ?_ | refine sL5 hS rfl rfl ?_ | refine sL6 hS rfl rfl ?_ | refine sL7 hS rfl rfl ?_)) | (refine oS ?_; ((first | refine sS1 hS rfl rfl rfl ?_ | refine sS2 hS rfl rfl rfl ?_ | refine sS3 hS rfl rfl rfl ?_ | refine sS4 hS rfl rfl rfl ?_ | refine sS5 hS rfl rfl rfl ?_); clear hS; intro w hS)) | ((first | refine sN1 hS rfl ?_); clear hS; first | ((fail_if_success guard_hyp g1); intro g1 w hS) | ((fail_if_success guard_hyp g2); intro g2 w hS) | ((fail_if_success guard_hyp g3); intro g3 w hS) | ((fail_if_success guard_hyp g4); intro g4 w hS) | ((fail_if_success guard_hyp g5); intro g5 w hS) | fail) | fail)
            go_roundw
            case measure => simp [intOf]; omega
            exact ⟨i + 1, D1, j1, D2, j2, D3, j3, D4, j4, D5, j5, D6, j6, D7, j7, E1, p1, E2, p2, E3, p3, E4, p4, E5, p5, E6, p6, E7, p7, s2, T2, u2, T4, u4, by omega, by go_num, HC2, HSN, HST, hS.re⟩
      · have HR0 := Lib.hid hr
        have HC2 := Lib.hid (HC.out.mono (Nat.le_succ i))
        have HR1 := Lib.hid (show (refS s ⟨kd, fr, tt, val⟩ != 0) = true by simpa using hr)
        clear hr
        go_wp2_with (first | (refine oL ?_; (first | refine sL1 hS rfl rfl rfl ?_ | refine sL2 hS rfl rfl rfl ?_ | refine sL3 hS rfl rfl ?_ | refine sL4 hS rfl rfl ?_ | refine sL5 hS rfl rfl ?_ | refine sL6 hS rfl rfl ?_ | refine sL7 hS rfl rfl ?_)) | (refine oS ?_; ((first | refine sS1 hS rfl rfl rfl ?_ | refine sS2 hS rfl rfl rfl ?_ | refine sS3 hS rfl rfl rfl ?_ | refine sS4 hS rfl rfl rfl ?_ | refine sS5 hS rfl rfl rfl ?_); clear hS; intro w hS)) | ((first | refine sN1 hS rfl ?_); clear hS; first | ((fail_if_success guard_hyp g1); intro g1 w hS) | ((fail_if_success guard_hyp g2); intro g2 w hS) | ((fail_if_success guard_hyp g3); intro g3 w hS) | ((fail_if_success guard_hyp g4); intro g4 w hS) | ((fail_if_success guard_hyp g5); intro g5 w hS) | fail) | fail)
        refine dr_start0 []  hS (by kernel_rfl) rfl ?_; clear hS; intro w hS
        first | refine dL1 hS 0 rfl rfl rfl rfl ?_ | refine dL2 hS 0 rfl rfl rfl rfl ?_ | refine dL3 hS 0 rfl rfl rfl ?_ | refine dL4 hS 0 rfl rfl rfl ?_ | refine dL5 hS 0 rfl rfl rfl ?_ | refine dL6 hS 0 rfl rfl rfl ?_ | refine dL7 hS 0 rfl rfl rfl ?_
        (try simp only [Act.put, nA, nB, nC])
        refine dM hS 1 rfl rfl rfl ?_
        (try simp only [Act.put, nA, nB, nC])
        refine dM hS 2 rfl rfl rfl ?_
        (try simp only [Act.put, nA, nB, nC])
        refine dP hS 3 rfl rfl ?_
        (try simp only [Act.put, nA, nB, nC])
        first | refine dL1 hS 4 rfl rfl rfl rfl ?_ | refine dL2 hS 4 rfl rfl rfl rfl ?_ | refine dL3 hS 4 rfl rfl rfl ?_ | refine dL4 hS 4 rfl rfl rfl ?_ | refine dL5 hS 4 rfl rfl rfl ?_ | refine dL6 hS 4 rfl rfl rfl ?_ | refine dL7 hS 4 rfl rfl rfl ?_
        (try simp only [Act.put, nA, nB, nC])
        refine dr_two 5 9 (by kernel_rfl) rfl rfl ?_ ?_
        (refine st_call rfl (by kernel_rfl) rfl ?_; go_at_call 15; refine (step_r (HSN.out.into hS.intoK) HC.out HNN.out (by omega) HR0.out).mono ?_; rintro e w1 ⟨D1, j1, D2, j2, D3, j3, D4, j4, D5, j5, D6, j6, D7, j7, rfl, hx1⟩; replace hS := hS.ext hx1)
        (try simp only [Act.put, nA, nB, nC])
        refine dr_end hS ?_
        refine dM hS 6 rfl rfl rfl ?_
        (try simp only [Act.put, nA, nB, nC])
        refine dP hS 7 rfl rfl ?_
        (try simp only [Act.put, nA, nB, nC])
        refine dP hS 8 rfl rfl ?_
        (try simp only [Act.put, nA, nB, nC])
        refine dr_one 9 (by kernel_rfl) rfl ?_
        (refine sN1 hS rfl ?_; clear hS; first | ((fail_if_success guard_hyp g1); intro g1 w hS) | ((fail_if_success guard_hyp g2); intro g2 w hS) | ((fail_if_success guard_hyp g3); intro g3 w hS) | ((fail_if_success guard_hyp g4); intro g4 w hS) | ((fail_if_success guard_hyp g5); intro g5 w hS) | fail)
        (try simp only [Act.put, nA, nB, nC])
        refine dr_end hS ?_
        refine dr_one 10 (by kernel_rfl) rfl ?_
        ((first | refine sS1 hS rfl rfl rfl ?_ | refine sS2 hS rfl rfl rfl ?_ | refine sS3 hS rfl rfl rfl ?_ | refine sS4 hS rfl rfl rfl ?_ | refine sS5 hS rfl rfl rfl ?_); clear hS; intro w hS)
        (try simp only [Act.put, nA, nB, nC])
        refine dr_end hS ?_
        refine dA hS 11 rfl rfl rfl ?_
        (try simp only [Act.put, nA, nB, nC])
        refine dr_done (by kernel_rfl) ?_
        rotate_left
        (refine sN1 hS rfl ?_; clear hS; first | ((fail_if_success guard_hyp g1); intro g1 w hS) | ((fail_if_success guard_hyp g2); intro g2 w hS) | ((fail_if_success guard_hyp g3); intro g3 w hS) | ((fail_if_success guard_hyp g4); intro g4 w hS) | ((fail_if_success guard_hyp g5); intro g5 w hS) | fail)
        (try simp only [Act.put, nA, nB, nC])
        refine dr_end hS ?_
        refine dr_one 5 (by kernel_rfl) rfl ?_
        (refine st_call rfl (by kernel_rfl) rfl ?_; go_at_call 15; refine (step_r (HSN.out.into hS.intoK) HC.out HNN.out (by omega) HR0.out).mono ?_; rintro e w1 ⟨D1, j1, D2, j2, D3, j3, D4, j4, D5, j5, D6, j6, D7, j7, rfl, hx1⟩; replace hS := hS.ext hx1)
        (try simp only [Act.put, nA, nB, nC])
        refine dr_end hS ?_
        refine dM hS 6 rfl rfl rfl ?_
        (try simp only [Act.put, nA, nB, nC])
        refine dP hS 7 rfl rfl ?_
        (try simp only [Act.put, nA, nB, nC])
        refine dP hS 8 rfl rfl ?_
        (try simp only [Act.put, nA, nB, nC])
        refine dr_one 10 (by kernel_rfl) rfl ?_
        ((first | refine sS1 hS rfl rfl rfl ?_ | refine sS2 hS rfl rfl rfl ?_ | refine sS3 hS rfl rfl rfl ?_ | refine sS4 hS rfl rfl rfl ?_ | refine sS5 hS rfl rfl rfl ?_); clear hS; intro w hS)
        (try simp only [Act.put, nA, nB, nC])
        refine dr_end hS ?_
        refine dA hS 11 rfl rfl rfl ?_
        (try simp only [Act.put, nA, nB, nC])
        refine dr_done (by kernel_rfl) ?_
        rotate_left
        all_goals
          go_wp2_with (first | (refine oL ?_; (first | refine sL1 hS rfl rfl rfl ?_ | refine sL2 hS rfl rfl rfl ?_ | refine sL3 hS rfl rfl ?_ | refine sL4 hS rfl rfl ?_ | refine sL5 hS rfl rfl ?_ | refine sL6 hS rfl rfl ?_ | refine sL7 hS rfl rfl ?_)) | (refine oS ?_; ((first | refine sS1 hS rfl rfl rfl ?_ | refine sS2 hS rfl rfl rfl ?_ | refine sS3 hS rfl rfl rfl ?_ | refine sS4 hS rfl rfl rfl ?_ | refine sS5 hS rfl rfl rfl ?_); clear hS; intro w hS)) | ((first | refine sN1 hS rfl ?_); clear hS; first | ((fail_if_success guard_hyp g1); intro g1 w hS) | ((fail_if_success guard_hyp g2); intro g2 w hS) | ((fail_if_success guard_hyp g3); intro g3 w hS) | ((fail_if_success guard_hyp g4); intro g4 w hS) | ((fail_if_success guard_hyp g5); intro g5 w hS) | fail) | fail)
          refine dr_start0 []  hS (by kernel_rfl) rfl ?_; clear hS; intro w hS
          first | refine dL1 hS 0 rfl rfl rfl rfl ?_ | refine dL2 hS 0 rfl rfl rfl rfl ?_ | refine dL3 hS 0 rfl rfl rfl ?_ | refine dL4 hS 0 rfl rfl rfl ?_ | refine dL5 hS 0 rfl rfl rfl ?_ | refine dL6 hS 0 rfl rfl rfl ?_ | refine dL7 hS 0 rfl rfl rfl ?_
          (try simp only [Act.put, nA, nB, nC])
          refine dM hS 1 rfl rfl rfl ?_
          (try simp only [Act.put, nA, nB, nC])
          refine dM hS 2 rfl rfl rfl ?_
          (try simp only [Act.put, nA, nB, nC])
          refine dP hS 3 rfl rfl ?_
          (try simp only [Act.put, nA, nB, nC])
          first | refine dL1 hS 4 rfl rfl rfl rfl ?_ | refine dL2 hS 4 rfl rfl rfl rfl ?_ | refine dL3 hS 4 rfl rfl rfl ?_ | refine dL4 hS 4 rfl rfl rfl ?_ | refine dL5 hS 4 rfl rfl rfl ?_ | refine dL6 hS 4 rfl rfl rfl ?_ | refine dL7 hS 4 rfl rfl rfl ?_
          (try simp only [Act.put, nA, nB, nC])
          refine dr_two 5 9 (by kernel_rfl) rfl rfl ?_ ?_
          (refine st_call rfl (by kernel_rfl) rfl ?_; go_at_call 16; refine (rstep_r (HST.out.into hS.intoK) HC.out HNN.out (by omega) HR0.out).mono ?_; rintro e w1 ⟨E1, p1, E2, p2, E3, p3, E4, p4, E5, p5, E6, p6, E7, p7, rfl, hx1⟩; replace hS := hS.ext hx1)
          (try simp only [Act.put, nA, nB, nC])
          refine dr_end hS ?_
          refine dM hS 6 rfl rfl rfl ?_
          (try simp only [Act.put, nA, nB, nC])
          refine dP hS 7 rfl rfl ?_
          (try simp only [Act.put, nA, nB, nC])
          refine dP hS 8 rfl rfl ?_
          (try simp only [Act.put, nA, nB, nC])
          refine dr_one 9 (by kernel_rfl) rfl ?_
          (refine sN1 hS rfl ?_; clear hS; first | ((fail_if_success guard_hyp g1); intro g1 w hS) | ((fail_if_success guard_hyp g2); intro g2 w hS) | ((fail_if_success guard_hyp g3); intro g3 w hS) | ((fail_if_success guard_hyp g4); intro g4 w hS) | ((fail_if_success guard_hyp g5); intro g5 w hS) | fail)
          (try simp only [Act.put, nA, nB, nC])
          refine dr_end hS ?_
          refine dr_one 10 (by kernel_rfl) rfl ?_
          ((first | refine sS1 hS rfl rfl rfl ?_ | refine sS2 hS rfl rfl rfl ?_ | refine sS3 hS rfl rfl rfl ?_ | refine sS4 hS rfl rfl rfl ?_ | refine sS5 hS rfl rfl rfl ?_); clear hS; intro w hS)
          (try simp only [Act.put, nA, nB, nC])
          refine dr_end hS ?_
          refine dA hS 11 rfl rfl rfl ?_
          (try simp only [Act.put, nA, nB, nC])
          refine dr_done (by kernel_rfl) ?_
          rotate_left
          (refine sN1 hS rfl ?_; clear hS; first | ((fail_if_success guard_hyp g1); intro g1 w hS) | ((fail_if_success guard_hyp g2); intro g2 w hS) | ((fail_if_success guard_hyp g3); intro g3 w hS) | ((fail_if_success guard_hyp g4); intro g4 w hS) | ((fail_if_success guard_hyp g5); intro g5 w hS) | fail)
          (try simp only [Act.put, nA, nB, nC])
          refine dr_end hS ?_
          refine dr_one 5 (by kernel_rfl) rfl ?_
          (refine st_call rfl (by kernel_rfl) rfl ?_; go_at_call 16; refine (rstep_r (HST.out.into hS.intoK) HC.out HNN.out (by omega) HR0.out).mono ?_; rintro e w1 ⟨E1, p1, E2, p2, E3, p3, E4, p4, E5, p5, E6, p6, E7, p7, rfl, hx1⟩; replace hS := hS.ext hx1)
          (try simp only [Act.put, nA, nB, nC])
          refine dr_end hS ?_
          refine dM hS 6 rfl rfl rfl ?_
          (try simp only [Act.put, nA, nB, nC])
          refine dP hS 7 rfl rfl ?_
          (try simp only [Act.put, nA, nB, nC])
          refine dP hS 8 rfl rfl ?_
          (try simp only [Act.put, nA, nB, nC])
          refine dr_one 10 (by kernel_rfl) rfl ?_
          ((first | refine sS1 hS rfl rfl rfl ?_ | refine sS2 hS rfl rfl rfl ?_ | refine sS3 hS rfl rfl rfl ?_ | refine sS4 hS rfl rfl rfl ?_ | refine sS5 hS rfl rfl rfl ?_); clear hS; intro w hS)
          (try simp only [Act.put, nA, nB, nC])
          refine dr_end hS ?_
          refine dA hS 11 rfl rfl rfl ?_
          (try simp only [Act.put, nA, nB, nC])
          refine dr_done (by kernel_rfl) ?_
          rotate_left
          all_goals
            have er1 := HR1.out
            clear HR0 HR1
            generalize refS s _ = er at *
            have e0 : (er != er) = false := by simp
            go_upto_region 11 with (first | (refine oL ?_; (first | refine sL1 hS rfl rfl rfl ?_ | refine sL2 hS rfl rfl rfl ?_ | refine sL3 hS rfl rfl ?_ | refine sL4 hS rfl rfl ?_ | refine sL5 hS rfl rfl ?_ | refine sL6 hS rfl rfl ?_ | refine sL7 hS rfl rfl ?_)) | (refine oS ?_; ((first | refine sS1 hS rfl rfl rfl ?_ | refine sS2 hS rfl rfl rfl ?_ | refine sS3 hS rfl rfl rfl ?_ | refine sS4 hS rfl rfl rfl ?_ | refine sS5 hS rfl rfl rfl ?_); clear hS; intro w hS)) | ((first | refine sN1 hS rfl ?_); clear hS; first | ((fail_if_success guard_hyp g1); intro g1 w hS) | ((fail_if_success guard_hyp g2); intro g2 w hS) | ((fail_if_success guard_hyp g3); intro g3 w hS) | ((fail_if_success guard_hyp g4); intro g4 w hS) | ((fail_if_success guard_hyp g5); intro g5 w hS) | fail) | fail)
            refine lR ?_
            refine lM rfl rfl ?_
            (try simp only [Act.put, nA, nB, nC])
            refine lM rfl rfl ?_
            (try simp only [Act.put, nA, nB, nC])
            refine lP rfl ?_
            (try simp only [Act.put, nA, nB, nC])
            refine lM rfl rfl ?_
            (try simp only [Act.put, nA, nB, nC])
            first | refine lQ rfl ?_ | (refine ⟨?_⟩; ((first | refine sL1 hS rfl rfl rfl ?_ | refine sL2 hS rfl rfl rfl ?_ | refine sL3 hS rfl rfl ?_ | refine sL4 hS rfl rfl ?_ | refine sL5 hS rfl rfl ?_ | refine sL6 hS rfl rfl ?_ | refine sL7 hS rfl rfl ?_)); refine WL.h ?_) | fail
            (try simp only [Act.put, nA, nB, nC])
            first | refine lQ rfl ?_ | (refine ⟨?_⟩; ((first | refine sL1 hS rfl rfl rfl ?_ | refine sL2 hS rfl rfl rfl ?_ | refine sL3 hS rfl rfl ?_ | refine sL4 hS rfl rfl ?_ | refine sL5 hS rfl rfl ?_ | refine sL6 hS rfl rfl ?_ | refine sL7 hS rfl rfl ?_)); refine WL.h ?_) | fail
            (try simp only [Act.put, nA, nB, nC])
            first | refine lQ rfl ?_ | (refine ⟨?_⟩; (refine st_call rfl (by kernel_rfl) rfl ?_; go_at_call 13; refine (same_0).mono ?_; rintro e w ⟨rfl, hx1⟩; replace hS := hS.ext hx1); refine WL.h ?_) | fail
            (try simp only [Act.put, nA, nB, nC])
            first | refine lQ rfl ?_ | refine lP rfl ?_ | fail
            (try simp only [Act.put, nA, nB, nC])
            refine lP rfl ?_
            (try simp only [Act.put, nA, nB, nC])
            refine lZ ?_
            go_wp2_with (first | (refine oL ?_; (first | refine sL1 hS rfl rfl rfl ?_ | refine sL2 hS rfl rfl rfl ?_ | refine sL3 hS rfl rfl ?_ | refine sL4 hS rfl rfl ?_ | refine sL5 hS rfl rfl ?_ | refine sL6 hS rfl rfl ?_ | refine sL7 hS rfl rfl ?_)) | (refine oS ?_; ((first | refine sS1 hS rfl rfl rfl ?_ | refine sS2 hS rfl rfl rfl ?_ | refine sS3 hS rfl rfl rfl ?_ | refine sS4 hS rfl rfl rfl ?_ | refine sS5 hS rfl rfl rfl ?_); clear hS; intro w hS)) | ((first | refine sN1 hS rfl ?_); clear hS; first | ((fail_if_success guard_hyp g1); intro g1 w hS) | ((fail_if_success guard_hyp g2); intro g2 w hS) | ((fail_if_success guard_hyp g3); intro g3 w hS) | ((fail_if_success guard_hyp g4); intro g4 w hS) | ((fail_if_success guard_hyp g5); intro g5 w hS) | fail) | fail)
            go_roundw
            case measure => simp [intOf]; omega
            exact ⟨i + 1, A1, c1, A2, c2, A3, c3, A4, c4, A5, c5, A6, c6, A7, c7, B1, d1, B2, d2, B3, d3, B4, d4, B5, d5, B6, d6, B7, d7, s, T, u, T', u', by omega, by go_num, HC2, HSN, HST, hS.re⟩
    · go_wp2_with (first | (refine oL ?_; (first | refine sL1 hS rfl rfl rfl ?_ | refine sL2 hS rfl rfl rfl ?_ | refine sL3 hS rfl rfl ?_ | refine sL4 hS rfl rfl ?_ | refine sL5 hS rfl rfl ?_ | refine sL6 hS rfl rfl ?_ | refine sL7 hS rfl rfl ?_)) | (refine oS ?_; ((first | refine sS1 hS rfl rfl rfl ?_ | refine sS2 hS rfl rfl rfl ?_ | refine sS3 hS rfl rfl rfl ?_ | refine sS4 hS rfl rfl rfl ?_ | refine sS5 hS rfl rfl rfl ?_); clear hS; intro w hS)) | ((first | refine sN1 hS rfl ?_); clear hS; first | ((fail_if_success guard_hyp g1); intro g1 w hS) | ((fail_if_success guard_hyp g2); intro g2 w hS) | ((fail_if_success guard_hyp g3); intro g3 w hS) | ((fail_if_success guard_hyp g4); intro g4 w hS) | ((fail_if_success guard_hyp g5); intro g5 w hS) | fail) | fail)
      go_ret
      exact ⟨rfl, hS.toExt⟩
open Go.ChangeShapes Go.WideShapes Go.ChangeAt
set_option maxRecDepth 100000 in
theorem lifted_MarkerPlays (os : Os) (started : os.Started) (H : Type) (enc : TypeId × Value → H) :
    ReturnsInHanded {} Try.checked os 4 .any (Rows.markerPlaysSpec.pre6 enc Try.prog Try.f4 Rows.markerPlaysRow.domain false) (Rows.markerPlaysSpec.post enc Try.prog Try.f4 false true false false) := by
  refine law_lifted (C := Try.checked) (s := Rows.markerPlaysSpec) (tb := 4) (by kernel_rfl) started (by kernel_rfl) Try.func4
      (ChangeSpec.witness6 (enc := enc) (C := Try.checked) false ⟨#[], #[.slice none 0 0, .slice none 0 0], []⟩ 8 (by kernel_rfl) (by kernel_rfl) (by kernel_rfl) (by kernel_rfl))
      (by kernel_rfl) rfl rfl Try.underlying4 (read_of (by kernel_rfl)) ?_ ?_
  · intro ds hl
    match ds, hl with
    | [d0, d1], _ => exact ⟨rfl, rfl, rfl⟩
  · intro W base args ds p hval0 hA0
    have hval : ∀ (j : Nat) t v, Try.f4.params[j]? = some t → args[j]? = some v → Value.okWide Try.prog W .any base t v := hval0
    have hA : DataW.TrodAll enc Try.prog W 0 (fun _ => true) true Try.f4.params.toList args.toList ds p := hA0
    clear hA0 hval0
    rw [Try.params4] at hA hval
    obtain ⟨v0, v1, d0, d1, p0, p1, rfl, rfl, rfl, h0, h1⟩ := trodAll_two hA
    obtain ⟨A0, c0, xs0, rfl, hri0, hc0, hd0, hwf0⟩ := open_nums Try.underlying22 Try.underlying3 (by kernel_rfl) (hval 0 _ v0 rfl rfl) h0
    obtain ⟨A1, c1, xs1, rfl, hri1, hc1, hd1, hwf1⟩ := open_nums Try.underlying34 Try.underlying5 (by kernel_rfl) (hval 1 _ v1 rfl rfl) h1
    exact markerPlays_any A0 c0 xs0 A1 c1 xs1 W hri0 hc0 hd0 (fun b hb => i64_bd (hwf0 b hb)) hri1 hc1 hd1 (fun b hb => u8_bd (hwf1 b hb))
/-- MarkerPlays returns true for every input, and leaves its arguments as they were. -/
theorem proved_MarkerPlays : Rows.MarkerPlaysSaid :=
  OpenClaim.holds_of_wide 4 Try.f4 rfl rfl rfl rfl rfl rfl rfl ⟨rfl, rfl, rfl, rfl, rfl⟩ rfl rfl rfl rfl rfl (by kernel_rfl) Try.func4 (by kernel_rfl)
    (of_decide_eq_true (by kernel_rfl)) (by unfold Func.isWrapper; rw [if_neg (by decide +kernel)]; exact ⟨rfl, rfl⟩)
    (fun os started H enc _ => lifted_MarkerPlays os started H enc)
end Go.Proofs.Ytkaofbjppibdkaa
