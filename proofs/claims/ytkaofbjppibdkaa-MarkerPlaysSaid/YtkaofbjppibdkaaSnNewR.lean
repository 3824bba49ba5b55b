/- rollbacknetref23.New. Conditions: the values lie in memory. -/
import Derived.Test.YtkaofbjppibdkaaSnNew
namespace Go.Proofs.Ytkaofbjppibdkaa
open Go.RowKit
set_option linter.unusedVariables false
set_option linter.unusedSimpArgs false
set_option linter.unusedSectionVars false

theorem rep_snoc {q : Nat} : List.replicate q (-1 : Int) ++ [-1] = List.replicate (q + 1) (-1) := by rw [List.replicate_succ']
set_option maxRecDepth 100000 in
set_option maxHeartbeats 3200000 in
theorem rsnew_any {S : Nat → Prop} (A : Option Addr) (c : Nat) (vs : List Int) (w0 : World) (hv : RI S w0 A vs) (hl : vs.length ≤ 1000) :
    Calls Try.prog 12 #[.slice A vs.length c] w0 (RetS (fun _ => False) w0 (newR vs).1 (newR vs).2) := by
  have hS := St.start w0 NoM
  by_cases h1 : vs.length < 1
  · rw [newR, if_neg (by omega)]
    have d1 : decide (vs.length < 1) = true := decide_eq_true h1
    have h0 : vs.length = 0 := by omega
    go_enter Try.func12, Try.ntmps12
    go_wp2_with (first | (refine oL ?_; (first | refine sL1 hS rfl rfl rfl ?_ | refine sL2 hS rfl rfl rfl ?_ | refine sL3 hS rfl rfl ?_ | refine sL4 hS rfl rfl ?_ | refine sL5 hS rfl rfl ?_ | refine sL6 hS rfl rfl ?_ | refine sL7 hS rfl rfl ?_)) | (refine oS ?_; ((first | refine sS1 hS rfl rfl rfl ?_ | refine sS2 hS rfl rfl rfl ?_ | refine sS3 hS rfl rfl rfl ?_ | refine sS4 hS rfl rfl rfl ?_ | refine sS5 hS rfl rfl rfl ?_); clear hS; intro w hS)) | (refine oP ?_; ((first | refine sP1 hS rfl rfl rfl ?_ | refine sP2 hS rfl rfl rfl ?_ | refine sP3 hS rfl rfl rfl ?_); clear hS; first | ((fail_if_success guard_hyp L1); intro L1 cl1 w hL1 hM1 hS) | ((fail_if_success guard_hyp L2); intro L2 cl2 w hL2 hM2 hS) | ((fail_if_success guard_hyp L3); intro L3 cl3 w hL3 hM3 hS) | fail)) | ((first | refine sN1 hS rfl ?_ | (refine oC ?_; first | refine sC0 hS rfl ?_ | refine sC1 hS rfl rfl ?_ | refine sC2 hS rfl rfl ?_ | refine sC3 hS rfl rfl rfl ?_ | refine sC4 hS rfl rfl rfl ?_)); clear hS; first | ((fail_if_success guard_hyp g1); intro g1 w hS) | ((fail_if_success guard_hyp g2); intro g2 w hS) | ((fail_if_success guard_hyp g3); intro g3 w hS) | ((fail_if_success guard_hyp g4); intro g4 w hS) | ((fail_if_success guard_hyp g5); intro g5 w hS) | ((fail_if_success guard_hyp g6); intro g6 w hS) | ((fail_if_success guard_hyp g7); intro g7 w hS) | ((fail_if_success guard_hyp g8); intro g8 w hS) | ((fail_if_success guard_hyp g9); intro g9 w hS) | fail) | fail)
    refine st_retCT hS rfl rfl rfl rfl rfl ?_
    exact RetS.none _ hS.toExt
  · by_cases h5 : 5 < vs.length
    · rw [newR, if_neg (by omega)]
      have d1 : decide (vs.length < 1) = false := decide_eq_false h1
      have d2 : decide (5 < vs.length) = true := decide_eq_true h5
      go_enter Try.func12, Try.ntmps12
      go_wp2_with (first | (refine oL ?_; (first | refine sL1 hS rfl rfl rfl ?_ | refine sL2 hS rfl rfl rfl ?_ | refine sL3 hS rfl rfl ?_ | refine sL4 hS rfl rfl ?_ | refine sL5 hS rfl rfl ?_ | refine sL6 hS rfl rfl ?_ | refine sL7 hS rfl rfl ?_)) | (refine oS ?_; ((first | refine sS1 hS rfl rfl rfl ?_ | refine sS2 hS rfl rfl rfl ?_ | refine sS3 hS rfl rfl rfl ?_ | refine sS4 hS rfl rfl rfl ?_ | refine sS5 hS rfl rfl rfl ?_); clear hS; intro w hS)) | (refine oP ?_; ((first | refine sP1 hS rfl rfl rfl ?_ | refine sP2 hS rfl rfl rfl ?_ | refine sP3 hS rfl rfl rfl ?_); clear hS; first | ((fail_if_success guard_hyp L1); intro L1 cl1 w hL1 hM1 hS) | ((fail_if_success guard_hyp L2); intro L2 cl2 w hL2 hM2 hS) | ((fail_if_success guard_hyp L3); intro L3 cl3 w hL3 hM3 hS) | fail)) | ((first | refine sN1 hS rfl ?_ | (refine oC ?_; first | refine sC0 hS rfl ?_ | refine sC1 hS rfl rfl ?_ | refine sC2 hS rfl rfl ?_ | refine sC3 hS rfl rfl rfl ?_ | refine sC4 hS rfl rfl rfl ?_)); clear hS; first | ((fail_if_success guard_hyp g1); intro g1 w hS) | ((fail_if_success guard_hyp g2); intro g2 w hS) | ((fail_if_success guard_hyp g3); intro g3 w hS) | ((fail_if_success guard_hyp g4); intro g4 w hS) | ((fail_if_success guard_hyp g5); intro g5 w hS) | ((fail_if_success guard_hyp g6); intro g6 w hS) | ((fail_if_success guard_hyp g7); intro g7 w hS) | ((fail_if_success guard_hyp g8); intro g8 w hS) | ((fail_if_success guard_hyp g9); intro g9 w hS) | fail) | fail)
      refine st_retCT hS rfl rfl rfl rfl rfl ?_
      exact RetS.none _ hS.toExt
    · rw [newR, if_pos (by omega)]
      simp only
      have d1 : decide (vs.length < 1) = false := decide_eq_false h1
      have d2 : decide (5 < vs.length) = false := decide_eq_false h5
      obtain ⟨nn, hnn⟩ : ∃ nn : Nat, vs.length * vs.length = nn := ⟨_, rfl⟩
      have hnn' : ((vs.length : Int)) * (vs.length : Int) = (nn : Int) := by rw [← hnn]; simp
      have hnn25 : nn ≤ 25 := by rw [← hnn]; exact Nat.mul_le_mul (show vs.length ≤ 5 by omega) (show vs.length ≤ 5 by omega)
      have HNN := Lib.hid hnn
      clear hnn
      have HV := Lib.hid (And.intro hv (show (ints vs).length = vs.length * 1 by simp))
      clear hv
      generalize hn : vs.length = n at *
      have HN := Lib.hid hn
      clear hn
      go_enter Try.func12, Try.ntmps12
      go_upto_region 4 with (first | (refine oL ?_; (first | refine sL1 hS rfl rfl rfl ?_ | refine sL2 hS rfl rfl rfl ?_ | refine sL3 hS rfl rfl ?_ | refine sL4 hS rfl rfl ?_ | refine sL5 hS rfl rfl ?_ | refine sL6 hS rfl rfl ?_ | refine sL7 hS rfl rfl ?_)) | (refine oS ?_; ((first | refine sS1 hS rfl rfl rfl ?_ | refine sS2 hS rfl rfl rfl ?_ | refine sS3 hS rfl rfl rfl ?_ | refine sS4 hS rfl rfl rfl ?_ | refine sS5 hS rfl rfl rfl ?_); clear hS; intro w hS)) | (refine oP ?_; ((first | refine sP1 hS rfl rfl rfl ?_ | refine sP2 hS rfl rfl rfl ?_ | refine sP3 hS rfl rfl rfl ?_); clear hS; first | ((fail_if_success guard_hyp L1); intro L1 cl1 w hL1 hM1 hS) | ((fail_if_success guard_hyp L2); intro L2 cl2 w hL2 hM2 hS) | ((fail_if_success guard_hyp L3); intro L3 cl3 w hL3 hM3 hS) | fail)) | ((first | refine sN1 hS rfl ?_ | (refine oC ?_; first | refine sC0 hS rfl ?_ | refine sC1 hS rfl rfl ?_ | refine sC2 hS rfl rfl ?_ | refine sC3 hS rfl rfl rfl ?_ | refine sC4 hS rfl rfl rfl ?_)); clear hS; first | ((fail_if_success guard_hyp g1); intro g1 w hS) | ((fail_if_success guard_hyp g2); intro g2 w hS) | ((fail_if_success guard_hyp g3); intro g3 w hS) | ((fail_if_success guard_hyp g4); intro g4 w hS) | ((fail_if_success guard_hyp g5); intro g5 w hS) | ((fail_if_success guard_hyp g6); intro g6 w hS) | ((fail_if_success guard_hyp g7); intro g7 w hS) | ((fail_if_success guard_hyp g8); intro g8 w hS) | ((fail_if_success guard_hyp g9); intro g9 w hS) | fail) | fail)
      refine dr_start0 [20]  hS (by kernel_rfl) rfl ?_; clear hS; intro w hS
      refine dM hS 0 rfl rfl rfl ?_
      (try simp only [Act.put, nA, nB, nC])
      refine dM hS 2 rfl rfl rfl ?_
      (try simp only [Act.put, nA, nB, nC])
      refine dM hS 4 rfl rfl rfl ?_
      (try simp only [Act.put, nA, nB, nC])
      refine dM hS 5 rfl rfl rfl ?_
      (try simp only [Act.put, nA, nB, nC])
      refine dP hS 6 rfl rfl ?_
      (try simp only [Act.put, nA, nB, nC])
      refine dM hS 8 rfl rfl rfl ?_
      (try simp only [Act.put, nA, nB, nC])
      refine dM hS 10 rfl rfl rfl ?_
      (try simp only [Act.put, nA, nB, nC])
      refine dM hS 11 rfl rfl rfl ?_
      (try simp only [Act.put, nA, nB, nC])
      refine dP hS 12 rfl rfl ?_
      (try simp only [Act.put, nA, nB, nC])
      refine dM hS 14 rfl rfl rfl ?_
      (try simp only [Act.put, nA, nB, nC])
      refine dM hS 15 rfl rfl rfl ?_
      (try simp only [Act.put, nA, nB, nC])
      refine dP hS 16 rfl rfl ?_
      (try simp only [Act.put, nA, nB, nC])
      refine dr_makers1 (ds := [17, 19, 23, 25, 29, 33, 5]) (a0 := _) ⟨19, 5, ptrC sn0 28, fun v => ∃ g, v = .pointer (some ⟨g, 0, none⟩)⟩ ?_ (by rfl) 6
        [⟨1, 17, fun v => row v 3 1 n (ints vs), fun v => ∃ L c, v = .slice L n c⟩, ⟨3, 19, fun v => row v 3 1 n (ints (List.replicate n 0)), fun v => ∃ g, v = .slice (some ⟨g, 0, none⟩) n n⟩, ⟨7, 23, fun v => row v 46 1 nn (List.replicate nn (.slice none 0 0)), fun v => ∃ g, v = .slice (some ⟨g, 0, none⟩) nn nn⟩,
         ⟨9, 25, fun v => row v 3 1 n (ints (List.replicate n 0)), fun v => ∃ g, v = .slice (some ⟨g, 0, none⟩) n n⟩, ⟨13, 29, fun v => row v 4 1 nn (List.replicate nn (.bool false)), fun v => ∃ g, v = .slice (some ⟨g, 0, none⟩) nn nn⟩,
         ⟨17, 33, fun v => row v 22 1 nn (List.replicate nn (.slice none 0 0)), fun v => ∃ g, v = .slice (some ⟨g, 0, none⟩) nn nn⟩] rfl _ _ _ _ (MkrsOk.mk' ?_ (by kernel_rfl) (by kernel_rfl) (by simp) (by simp) (by kernel_rfl)) (List.contains_iff_mem.1 (by kernel_rfl)) ?_ (fun _ _ => rfl) hS (fun c hc => hc) ?_ ?_
      · exact ⟨_, rfl, fun cs a w K hL hS k => sN1 hS rfl (fun g w' hS' => wpList_nil (k _ _ ⟨g, rfl⟩ hS'))⟩
      · intro m hm
        simp only [List.mem_cons, List.not_mem_nil, or_false] at hm
        rcases hm with rfl | rfl | rfl | rfl | rfl | rfl
        · refine ⟨_, rfl, fun cs a w K hL hS k => ?_⟩
          exact st_appN hS rfl rfl (hL.oval rfl rfl) (HV.out.1.ext hS.toExt) HV.out.2 (oneCell_ints vs) (by omega) (fun L cl w' _ _ hS' => wpList_nil (k _ _ ⟨L, cl, rfl⟩ hS'))
        · exact ⟨_, rfl, fun cs a w K hL hS k => sMV hS rfl (hL.oval rfl rfl) (hL.oval rfl rfl) rfl rfl (by omega) (fun g w' hS' => wpList_nil (k _ _ ⟨g, rfl⟩ (by rw [ints_replicate]; exact hS')))⟩
        · exact ⟨_, rfl, fun cs a w K hL hS k => sMV hS rfl (hL.oval rfl rfl) (hL.oval rfl rfl) rfl rfl (by omega) (fun g w' hS' => wpList_nil (k _ _ ⟨g, rfl⟩ hS'))⟩
        · exact ⟨_, rfl, fun cs a w K hL hS k => sMV hS rfl (hL.oval rfl rfl) (hL.oval rfl rfl) rfl rfl (by omega) (fun g w' hS' => wpList_nil (k _ _ ⟨g, rfl⟩ (by rw [ints_replicate]; exact hS')))⟩
        · exact ⟨_, rfl, fun cs a w K hL hS k => sMV hS rfl (hL.oval rfl rfl) (hL.oval rfl rfl) rfl rfl (by omega) (fun g w' hS' => wpList_nil (k _ _ ⟨g, rfl⟩ hS'))⟩
        · exact ⟨_, rfl, fun cs a w K hL hS k => sMV hS rfl (hL.oval rfl rfl) (hL.oval rfl rfl) rfl rfl (by omega) (fun g w' hS' => wpList_nil (k _ _ ⟨g, rfl⟩ hS'))⟩
      · intro m hm
        simp only [List.mem_cons, List.not_mem_nil, or_false] at hm
        rcases hm with rfl | rfl | rfl | rfl | rfl | rfl <;> simp
      · intro us w' hus hS'
        skip
        match us, hus with
        | [_, _, _, _, _, _], ⟨⟨L1, k1, rfl⟩, ⟨q2, rfl⟩, ⟨q3, rfl⟩, ⟨q5, rfl⟩, ⟨q6, rfl⟩, ⟨q7, rfl⟩, _⟩ =>
        simp only [pczM, lstM, putsM, ptrC, List.cons_append, List.nil_append] at hS' ⊢
        (try simp only [Act.put, nA, nB, nC])
        clear hS
        have hS := hS'
        clear hS'
        refine dP hS 18 rfl rfl ?_
        (try simp only [Act.put, nA, nB, nC])
        refine dr_one 19 (by kernel_rfl) rfl ?_
        (refine sN1 hS rfl ?_; clear hS; first | ((fail_if_success guard_hyp g1); intro g1 w hS) | ((fail_if_success guard_hyp g2); intro g2 w hS) | ((fail_if_success guard_hyp g3); intro g3 w hS) | ((fail_if_success guard_hyp g4); intro g4 w hS) | ((fail_if_success guard_hyp g5); intro g5 w hS) | ((fail_if_success guard_hyp g6); intro g6 w hS) | ((fail_if_success guard_hyp g7); intro g7 w hS) | ((fail_if_success guard_hyp g8); intro g8 w hS) | ((fail_if_success guard_hyp g9); intro g9 w hS) | fail)
        (try simp only [Act.put, nA, nB, nC])
        refine dr_end hS ?_
        refine dr_one 20 (by kernel_rfl) rfl ?_
        ((first | refine sS1 hS rfl rfl rfl ?_ | refine sS2 hS rfl rfl rfl ?_ | refine sS3 hS rfl rfl rfl ?_ | refine sS4 hS rfl rfl rfl ?_ | refine sS5 hS rfl rfl rfl ?_); clear hS; intro w hS)
        (try simp only [Act.put, nA, nB, nC])
        refine dr_late (by kernel_rfl) ?_
        refine dr_done (by kernel_rfl) ?_
        (try simp only [Act.put, nA, nB, nC])
        go_wp2_with (first | (refine oL ?_; (first | refine sL1 hS rfl rfl rfl ?_ | refine sL2 hS rfl rfl rfl ?_ | refine sL3 hS rfl rfl ?_ | refine sL4 hS rfl rfl ?_ | refine sL5 hS rfl rfl ?_ | refine sL6 hS rfl rfl ?_ | refine sL7 hS rfl rfl ?_)) | (refine oS ?_; ((first | refine sS1 hS rfl rfl rfl ?_ | refine sS2 hS rfl rfl rfl ?_ | refine sS3 hS rfl rfl rfl ?_ | refine sS4 hS rfl rfl rfl ?_ | refine sS5 hS rfl rfl rfl ?_); clear hS; intro w hS)) | (refine oP ?_; ((first | refine sP1 hS rfl rfl rfl ?_ | refine sP2 hS rfl rfl rfl ?_ | refine sP3 hS rfl rfl rfl ?_); clear hS; first | ((fail_if_success guard_hyp L1); intro L1 cl1 w hL1 hM1 hS) | ((fail_if_success guard_hyp L2); intro L2 cl2 w hL2 hM2 hS) | ((fail_if_success guard_hyp L3); intro L3 cl3 w hL3 hM3 hS) | fail)) | ((first | refine sN1 hS rfl ?_ | (refine oC ?_; first | refine sC0 hS rfl ?_ | refine sC1 hS rfl rfl ?_ | refine sC2 hS rfl rfl ?_ | refine sC3 hS rfl rfl rfl ?_ | refine sC4 hS rfl rfl rfl ?_)); clear hS; first | ((fail_if_success guard_hyp g1); intro g1 w hS) | ((fail_if_success guard_hyp g2); intro g2 w hS) | ((fail_if_success guard_hyp g3); intro g3 w hS) | ((fail_if_success guard_hyp g4); intro g4 w hS) | ((fail_if_success guard_hyp g5); intro g5 w hS) | ((fail_if_success guard_hyp g6); intro g6 w hS) | ((fail_if_success guard_hyp g7); intro g7 w hS) | ((fail_if_success guard_hyp g8); intro g8 w hS) | ((fail_if_success guard_hyp g9); intro g9 w hS) | fail) | fail)
        go_loopw [6] (fun s6 wr => ∃ (q : Nat) (zs : List Int) (K : Option Addr) (ck : Nat), q ≤ n ∧ zs.length ≤ 5 ∧ s6 = .int .i64 q ∧ Hid (zs.length = q ∧ zs = List.replicate q (-1 : Int)) ∧ St w0 NoM [irow 3 K ck zs, row (.slice L1 n k1) 3 1 n (ints vs), row (.slice (some ⟨q2, 0, none⟩) n n) 3 1 n (ints (List.replicate n 0)), row (.slice (some ⟨q3, 0, none⟩) nn nn) 46 1 nn (List.replicate nn (.slice none 0 0)), row (.slice (some ⟨q5, 0, none⟩) n n) 3 1 n (ints (List.replicate n 0)), row (.slice (some ⟨q6, 0, none⟩) nn nn) 4 1 nn (List.replicate nn (.bool false)), row (.slice (some ⟨q7, 0, none⟩) nn nn) 22 1 nn (List.replicate nn (.slice none 0 0)), blk g2 [.slice L1 n k1, .slice (some ⟨q2, 0, none⟩) n n, .slice (some ⟨q3, 0, none⟩) nn nn, .slice K zs.length ck, .slice (some ⟨q5, 0, none⟩) n n, .slice (some ⟨q6, 0, none⟩) nn nn, .slice (some ⟨q7, 0, none⟩) nn nn] 28, blk g1 sn0 28] wr) (fun s6 _ => n - (intOf s6).toNat)
        case atStart => exact ⟨0, [], none, 0, by omega, by simp, rfl, Lib.hid ⟨rfl, rfl⟩, St.addNil hS.re _ _⟩
        case round =>
          clear hS
          obtain ⟨q, zs, K, ck, hq, hz5, rfl, HZ, hS⟩ := hrel
          by_cases hlt : q < n
          · go_wp2_with (first | (refine oL ?_; (first | refine sL1 hS rfl rfl rfl ?_ | refine sL2 hS rfl rfl rfl ?_ | refine sL3 hS rfl rfl ?_ | refine sL4 hS rfl rfl ?_ | refine sL5 hS rfl rfl ?_ | refine sL6 hS rfl rfl ?_ | refine sL7 hS rfl rfl ?_)) | (refine oS ?_; ((first | refine sS1 hS rfl rfl rfl ?_ | refine sS2 hS rfl rfl rfl ?_ | refine sS3 hS rfl rfl rfl ?_ | refine sS4 hS rfl rfl rfl ?_ | refine sS5 hS rfl rfl rfl ?_); clear hS; intro w hS)) | (refine oP ?_; ((first | refine sP1 hS rfl rfl rfl ?_ | refine sP2 hS rfl rfl rfl ?_ | refine sP3 hS rfl rfl rfl ?_); clear hS; first | ((fail_if_success guard_hyp L1); intro L1 cl1 w hL1 hM1 hS) | ((fail_if_success guard_hyp L2); intro L2 cl2 w hL2 hM2 hS) | ((fail_if_success guard_hyp L3); intro L3 cl3 w hL3 hM3 hS) | fail)) | ((first | refine sN1 hS rfl ?_ | (refine oC ?_; first | refine sC0 hS rfl ?_ | refine sC1 hS rfl rfl ?_ | refine sC2 hS rfl rfl ?_ | refine sC3 hS rfl rfl rfl ?_ | refine sC4 hS rfl rfl rfl ?_)); clear hS; first | ((fail_if_success guard_hyp g1); intro g1 w hS) | ((fail_if_success guard_hyp g2); intro g2 w hS) | ((fail_if_success guard_hyp g3); intro g3 w hS) | ((fail_if_success guard_hyp g4); intro g4 w hS) | ((fail_if_success guard_hyp g5); intro g5 w hS) | ((fail_if_success guard_hyp g6); intro g6 w hS) | ((fail_if_success guard_hyp g7); intro g7 w hS) | ((fail_if_success guard_hyp g8); intro g8 w hS) | ((fail_if_success guard_hyp g9); intro g9 w hS) | fail) | fail)
            go_roundw
            case measure => simp [intOf]; omega
            refine ⟨q + 1, zs ++ [-1], L2, cl2, by omega, by simp [HZ.out.1]; omega, by go_num, Lib.hid ⟨by simp [HZ.out.1], by rw [HZ.out.2]; exact rep_snoc⟩, ?_⟩
            simp only [irow, List.length_append, List.length_singleton, List.length_cons, List.length_nil, Nat.zero_add, List.set_cons_zero, List.set_cons_succ] at hS ⊢
            exact hS.re
          · have HC := Lib.hid (show zs = (newS vs).cut by rw [HZ.out.2, show q = n by omega]; simp only [newS, HN.out])
            have HCL := Lib.hid (show zs.length = n by rw [HZ.out.1]; omega)
            clear HZ
            go_wp2_with (first | (refine oL ?_; (first | refine sL1 hS rfl rfl rfl ?_ | refine sL2 hS rfl rfl rfl ?_ | refine sL3 hS rfl rfl ?_ | refine sL4 hS rfl rfl ?_ | refine sL5 hS rfl rfl ?_ | refine sL6 hS rfl rfl ?_ | refine sL7 hS rfl rfl ?_)) | (refine oS ?_; ((first | refine sS1 hS rfl rfl rfl ?_ | refine sS2 hS rfl rfl rfl ?_ | refine sS3 hS rfl rfl rfl ?_ | refine sS4 hS rfl rfl rfl ?_ | refine sS5 hS rfl rfl rfl ?_); clear hS; intro w hS)) | (refine oP ?_; ((first | refine sP1 hS rfl rfl rfl ?_ | refine sP2 hS rfl rfl rfl ?_ | refine sP3 hS rfl rfl rfl ?_); clear hS; first | ((fail_if_success guard_hyp L1); intro L1 cl1 w hL1 hM1 hS) | ((fail_if_success guard_hyp L2); intro L2 cl2 w hL2 hM2 hS) | ((fail_if_success guard_hyp L3); intro L3 cl3 w hL3 hM3 hS) | fail)) | ((first | refine sN1 hS rfl ?_ | (refine oC ?_; first | refine sC0 hS rfl ?_ | refine sC1 hS rfl rfl ?_ | refine sC2 hS rfl rfl ?_ | refine sC3 hS rfl rfl rfl ?_ | refine sC4 hS rfl rfl rfl ?_)); clear hS; first | ((fail_if_success guard_hyp g1); intro g1 w hS) | ((fail_if_success guard_hyp g2); intro g2 w hS) | ((fail_if_success guard_hyp g3); intro g3 w hS) | ((fail_if_success guard_hyp g4); intro g4 w hS) | ((fail_if_success guard_hyp g5); intro g5 w hS) | ((fail_if_success guard_hyp g6); intro g6 w hS) | ((fail_if_success guard_hyp g7); intro g7 w hS) | ((fail_if_success guard_hyp g8); intro g8 w hS) | ((fail_if_success guard_hyp g9); intro g9 w hS) | fail) | fail)
            refine st_retCT hS rfl rfl rfl rfl rfl ?_
            have hri : RI (Orn (fun _ => False) w0) w K zs := hS.riNew
            generalize hzl : zs.length = zl at *
            obtain rfl : zl = n := HCL.out
            refine RetS.mk HN.out (by simp only [newS, List.length_replicate]; rw [HN.out]; exact HNN.out) ⟨L1, k1, some ⟨q2, 0, none⟩, _, some ⟨q3, 0, none⟩, nn, K, ck, some ⟨q5, 0, none⟩, _, some ⟨q6, 0, none⟩, nn, some ⟨q7, 0, none⟩, nn⟩ ⟨hS.riNew, ?_, ?_, ?_, ?_, ?_, ?_⟩ hS.toExt
            · simp only [newS, HN.out]; exact hS.riNew
            · simp only [newS, HN.out, HNN.out]; exact ⟨_, hS.rvNew, Rw2.repCh _ _ _⟩
            · rw [← HC.out]; exact hri
            · simp only [newS, HN.out]; exact hS.riNew
            · simp only [newS, HN.out, HNN.out, bools_rep]; exact hS.rvNew
            · simp only [newS, HN.out, HNN.out]; exact ⟨_, hS.rvNew, Rw2.repRe _ _ _⟩
      · intro v us w' hv hus hS'
        obtain ⟨g2, rfl⟩ := hv
        match us, hus with
        | [_, _, _, _, _, _], ⟨⟨L1, k1, rfl⟩, ⟨q2, rfl⟩, ⟨q3, rfl⟩, ⟨q5, rfl⟩, ⟨q6, rfl⟩, ⟨q7, rfl⟩, _⟩ =>
        simp only [pczM, lstM, putsM, ptrC, List.cons_append, List.nil_append] at hS' ⊢
        (try simp only [Act.put, nA, nB, nC])
        clear hS
        have hS := hS'
        clear hS'
        refine dP hS 18 rfl rfl ?_
        (try simp only [Act.put, nA, nB, nC])
        refine dr_one 20 (by kernel_rfl) rfl ?_
        ((first | refine sS1 hS rfl rfl rfl ?_ | refine sS2 hS rfl rfl rfl ?_ | refine sS3 hS rfl rfl rfl ?_ | refine sS4 hS rfl rfl rfl ?_ | refine sS5 hS rfl rfl rfl ?_); clear hS; intro w hS)
        (try simp only [Act.put, nA, nB, nC])
        refine dr_late (by kernel_rfl) ?_
        refine dr_done (by kernel_rfl) ?_
        (try simp only [Act.put, nA, nB, nC])
        go_wp2_with (first | (refine oL ?_; (first | refine sL1 hS rfl rfl rfl ?_ | refine sL2 hS rfl rfl rfl ?_ | refine sL3 hS rfl rfl ?_ | refine sL4 hS rfl rfl ?_ | refine sL5 hS rfl rfl ?_ | refine sL6 hS rfl rfl ?_ | refine sL7 hS rfl rfl ?_)) | (refine oS ?_; ((first | refine sS1 hS rfl rfl rfl ?_ | refine sS2 hS rfl rfl rfl ?_ | refine sS3 hS rfl rfl rfl ?_ | refine sS4 hS rfl rfl rfl ?_ | refine sS5 hS rfl rfl rfl ?_); clear hS; intro w hS)) | (refine oP ?_; ((first | refine sP1 hS rfl rfl rfl ?_ | refine sP2 hS rfl rfl rfl ?_ | refine sP3 hS rfl rfl rfl ?_); clear hS; first | ((fail_if_success guard_hyp L1); intro L1 cl1 w hL1 hM1 hS) | ((fail_if_success guard_hyp L2); intro L2 cl2 w hL2 hM2 hS) | ((fail_if_success guard_hyp L3); intro L3 cl3 w hL3 hM3 hS) | fail)) | ((first | refine sN1 hS rfl ?_ | (refine oC ?_; first | refine sC0 hS rfl ?_ | refine sC1 hS rfl rfl ?_ | refine sC2 hS rfl rfl ?_ | refine sC3 hS rfl rfl rfl ?_ | refine sC4 hS rfl rfl rfl ?_)); clear hS; first | ((fail_if_success guard_hyp g1); intro g1 w hS) | ((fail_if_success guard_hyp g2); intro g2 w hS) | ((fail_if_success guard_hyp g3); intro g3 w hS) | ((fail_if_success guard_hyp g4); intro g4 w hS) | ((fail_if_success guard_hyp g5); intro g5 w hS) | ((fail_if_success guard_hyp g6); intro g6 w hS) | ((fail_if_success guard_hyp g7); intro g7 w hS) | ((fail_if_success guard_hyp g8); intro g8 w hS) | ((fail_if_success guard_hyp g9); intro g9 w hS) | fail) | fail)
        go_loopw [6] (fun s6 wr => ∃ (q : Nat) (zs : List Int) (K : Option Addr) (ck : Nat), q ≤ n ∧ zs.length ≤ 5 ∧ s6 = .int .i64 q ∧ Hid (zs.length = q ∧ zs = List.replicate q (-1 : Int)) ∧ St w0 NoM [irow 3 K ck zs, row (.slice L1 n k1) 3 1 n (ints vs), row (.slice (some ⟨q2, 0, none⟩) n n) 3 1 n (ints (List.replicate n 0)), row (.slice (some ⟨q3, 0, none⟩) nn nn) 46 1 nn (List.replicate nn (.slice none 0 0)), row (.slice (some ⟨q5, 0, none⟩) n n) 3 1 n (ints (List.replicate n 0)), row (.slice (some ⟨q6, 0, none⟩) nn nn) 4 1 nn (List.replicate nn (.bool false)), row (.slice (some ⟨q7, 0, none⟩) nn nn) 22 1 nn (List.replicate nn (.slice none 0 0)), blk g2 [.slice L1 n k1, .slice (some ⟨q2, 0, none⟩) n n, .slice (some ⟨q3, 0, none⟩) nn nn, .slice K zs.length ck, .slice (some ⟨q5, 0, none⟩) n n, .slice (some ⟨q6, 0, none⟩) nn nn, .slice (some ⟨q7, 0, none⟩) nn nn] 28, blk g1 sn0 28] wr) (fun s6 _ => n - (intOf s6).toNat)
        case atStart => exact ⟨0, [], none, 0, by omega, by simp, rfl, Lib.hid ⟨rfl, rfl⟩, St.addNil hS.re _ _⟩
        case round =>
          clear hS
          obtain ⟨q, zs, K, ck, hq, hz5, rfl, HZ, hS⟩ := hrel
          by_cases hlt : q < n
          · go_wp2_with (first | (refine oL ?_; (first | refine sL1 hS rfl rfl rfl ?_ | refine sL2 hS rfl rfl rfl ?_ | refine sL3 hS rfl rfl ?_ | refine sL4 hS rfl rfl ?_ | refine sL5 hS rfl rfl ?_ | refine sL6 hS rfl rfl ?_ | refine sL7 hS rfl rfl ?_)) | (refine oS ?_; ((first | refine sS1 hS rfl rfl rfl ?_ | refine sS2 hS rfl rfl rfl ?_ | refine sS3 hS rfl rfl rfl ?_ | refine sS4 hS rfl rfl rfl ?_ | refine sS5 hS rfl rfl rfl ?_); clear hS; intro w hS)) | (refine oP ?_; ((first | refine sP1 hS rfl rfl rfl ?_ | refine sP2 hS rfl rfl rfl ?_ | refine sP3 hS rfl rfl rfl ?_); clear hS; first | ((fail_if_success guard_hyp L1); intro L1 cl1 w hL1 hM1 hS) | ((fail_if_success guard_hyp L2); intro L2 cl2 w hL2 hM2 hS) | ((fail_if_success guard_hyp L3); intro L3 cl3 w hL3 hM3 hS) | fail)) | ((first | refine sN1 hS rfl ?_ | (refine oC ?_; first | refine sC0 hS rfl ?_ | refine sC1 hS rfl rfl ?_ | refine sC2 hS rfl rfl ?_ | refine sC3 hS rfl rfl rfl ?_ | refine sC4 hS rfl rfl rfl ?_)); clear hS; first | ((fail_if_success guard_hyp g1); intro g1 w hS) | ((fail_if_success guard_hyp g2); intro g2 w hS) | ((fail_if_success guard_hyp g3); intro g3 w hS) | ((fail_if_success guard_hyp g4); intro g4 w hS) | ((fail_if_success guard_hyp g5); intro g5 w hS) | ((fail_if_success guard_hyp g6); intro g6 w hS) | ((fail_if_success guard_hyp g7); intro g7 w hS) | ((fail_if_success guard_hyp g8); intro g8 w hS) | ((fail_if_success guard_hyp g9); intro g9 w hS) | fail) | fail)
            go_roundw
            case measure => simp [intOf]; omega
            refine ⟨q + 1, zs ++ [-1], L2, cl2, by omega, by simp [HZ.out.1]; omega, by go_num, Lib.hid ⟨by simp [HZ.out.1], by rw [HZ.out.2]; exact rep_snoc⟩, ?_⟩
            simp only [irow, List.length_append, List.length_singleton, List.length_cons, List.length_nil, Nat.zero_add, List.set_cons_zero, List.set_cons_succ] at hS ⊢
            exact hS.re
          · have HC := Lib.hid (show zs = (newS vs).cut by rw [HZ.out.2, show q = n by omega]; simp only [newS, HN.out])
            have HCL := Lib.hid (show zs.length = n by rw [HZ.out.1]; omega)
            clear HZ
            go_wp2_with (first | (refine oL ?_; (first | refine sL1 hS rfl rfl rfl ?_ | refine sL2 hS rfl rfl rfl ?_ | refine sL3 hS rfl rfl ?_ | refine sL4 hS rfl rfl ?_ | refine sL5 hS rfl rfl ?_ | refine sL6 hS rfl rfl ?_ | refine sL7 hS rfl rfl ?_)) | (refine oS ?_; ((first | refine sS1 hS rfl rfl rfl ?_ | refine sS2 hS rfl rfl rfl ?_ | refine sS3 hS rfl rfl rfl ?_ | refine sS4 hS rfl rfl rfl ?_ | refine sS5 hS rfl rfl rfl ?_); clear hS; intro w hS)) | (refine oP ?_; ((first | refine sP1 hS rfl rfl rfl ?_ | refine sP2 hS rfl rfl rfl ?_ | refine sP3 hS rfl rfl rfl ?_); clear hS; first | ((fail_if_success guard_hyp L1); intro L1 cl1 w hL1 hM1 hS) | ((fail_if_success guard_hyp L2); intro L2 cl2 w hL2 hM2 hS) | ((fail_if_success guard_hyp L3); intro L3 cl3 w hL3 hM3 hS) | fail)) | ((first | refine sN1 hS rfl ?_ | (refine oC ?_; first | refine sC0 hS rfl ?_ | refine sC1 hS rfl rfl ?_ | refine sC2 hS rfl rfl ?_ | refine sC3 hS rfl rfl rfl ?_ | refine sC4 hS rfl rfl rfl ?_)); clear hS; first | ((fail_if_success guard_hyp g1); intro g1 w hS) | ((fail_if_success guard_hyp g2); intro g2 w hS) | ((fail_if_success guard_hyp g3); intro g3 w hS) | ((fail_if_success guard_hyp g4); intro g4 w hS) | ((fail_if_success guard_hyp g5); intro g5 w hS) | ((fail_if_success guard_hyp g6); intro g6 w hS) | ((fail_if_success guard_hyp g7); intro g7 w hS) | ((fail_if_success guard_hyp g8); intro g8 w hS) | ((fail_if_success guard_hyp g9); intro g9 w hS) | fail) | fail)
            refine st_retCT hS rfl rfl rfl rfl rfl ?_
            have hri : RI (Orn (fun _ => False) w0) w K zs := hS.riNew
            generalize hzl : zs.length = zl at *
            obtain rfl : zl = n := HCL.out
            refine RetS.mk HN.out (by simp only [newS, List.length_replicate]; rw [HN.out]; exact HNN.out) ⟨L1, k1, some ⟨q2, 0, none⟩, _, some ⟨q3, 0, none⟩, nn, K, ck, some ⟨q5, 0, none⟩, _, some ⟨q6, 0, none⟩, nn, some ⟨q7, 0, none⟩, nn⟩ ⟨hS.riNew, ?_, ?_, ?_, ?_, ?_, ?_⟩ hS.toExt
            · simp only [newS, HN.out]; exact hS.riNew
            · simp only [newS, HN.out, HNN.out]; exact ⟨_, hS.rvNew, Rw2.repCh _ _ _⟩
            · rw [← HC.out]; exact hri
            · simp only [newS, HN.out]; exact hS.riNew
            · simp only [newS, HN.out, HNN.out, bools_rep]; exact hS.rvNew
            · simp only [newS, HN.out, HNN.out]; exact ⟨_, hS.rvNew, Rw2.repRe _ _ _⟩
end Go.Proofs.Ytkaofbjppibdkaa
