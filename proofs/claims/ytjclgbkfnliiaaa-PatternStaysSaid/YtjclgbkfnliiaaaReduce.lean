/- Reduce, of the program and of the reference. Conditions: the pattern lies in memory, its lists are short. -/
import Derived.Test.YtjclgbkfnliiaaaRestA
namespace Go.Proofs.Ytjclgbkfnliiaaa
open Go.RowKit
set_option linter.unusedVariables false
set_option linter.unusedSimpArgs false

theorem filter_take_succ {α : Type} (f : α → Bool) {l : List α} {k : Nat} (hk : k < l.length) : (l.take (k + 1)).filter f = (l.take k).filter f ++ if f l[k] then [l[k]] else [] := by
  rw [List.take_succ_eq_append_getElem hk, List.filter_append]
  congr 1
  by_cases h : f l[k] <;> simp [h]
abbrev recd (a : Arc) : Bool := a.at_ != 0
set_option maxHeartbeats 1600000 in
theorem reduce_any {S : Nat → Prop} (v : PV) (p : Pat) (w0 : World) (hp : PatAt S w0 v p) (hfew : p.arcs.length ≤ 1000) :
    Calls Try.prog 47 #[v.val p] w0 (RetP S w0 (reduce p)) := by
  have hS := St.start w0 NoM
  have HP := Lib.hid hp
  have ha := hp.arcs
  clear hp
  obtain ⟨A1, c1, A2, c2, A3, c3⟩ := v
  simp only [PV.val] at *
  go_enter Try.func47, Try.ntmps47
  go_wp2_with (first | (refine oL ?_; (first | refine sL1 hS rfl rfl rfl ?_ | refine sL2 hS rfl rfl rfl ?_ | refine sL3 hS rfl rfl ?_ | refine sL4 hS rfl rfl ?_ | refine sL5 hS rfl rfl ?_ | refine sL6 hS rfl rfl ?_ | refine sL7 hS rfl rfl ?_)) | (refine oS ?_; ((first | refine sS1 hS rfl rfl rfl ?_ | refine sS2 hS rfl rfl rfl ?_ | refine sS3 hS rfl rfl rfl ?_ | refine sS4 hS rfl rfl rfl ?_ | refine sS5 hS rfl rfl rfl ?_); clear hS; intro w hS)) | (refine oP ?_; ((first | refine sP1 hS rfl rfl rfl ?_ | refine sP2 hS rfl rfl rfl ?_ | refine sP3 hS rfl rfl rfl ?_); clear hS; first | ((fail_if_success guard_hyp L1); intro L1 cl1 w hL1 hM1 hS) | ((fail_if_success guard_hyp L2); intro L2 cl2 w hL2 hM2 hS) | fail)) | ((first | (refine oB ?_; first | refine sB1 hS rfl rfl ?_ | refine sB2 hS rfl rfl ?_) | refine sN1 hS rfl ?_ | (refine oC ?_; first | refine sC0 hS rfl ?_ | refine sC1 hS rfl rfl ?_ | refine sC2 hS rfl rfl ?_ | refine sC3 hS rfl rfl rfl ?_ | refine sC4 hS rfl rfl rfl ?_)); clear hS; first | ((fail_if_success guard_hyp g1); intro g1 w hS) | ((fail_if_success guard_hyp g2); intro g2 w hS) | ((fail_if_success guard_hyp g3); intro g3 w hS) | ((fail_if_success guard_hyp g4); intro g4 w hS) | ((fail_if_success guard_hyp g5); intro g5 w hS) | fail) | fail)
  go_loopw [3, 9] (fun s3 s9 wr => ∃ (k n : Nat) (L : Option Addr) (cl : Nat) (az : List Arc), k ≤ p.arcs.length ∧ n ≤ k ∧ capOk n cl ∧ Hid (az = (p.arcs.take k).filter recd ∧ az.length = n) ∧ s9 = .int .i64 k ∧ s3 = .slice L n cl ∧
     St w0 NoM [row (.slice L n cl) 51 4 n (az.flatMap arcCells), blk g2 [.slice none 0 0, .slice none 0 0, .slice none 0 0] 28, blk g1 [.slice A1 p.len.length c1, .slice A2 p.ck.length c2, .slice A3 p.arcs.length c3] 28] wr) (fun _ s9 _ => p.arcs.length - (intOf s9).toNat)
  case atStart => exact ⟨0, 0, none, 0, [], by omega, by omega, by simp [capOk], Lib.hid (by simp), rfl, rfl, hS.addNil _ _⟩
  case round =>
    obtain ⟨k, n, L, cl, az, hk, hnk, hcn, HY, rfl, rfl, hS⟩ := hrel
    by_cases hlt : k < p.arcs.length
    · obtain ⟨b3, o3, rfl, _, hcs⟩ := ha.cells hlt
      have HSUC := Lib.hid (filter_take_succ recd hlt)
      have HAR := Lib.hid (rfl : p.arcs[k] = p.arcs[k])
      generalize p.arcs[k] = ar at *
      simp only [arcCells] at hcs
      obtain ⟨fr, ix, too, at_⟩ := ar
      simp only at *
      by_cases h0 : at_ = 0
      · go_wp2_with (first | (refine oL ?_; (first | refine sL1 hS rfl rfl rfl ?_ | refine sL2 hS rfl rfl rfl ?_ | refine sL3 hS rfl rfl ?_ | refine sL4 hS rfl rfl ?_ | refine sL5 hS rfl rfl ?_ | refine sL6 hS rfl rfl ?_ | refine sL7 hS rfl rfl ?_)) | (refine oS ?_; ((first | refine sS1 hS rfl rfl rfl ?_ | refine sS2 hS rfl rfl rfl ?_ | refine sS3 hS rfl rfl rfl ?_ | refine sS4 hS rfl rfl rfl ?_ | refine sS5 hS rfl rfl rfl ?_); clear hS; intro w hS)) | (refine oP ?_; ((first | refine sP1 hS rfl rfl rfl ?_ | refine sP2 hS rfl rfl rfl ?_ | refine sP3 hS rfl rfl rfl ?_); clear hS; first | ((fail_if_success guard_hyp L1); intro L1 cl1 w hL1 hM1 hS) | ((fail_if_success guard_hyp L2); intro L2 cl2 w hL2 hM2 hS) | fail)) | ((first | (refine oB ?_; first | refine sB1 hS rfl rfl ?_ | refine sB2 hS rfl rfl ?_) | refine sN1 hS rfl ?_ | (refine oC ?_; first | refine sC0 hS rfl ?_ | refine sC1 hS rfl rfl ?_ | refine sC2 hS rfl rfl ?_ | refine sC3 hS rfl rfl rfl ?_ | refine sC4 hS rfl rfl rfl ?_)); clear hS; first | ((fail_if_success guard_hyp g1); intro g1 w hS) | ((fail_if_success guard_hyp g2); intro g2 w hS) | ((fail_if_success guard_hyp g3); intro g3 w hS) | ((fail_if_success guard_hyp g4); intro g4 w hS) | ((fail_if_success guard_hyp g5); intro g5 w hS) | fail) | fail)
        go_roundw
        case measure => simp [intOf]; omega
        exact ⟨k + 1, n, L, cl, az, by omega, by omega, hcn, Lib.hid ⟨by rw [HSUC.out, HY.out.1]; simp [recd, h0], HY.out.2⟩, by go_num, rfl, hS.re⟩
      · have d0 : (at_ != 0) = true := by simp [h0]
        go_wp2_with (first | (refine st_appA ⟨fr, ix, too, at_⟩ hS rfl rfl rfl (by rfl) (by omega) ?_; clear hS; intro L1 cl1 w hL1 hM1 hS) | (refine oL ?_; (first | refine sL1 hS rfl rfl rfl ?_ | refine sL2 hS rfl rfl rfl ?_ | refine sL3 hS rfl rfl ?_ | refine sL4 hS rfl rfl ?_ | refine sL5 hS rfl rfl ?_ | refine sL6 hS rfl rfl ?_ | refine sL7 hS rfl rfl ?_)) | (refine oS ?_; ((first | refine sS1 hS rfl rfl rfl ?_ | refine sS2 hS rfl rfl rfl ?_ | refine sS3 hS rfl rfl rfl ?_ | refine sS4 hS rfl rfl rfl ?_ | refine sS5 hS rfl rfl rfl ?_); clear hS; intro w hS)) | (refine oP ?_; ((first | refine sP1 hS rfl rfl rfl ?_ | refine sP2 hS rfl rfl rfl ?_ | refine sP3 hS rfl rfl rfl ?_); clear hS; first | ((fail_if_success guard_hyp L1); intro L1 cl1 w hL1 hM1 hS) | ((fail_if_success guard_hyp L2); intro L2 cl2 w hL2 hM2 hS) | fail)) | ((first | (refine oB ?_; first | refine sB1 hS rfl rfl ?_ | refine sB2 hS rfl rfl ?_) | refine sN1 hS rfl ?_ | (refine oC ?_; first | refine sC0 hS rfl ?_ | refine sC1 hS rfl rfl ?_ | refine sC2 hS rfl rfl ?_ | refine sC3 hS rfl rfl rfl ?_ | refine sC4 hS rfl rfl rfl ?_)); clear hS; first | ((fail_if_success guard_hyp g1); intro g1 w hS) | ((fail_if_success guard_hyp g2); intro g2 w hS) | ((fail_if_success guard_hyp g3); intro g3 w hS) | ((fail_if_success guard_hyp g4); intro g4 w hS) | ((fail_if_success guard_hyp g5); intro g5 w hS) | fail) | fail)
        go_roundw
        case measure => simp [intOf]; omega
        exact ⟨k + 1, n + 1, L1, cl1, az ++ [⟨fr, ix, too, at_⟩], by omega, by omega, ⟨hL1, hM1⟩, Lib.hid ⟨by rw [HSUC.out, HY.out.1]; simp [recd, h0], by simp [HY.out.2]⟩, by go_num, rfl, hS.re⟩
    · go_wp2_with (first | (refine oL ?_; (first | refine sL1 hS rfl rfl rfl ?_ | refine sL2 hS rfl rfl rfl ?_ | refine sL3 hS rfl rfl ?_ | refine sL4 hS rfl rfl ?_ | refine sL5 hS rfl rfl ?_ | refine sL6 hS rfl rfl ?_ | refine sL7 hS rfl rfl ?_)) | (refine oS ?_; ((first | refine sS1 hS rfl rfl rfl ?_ | refine sS2 hS rfl rfl rfl ?_ | refine sS3 hS rfl rfl rfl ?_ | refine sS4 hS rfl rfl rfl ?_ | refine sS5 hS rfl rfl rfl ?_); clear hS; intro w hS)) | (refine oP ?_; ((first | refine sP1 hS rfl rfl rfl ?_ | refine sP2 hS rfl rfl rfl ?_ | refine sP3 hS rfl rfl rfl ?_); clear hS; first | ((fail_if_success guard_hyp L1); intro L1 cl1 w hL1 hM1 hS) | ((fail_if_success guard_hyp L2); intro L2 cl2 w hL2 hM2 hS) | fail)) | ((first | (refine oB ?_; first | refine sB1 hS rfl rfl ?_ | refine sB2 hS rfl rfl ?_) | refine sN1 hS rfl ?_ | (refine oC ?_; first | refine sC0 hS rfl ?_ | refine sC1 hS rfl rfl ?_ | refine sC2 hS rfl rfl ?_ | refine sC3 hS rfl rfl rfl ?_ | refine sC4 hS rfl rfl rfl ?_)); clear hS; first | ((fail_if_success guard_hyp g1); intro g1 w hS) | ((fail_if_success guard_hyp g2); intro g2 w hS) | ((fail_if_success guard_hyp g3); intro g3 w hS) | ((fail_if_success guard_hyp g4); intro g4 w hS) | ((fail_if_success guard_hyp g5); intro g5 w hS) | fail) | fail)
      simp only [List.set_cons_zero, List.set_cons_succ] at hS
      refine st_retC hS rfl rfl rfl rfl ?_
      have hE := hS.toExt
      have h1 := HY.out.1
      rw [List.take_of_length_le (by omega)] at h1
      refine RetP.mk (p := reduce p) rfl rfl (by rw [← HY.out.2, h1]; rfl) (HP.out.len.into (Into.orNew hE)) (HP.out.ck.into (Into.orNew hE)) ?_ ⟨HP.out.l1, HP.out.m1⟩ ⟨HP.out.l2, HP.out.m2⟩ hcn hE
      have h2 : RA (Orn S w0) _ L az := hS.raNew
      rw [h1] at h2
      exact h2
set_option maxHeartbeats 1600000 in
theorem rreduce_any {S : Nat → Prop} (v : PV) (p : Pat) (w0 : World) (hp : PatAt S w0 v p) (hfew : p.arcs.length ≤ 1000) :
    Calls Try.prog 48 #[v.val p] w0 (RetP S w0 (reduce p)) := by
  have hS := St.start w0 NoM
  have HP := Lib.hid hp
  have ha := hp.arcs
  clear hp
  obtain ⟨A1, c1, A2, c2, A3, c3⟩ := v
  simp only [PV.val] at *
  go_enter Try.func48, Try.ntmps48
  go_wp2_with (first | (refine oL ?_; (first | refine sL1 hS rfl rfl rfl ?_ | refine sL2 hS rfl rfl rfl ?_ | refine sL3 hS rfl rfl ?_ | refine sL4 hS rfl rfl ?_ | refine sL5 hS rfl rfl ?_ | refine sL6 hS rfl rfl ?_ | refine sL7 hS rfl rfl ?_)) | (refine oS ?_; ((first | refine sS1 hS rfl rfl rfl ?_ | refine sS2 hS rfl rfl rfl ?_ | refine sS3 hS rfl rfl rfl ?_ | refine sS4 hS rfl rfl rfl ?_ | refine sS5 hS rfl rfl rfl ?_); clear hS; intro w hS)) | ((first | (refine oB ?_; first | refine sB1 hS rfl rfl ?_ | refine sB2 hS rfl rfl ?_) | refine sN1 hS rfl ?_); clear hS; first | ((fail_if_success guard_hyp g1); intro g1 w hS) | ((fail_if_success guard_hyp g2); intro g2 w hS) | ((fail_if_success guard_hyp g3); intro g3 w hS) | ((fail_if_success guard_hyp g4); intro g4 w hS) | ((fail_if_success guard_hyp g5); intro g5 w hS) | fail) | fail)
  go_loopw [4] (fun s9 wr => ∃ (k n : Nat) (L : Option Addr) (cl : Nat) (az : List Arc), k ≤ p.arcs.length ∧ n ≤ k ∧ capOk n cl ∧ Hid (az = (p.arcs.take k).filter recd ∧ az.length = n) ∧ s9 = .int .i64 k ∧
     St w0 NoM [row (.slice L n cl) 51 4 n (az.flatMap arcCells), blk g3 [.slice A1 p.len.length c1, .slice A2 p.ck.length c2, .slice L n cl] 28, blk g2 [.slice none 0 0, .slice none 0 0, .slice none 0 0] 28, blk g1 [.slice A1 p.len.length c1, .slice A2 p.ck.length c2, .slice A3 p.arcs.length c3] 28] wr) (fun s9 _ => p.arcs.length - (intOf s9).toNat)
  case atStart => exact ⟨0, 0, none, 0, [], by omega, by omega, by simp [capOk], Lib.hid (by simp), rfl, hS.addNil _ _⟩
  case round =>
    obtain ⟨k, n, L, cl, az, hk, hnk, hcn, HY, rfl, hS⟩ := hrel
    by_cases hlt : k < p.arcs.length
    · obtain ⟨b3, o3, rfl, _, hcs⟩ := ha.cells hlt
      have HSUC := Lib.hid (filter_take_succ recd hlt)
      generalize p.arcs[k] = ar at *
      simp only [arcCells] at hcs
      obtain ⟨fr, ix, too, at_⟩ := ar
      simp only at *
      have hc3 := hcs 3 _ rfl
      by_cases h0 : at_ = 0
      · go_wp2_with (first | (refine oL ?_; (first | refine sL1 hS rfl rfl rfl ?_ | refine sL2 hS rfl rfl rfl ?_ | refine sL3 hS rfl rfl ?_ | refine sL4 hS rfl rfl ?_ | refine sL5 hS rfl rfl ?_ | refine sL6 hS rfl rfl ?_ | refine sL7 hS rfl rfl ?_)) | (refine oS ?_; ((first | refine sS1 hS rfl rfl rfl ?_ | refine sS2 hS rfl rfl rfl ?_ | refine sS3 hS rfl rfl rfl ?_ | refine sS4 hS rfl rfl rfl ?_ | refine sS5 hS rfl rfl rfl ?_); clear hS; intro w hS)) | ((first | (refine oB ?_; first | refine sB1 hS rfl rfl ?_ | refine sB2 hS rfl rfl ?_) | refine sN1 hS rfl ?_); clear hS; first | ((fail_if_success guard_hyp g1); intro g1 w hS) | ((fail_if_success guard_hyp g2); intro g2 w hS) | ((fail_if_success guard_hyp g3); intro g3 w hS) | ((fail_if_success guard_hyp g4); intro g4 w hS) | ((fail_if_success guard_hyp g5); intro g5 w hS) | fail) | fail)
        go_roundw
        case measure => simp [intOf]; omega
        exact ⟨k + 1, n, L, cl, az, by omega, by omega, hcn, Lib.hid ⟨by rw [HSUC.out, HY.out.1]; simp [recd, h0], HY.out.2⟩, by go_num, hS.re⟩
      · have d0 : (at_ != 0) = true := by simp [h0]
        go_wp2_with (first | (refine oL ?_; (first | refine sL1 hS rfl rfl rfl ?_ | refine sL2 hS rfl rfl rfl ?_ | refine sL3 hS rfl rfl ?_ | refine sL4 hS rfl rfl ?_ | refine sL5 hS rfl rfl ?_ | refine sL6 hS rfl rfl ?_ | refine sL7 hS rfl rfl ?_)) | (refine oS ?_; ((first | refine sS1 hS rfl rfl rfl ?_ | refine sS2 hS rfl rfl rfl ?_ | refine sS3 hS rfl rfl rfl ?_ | refine sS4 hS rfl rfl rfl ?_ | refine sS5 hS rfl rfl rfl ?_); clear hS; intro w hS)) | ((first | (refine oB ?_; first | refine sB1 hS rfl rfl ?_ | refine sB2 hS rfl rfl ?_) | refine sN1 hS rfl ?_); clear hS; first | ((fail_if_success guard_hyp g1); intro g1 w hS) | ((fail_if_success guard_hyp g2); intro g2 w hS) | ((fail_if_success guard_hyp g3); intro g3 w hS) | ((fail_if_success guard_hyp g4); intro g4 w hS) | ((fail_if_success guard_hyp g5); intro g5 w hS) | fail) | fail)
        refine dr_start1 [10] 0 hS (by kernel_rfl) rfl ?_; clear hS; intro w hS
        refine dP hS 0 rfl rfl ?_
        (try simp only [Act.put, nA, nB, nC])
        first | refine dL1 hS 1 rfl rfl rfl rfl ?_ | refine dL2 hS 1 rfl rfl rfl rfl ?_ | refine dL3 hS 1 rfl rfl rfl ?_ | refine dL4 hS 1 rfl rfl rfl ?_ | refine dL5 hS 1 rfl rfl rfl ?_ | refine dL6 hS 1 rfl rfl rfl ?_ | refine dL7 hS 1 rfl rfl rfl ?_
        (try simp only [Act.put, nA, nB, nC])
        refine dP hS 2 rfl rfl ?_
        (try simp only [Act.put, nA, nB, nC])
        first | refine dL1 hS 3 rfl rfl rfl rfl ?_ | refine dL2 hS 3 rfl rfl rfl rfl ?_ | refine dL3 hS 3 rfl rfl rfl ?_ | refine dL4 hS 3 rfl rfl rfl ?_ | refine dL5 hS 3 rfl rfl rfl ?_ | refine dL6 hS 3 rfl rfl rfl ?_ | refine dL7 hS 3 rfl rfl rfl ?_
        (try simp only [Act.put, nA, nB, nC])
        refine dM hS 4 rfl rfl rfl ?_
        (try simp only [Act.put, nA, nB, nC])
        refine dP hS 5 rfl rfl ?_
        (try simp only [Act.put, nA, nB, nC])
        first | refine dL1 hS 6 rfl rfl rfl rfl ?_ | refine dL2 hS 6 rfl rfl rfl rfl ?_ | refine dL3 hS 6 rfl rfl rfl ?_ | refine dL4 hS 6 rfl rfl rfl ?_ | refine dL5 hS 6 rfl rfl rfl ?_ | refine dL6 hS 6 rfl rfl rfl ?_ | refine dL7 hS 6 rfl rfl rfl ?_
        (try simp only [Act.put, nA, nB, nC])
        refine dr_one 7 (by kernel_rfl) rfl ?_
        first | (refine st_appA ⟨fr, ix, too, at_⟩ hS rfl rfl rfl (by rfl) (by omega) ?_; clear hS; intro L1 cl1 w hL1 hM1 hS) | ((first | refine sC0 hS rfl ?_ | refine sC1 hS rfl rfl ?_ | refine sC2 hS rfl rfl ?_ | refine sC3 hS rfl rfl rfl ?_ | refine sC4 hS rfl rfl rfl ?_); clear hS; first | ((fail_if_success guard_hyp g1); intro g1 w hS) | ((fail_if_success guard_hyp g2); intro g2 w hS) | ((fail_if_success guard_hyp g3); intro g3 w hS) | ((fail_if_success guard_hyp g4); intro g4 w hS) | ((fail_if_success guard_hyp g5); intro g5 w hS) | fail) | fail
        (try simp only [Act.put, nA, nB, nC])
        refine dr_end hS ?_
        refine dr_one 8 (by kernel_rfl) rfl ?_
        first | (refine st_appA ⟨fr, ix, too, at_⟩ hS rfl rfl rfl (by rfl) (by omega) ?_; clear hS; intro L1 cl1 w hL1 hM1 hS) | ((first | refine sP1 hS rfl rfl rfl ?_ | refine sP2 hS rfl rfl rfl ?_ | refine sP3 hS rfl rfl rfl ?_); clear hS; first | ((fail_if_success guard_hyp L1); intro L1 cl1 w hL1 hM1 hS) | ((fail_if_success guard_hyp L2); intro L2 cl2 w hL2 hM2 hS) | fail) | fail
        (try simp only [Act.put, nA, nB, nC])
        refine dr_end hS ?_
        refine dP hS 9 rfl rfl ?_
        (try simp only [Act.put, nA, nB, nC])
        refine dr_one 10 (by kernel_rfl) rfl ?_
        first | (refine st_appA ⟨fr, ix, too, at_⟩ hS rfl rfl rfl (by rfl) (by omega) ?_; clear hS; intro L1 cl1 w hL1 hM1 hS) | ((first | refine sS1 hS rfl rfl rfl ?_ | refine sS2 hS rfl rfl rfl ?_ | refine sS3 hS rfl rfl rfl ?_ | refine sS4 hS rfl rfl rfl ?_ | refine sS5 hS rfl rfl rfl ?_); clear hS; intro w hS) | fail
        (try simp only [Act.put, nA, nB, nC])
        refine dr_late (by kernel_rfl) ?_
        refine dr_done (by kernel_rfl) ?_
        all_goals
          go_wp2_with (first | (refine oL ?_; (first | refine sL1 hS rfl rfl rfl ?_ | refine sL2 hS rfl rfl rfl ?_ | refine sL3 hS rfl rfl ?_ | refine sL4 hS rfl rfl ?_ | refine sL5 hS rfl rfl ?_ | refine sL6 hS rfl rfl ?_ | refine sL7 hS rfl rfl ?_)) | (refine oS ?_; ((first | refine sS1 hS rfl rfl rfl ?_ | refine sS2 hS rfl rfl rfl ?_ | refine sS3 hS rfl rfl rfl ?_ | refine sS4 hS rfl rfl rfl ?_ | refine sS5 hS rfl rfl rfl ?_); clear hS; intro w hS)) | ((first | (refine oB ?_; first | refine sB1 hS rfl rfl ?_ | refine sB2 hS rfl rfl ?_) | refine sN1 hS rfl ?_); clear hS; first | ((fail_if_success guard_hyp g1); intro g1 w hS) | ((fail_if_success guard_hyp g2); intro g2 w hS) | ((fail_if_success guard_hyp g3); intro g3 w hS) | ((fail_if_success guard_hyp g4); intro g4 w hS) | ((fail_if_success guard_hyp g5); intro g5 w hS) | fail) | fail)
          simp only [List.set_cons_zero, List.set_cons_succ] at hS
          go_roundw
          case measure => simp [intOf]; omega
          exact ⟨k + 1, n + 1, L1, cl1, az ++ [⟨fr, ix, too, at_⟩], by omega, by omega, ⟨hL1, hM1⟩, Lib.hid ⟨by rw [HSUC.out, HY.out.1]; simp [recd, h0], by simp [HY.out.2]⟩, by go_num, hS.re⟩
    · go_wp2_with (first | (refine oL ?_; (first | refine sL1 hS rfl rfl rfl ?_ | refine sL2 hS rfl rfl rfl ?_ | refine sL3 hS rfl rfl ?_ | refine sL4 hS rfl rfl ?_ | refine sL5 hS rfl rfl ?_ | refine sL6 hS rfl rfl ?_ | refine sL7 hS rfl rfl ?_)) | (refine oS ?_; ((first | refine sS1 hS rfl rfl rfl ?_ | refine sS2 hS rfl rfl rfl ?_ | refine sS3 hS rfl rfl rfl ?_ | refine sS4 hS rfl rfl rfl ?_ | refine sS5 hS rfl rfl rfl ?_); clear hS; intro w hS)) | ((first | (refine oB ?_; first | refine sB1 hS rfl rfl ?_ | refine sB2 hS rfl rfl ?_) | refine sN1 hS rfl ?_); clear hS; first | ((fail_if_success guard_hyp g1); intro g1 w hS) | ((fail_if_success guard_hyp g2); intro g2 w hS) | ((fail_if_success guard_hyp g3); intro g3 w hS) | ((fail_if_success guard_hyp g4); intro g4 w hS) | ((fail_if_success guard_hyp g5); intro g5 w hS) | fail) | fail)
      refine st_retC hS rfl rfl rfl rfl ?_
      have hE := hS.toExt
      have h1 := HY.out.1
      rw [List.take_of_length_le (by omega)] at h1
      refine RetP.mk (p := reduce p) rfl rfl (by rw [← HY.out.2, h1]; rfl) (HP.out.len.into (Into.orNew hE)) (HP.out.ck.into (Into.orNew hE)) ?_ ⟨HP.out.l1, HP.out.m1⟩ ⟨HP.out.l2, HP.out.m2⟩ hcn hE
      have h2 : RA (Orn S w0) _ L az := hS.raNew
      rw [h1] at h2
      exact h2
end Go.Proofs.Ytjclgbkfnliiaaa
