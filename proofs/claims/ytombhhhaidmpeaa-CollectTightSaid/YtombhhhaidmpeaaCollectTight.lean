/- CollectTight returns true for every input. No condition. -/
import Derived.Test.YtombhhhaidmpeaaLaw36
namespace Go.Proofs.Ytombhhhaidmpeaa
open Go.RowKit
set_option linter.unusedVariables false
set_option linter.unusedSimpArgs false
set_option linter.unusedSectionVars false

theorem needRow_asc {p : Pat} (hg : Good p) {q : Nat} (hq : q < p.len.length) : (needRow p q).Pairwise (· < ·) := (hg.row q hq).asc.filter _
theorem needRow_at {p : Pat} {q j : Nat} (hj : j < (needRow p q).length) : nth (needRow p q) j ∈ rowOf p.ck q ∧ ∃ r, r < p.len.length ∧ nth (lineOf p [r]) q = nth (needRow p q) j := by
  have h1 : nth (needRow p q) j ∈ needRow p q := by rw [nth_eq hj]; exact List.getElem_mem hj
  obtain ⟨h2, h3⟩ := List.mem_filter.1 h1
  obtain ⟨r, hr, h4⟩ := List.any_eq_true.1 h3
  exact ⟨h2, r, List.mem_range.1 hr, by simpa using h4⟩
set_option maxRecDepth 100000 in
set_option maxHeartbeats 6400000 in
theorem collectTight_any (C : Option Addr) (f : Nat) (bs : List Int) (w0 : World) (hbs : RV (fun b => b < w0.heap.size) w0 C (bytes bs)) (hf : bs.length ≤ f) (hf' : f ≤ 9223372036854775807) (hby : ∀ b ∈ bs, 0 ≤ b ∧ b ≤ 255) :
    Calls Try.prog 4 #[.slice C bs.length f] w0 fun e w' => e = .returned (.bool true) ∧ Ext w0 w' := by
  have hS := St.start w0 NoM
  have HB := Lib.hid (And.intro hby (RV.sub (S' := Froz w0 NoM) hbs (fun k hk => ⟨hk, id⟩)))
  clear hby hbs
  go_enter Try.func4, Try.ntmps4
  go_wp2_with (first | (go_at_call 10; refine (awake36_any _).mono ?_; rintro e w ⟨rfl, hx1⟩; replace hS := hS.ext hx1) | (refine oL ?_; (first | refine sL1 hS rfl rfl rfl ?_ | refine sL2 hS rfl rfl rfl ?_ | refine sL3 hS rfl rfl ?_ | refine sL4 hS rfl rfl ?_ | refine sL5 hS rfl rfl ?_ | refine sL6 hS rfl rfl ?_ | refine sL7 hS rfl rfl ?_)) | (refine oS ?_; ((first | refine sS1 hS rfl rfl rfl ?_ | refine sS2 hS rfl rfl rfl ?_ | refine sS3 hS rfl rfl rfl ?_ | refine sS4 hS rfl rfl rfl ?_ | refine sS5 hS rfl rfl rfl ?_); clear hS; intro w hS)) | ((first | refine sN1 hS rfl ?_ | (refine oC ?_; first | refine sC0 hS rfl ?_ | refine sC1 hS rfl rfl ?_ | refine sC2 hS rfl rfl ?_ | refine sC3 hS rfl rfl rfl ?_ | refine sC4 hS rfl rfl rfl ?_)); clear hS; first | ((fail_if_success guard_hyp g1); intro g1 w hS) | ((fail_if_success guard_hyp g2); intro g2 w hS) | ((fail_if_success guard_hyp g3); intro g3 w hS) | fail) | fail)
  refine (new_st (m := 150) hS (by omega) HB.out.2 hf hf' HB.out.1).mono ?_
  rintro e w ⟨gc, κ, rfl, hS⟩
  clear HB
  generalize bs.take 150 = r at *
  go_wp2_with (first | (refine oL ?_; (first | refine sL1 hS rfl rfl rfl ?_ | refine sL2 hS rfl rfl rfl ?_ | refine sL3 hS rfl rfl ?_ | refine sL4 hS rfl rfl ?_ | refine sL5 hS rfl rfl ?_ | refine sL6 hS rfl rfl ?_ | refine sL7 hS rfl rfl ?_)) | (refine oS ?_; ((first | refine sS1 hS rfl rfl rfl ?_ | refine sS2 hS rfl rfl rfl ?_ | refine sS3 hS rfl rfl rfl ?_ | refine sS4 hS rfl rfl rfl ?_ | refine sS5 hS rfl rfl rfl ?_); clear hS; intro w hS)) | ((first | refine sN1 hS rfl ?_ | (refine oC ?_; first | refine sC0 hS rfl ?_ | refine sC1 hS rfl rfl ?_ | refine sC2 hS rfl rfl ?_ | refine sC3 hS rfl rfl rfl ?_ | refine sC4 hS rfl rfl rfl ?_)); clear hS; first | ((fail_if_success guard_hyp g1); intro g1 w hS) | ((fail_if_success guard_hyp g2); intro g2 w hS) | ((fail_if_success guard_hyp g3); intro g3 w hS) | fail) | fail)
  refine (pattern_st (m := 50) hS rfl (by omega)).mono ?_
  rintro e w ⟨v, p, r1, T, rfl, hsm, hpa, hS⟩
  have HP := Lib.hid (And.intro hsm hpa)
  have e1 := hsm.good.ckl
  have hn5 := hsm.good.n5
  obtain ⟨A1, c1, A2, c2, A3, c3⟩ := v
  simp only [PV.val]
  have HE := Lib.hid e1
  have hn2 := hsm.good.n2
  have hfew := hsm.few
  clear hsm hpa e1
  generalize hu : w = u at *
  have HNL := Lib.hid (And.intro (needL_len p) (needL_rl HP.out.1.good))
  go_wp2_with (first | (go_at_call 15; refine (needed_any ⟨A1, c1, A2, c2, A3, c3⟩ p _ (HP.out.2.into hS.frozInto) HP.out.1.good).mono ?_; rintro e w2 ⟨LA, cA, rfl, hcA, hcA', hrr, hx1⟩; obtain ⟨T2, hS2, hi1, hi0⟩ := hS.grow hx1; have HV := Lib.hid (And.intro (HP.out.2.into hi0) (hrr.into hi1)); clear hi1 hi0 hS hx1 hrr; replace hS := hS2; clear hS2; rw [HNL.out.1]) | (refine oL ?_; (first | refine sL1 hS rfl rfl rfl ?_ | refine sL2 hS rfl rfl rfl ?_ | refine sL3 hS rfl rfl ?_ | refine sL4 hS rfl rfl ?_ | refine sL5 hS rfl rfl ?_ | refine sL6 hS rfl rfl ?_ | refine sL7 hS rfl rfl ?_)) | (refine oS ?_; ((first | refine sS1 hS rfl rfl rfl ?_ | refine sS2 hS rfl rfl rfl ?_ | refine sS3 hS rfl rfl rfl ?_ | refine sS4 hS rfl rfl rfl ?_ | refine sS5 hS rfl rfl rfl ?_); clear hS; intro w hS)) | ((first | refine sN1 hS rfl ?_ | (refine oC ?_; first | refine sC0 hS rfl ?_ | refine sC1 hS rfl rfl ?_ | refine sC2 hS rfl rfl ?_ | refine sC3 hS rfl rfl rfl ?_ | refine sC4 hS rfl rfl rfl ?_)); clear hS; first | ((fail_if_success guard_hyp g1); intro g1 w hS) | ((fail_if_success guard_hyp g2); intro g2 w hS) | ((fail_if_success guard_hyp g3); intro g3 w hS) | fail) | fail)
  have HG := Lib.hid HP.out.1.good
  clear HP
  have hck1 : p.ck.length ≤ p.len.length := by have := HE.out; omega
  have hck2 : p.len.length ≤ p.ck.length := by have := HE.out; omega
  go_loopw [5, 6, 7, 8, 9] (fun s5 s6 s7 s8 s9 wr => ∃ (q : Nat) (T : Nat → Prop) (u : World), q ≤ p.len.length ∧ s5 = .int .i64 q ∧ Hid (PatAt T u ⟨A1, c1, A2, c2, A3, c3⟩ p ∧ RR T u LA (needL p)) ∧ St w0 NoM [froz T u, blk g1 [.slice A1 p.len.length c1, .slice A2 p.ck.length c2, .slice A3 p.arcs.length c3] 28] wr) (fun s5 _ _ _ _ _ => p.len.length - (intOf s5).toNat)
  case atStart => exact ⟨0, _, _, by omega, rfl, HV, hS.re⟩
  case round =>
    clear hS HV
    obtain ⟨q, T, u, hq, rfl, HV, hS⟩ := hrel
    by_cases hql : q < p.len.length
    · have hql' : (q : Int) < p.len.length := by omega
      have hqc : (q : Int) < p.ck.length := by omega
      have HRW := Lib.hid (needL_row (p := p) hql)
      have hrl : (needRow p q).length ≤ 65 := HNL.out.2 _ (by rw [← HRW.out, rowOf_eq (by rw [HNL.out.1]; exact hql)]; exact List.getElem_mem _)
      go_wp2_with (first | (refine oL ?_; (first | refine sL1 hS rfl rfl rfl ?_ | refine sL2 hS rfl rfl rfl ?_ | refine sL3 hS rfl rfl ?_ | refine sL4 hS rfl rfl ?_ | refine sL5 hS rfl rfl ?_ | refine sL6 hS rfl rfl ?_ | refine sL7 hS rfl rfl ?_)) | (refine oS ?_; ((first | refine sS1 hS rfl rfl rfl ?_ | refine sS2 hS rfl rfl rfl ?_ | refine sS3 hS rfl rfl rfl ?_ | refine sS4 hS rfl rfl rfl ?_ | refine sS5 hS rfl rfl rfl ?_); clear hS; intro w hS)) | ((first | refine sN1 hS rfl ?_ | (refine oC ?_; first | refine sC0 hS rfl ?_ | refine sC1 hS rfl rfl ?_ | refine sC2 hS rfl rfl ?_ | refine sC3 hS rfl rfl rfl ?_ | refine sC4 hS rfl rfl rfl ?_)); clear hS; first | ((fail_if_success guard_hyp g1); intro g1 w hS) | ((fail_if_success guard_hyp g2); intro g2 w hS) | ((fail_if_success guard_hyp g3); intro g3 w hS) | fail) | fail)
      go_loopw [6, 7, 8, 9] (fun s6 s7 s8 s9 wr => ∃ (j : Nat) (T : Nat → Prop) (u : World), j ≤ (needRow p q).length ∧ s6 = .int .i64 j ∧ Hid (PatAt T u ⟨A1, c1, A2, c2, A3, c3⟩ p ∧ RR T u LA (needL p)) ∧ St w0 NoM [froz T u, blk g1 [.slice A1 p.len.length c1, .slice A2 p.ck.length c2, .slice A3 p.arcs.length c3] 28] wr) (fun s6 _ _ _ _ => (needRow p q).length - (intOf s6).toNat)
      case atStart => exact ⟨0, T, u, by omega, rfl, HV, hS⟩
      case round =>
        clear hS HV
        obtain ⟨j, T, u, hj, rfl, HV, hS⟩ := hrel
        obtain ⟨bR, ofR, BR, cR, hLA, hfR, hBR, hcR, hcR'⟩ := HV.out.2.fc (k := q) (by rw [HNL.out.1]; exact hql)
        subst hLA
        rw [HRW.out] at hfR hBR hcR
        by_cases hjl : j < (needRow p q).length
        · have hjl' : (j : Int) < (needRow p q).length := by omega
          have HAT := Lib.hid (needRow_at hjl)
          have HAS := Lib.hid (needRow_asc HG.out hql)
          go_wp2_with (first | (refine oL ?_; (first | refine sL1 hS rfl rfl rfl ?_ | refine sL2 hS rfl rfl rfl ?_ | refine sL3 hS rfl rfl ?_ | refine sL4 hS rfl rfl ?_ | refine sL5 hS rfl rfl ?_ | refine sL6 hS rfl rfl ?_ | refine sL7 hS rfl rfl ?_)) | (refine oS ?_; ((first | refine sS1 hS rfl rfl rfl ?_ | refine sS2 hS rfl rfl rfl ?_ | refine sS3 hS rfl rfl rfl ?_ | refine sS4 hS rfl rfl rfl ?_ | refine sS5 hS rfl rfl rfl ?_); clear hS; intro w hS)) | ((first | refine sN1 hS rfl ?_ | (refine oC ?_; first | refine sC0 hS rfl ?_ | refine sC1 hS rfl rfl ?_ | refine sC2 hS rfl rfl ?_ | refine sC3 hS rfl rfl rfl ?_ | refine sC4 hS rfl rfl rfl ?_)); clear hS; first | ((fail_if_success guard_hyp g1); intro g1 w hS) | ((fail_if_success guard_hyp g2); intro g2 w hS) | ((fail_if_success guard_hyp g3); intro g3 w hS) | fail) | fail)
          clear hfR hBR
          go_loopw [7, 8, 9] (fun s7 s8 s9 wr => ∃ (r : Nat) (b : Bool) (T : Nat → Prop) (u : World), r ≤ p.len.length ∧ s8 = .int .i64 r ∧ s7 = .bool b ∧ Hid (b = true ↔ ∃ r', r' < r ∧ nth (lineOf p [r']) q = nth (needRow p q) j) ∧ Hid (PatAt T u ⟨A1, c1, A2, c2, A3, c3⟩ p ∧ RR T u (some ⟨bR, ofR, none⟩) (needL p)) ∧ St w0 NoM [froz T u, blk g1 [.slice A1 p.len.length c1, .slice A2 p.ck.length c2, .slice A3 p.arcs.length c3] 28] wr) (fun _ s8 _ _ => p.len.length - (intOf s8).toNat)
          case atStart => exact ⟨0, false, T, u, by omega, rfl, rfl, Lib.hid (by simp), HV, hS⟩
          case round =>
            clear hS HV
            obtain ⟨r, b, T, u, hr, rfl, rfl, HB, HV, hS⟩ := hrel
            by_cases hrl2 : r < p.len.length
            · have hrl' : (r : Int) < p.len.length := by omega
              have HLL := Lib.hid (lineOf_len HG.out [r])
              go_upto_region 16 with (first | (go_at_call 19; refine (failure_any (T := All) ⟨A1, c1, A2, c2, A3, c3⟩ _ _ 1 p [r] _ (HV.out.1.into hS.frozInto) HG.out (hS.riB g2 [(r : Int)] rfl) rfl (by omega)).mono ?_; rintro e w2 ⟨LG, cG, rfl, hcG, hcG', hri, hx1⟩; obtain ⟨T2, hS2, hi1, hi0⟩ := hS.grow hx1; replace hri := hri.into hi1; have HV2 := Lib.hid (And.intro (HV.out.1.into hi0) (HV.out.2.into hi0)); clear hi1 hi0 hS hx1; replace hS := hS2; clear hS2) | (refine oL ?_; (first | refine sL1 hS rfl rfl rfl ?_ | refine sL2 hS rfl rfl rfl ?_ | refine sL3 hS rfl rfl ?_ | refine sL4 hS rfl rfl ?_ | refine sL5 hS rfl rfl ?_ | refine sL6 hS rfl rfl ?_ | refine sL7 hS rfl rfl ?_)) | (refine oS ?_; ((first | refine sS1 hS rfl rfl rfl ?_ | refine sS2 hS rfl rfl rfl ?_ | refine sS3 hS rfl rfl rfl ?_ | refine sS4 hS rfl rfl rfl ?_ | refine sS5 hS rfl rfl rfl ?_); clear hS; intro w hS)) | ((first | refine sN1 hS rfl ?_ | (refine oC ?_; first | refine sC0 hS rfl ?_ | refine sC1 hS rfl rfl ?_ | refine sC2 hS rfl rfl ?_ | refine sC3 hS rfl rfl rfl ?_ | refine sC4 hS rfl rfl rfl ?_)); clear hS; first | ((fail_if_success guard_hyp g1); intro g1 w hS) | ((fail_if_success guard_hyp g2); intro g2 w hS) | ((fail_if_success guard_hyp g3); intro g3 w hS) | fail) | fail)
              obtain ⟨bL, ofL, rfl, hfL⟩ := hri.fc (k := q) (by rw [HLL.out]; exact hql)
              obtain ⟨bS, ofS, BS, cS, hLS, hfS, hBS, hcS, hcS'⟩ := HV2.out.2.fc (k := q) (by rw [HNL.out.1]; exact hql)
              injection hLS with hLS
              injection hLS with e1 e2
              subst e1 e2
              rw [HRW.out] at hfS hBS hcS
              obtain ⟨bT, ofT, rfl, hfT⟩ := hBS.fc hjl
              have HBS := Lib.hid (show ∀ b2 : Bool, b2 = (b || (nth (lineOf p [r]) q == nth (needRow p q) j)) → (b2 = true ↔ ∃ r', r' < r + 1 ∧ nth (lineOf p [r']) q = nth (needRow p q) j) from fun b2 e => by
                rw [e, Bool.or_eq_true, HB.out]
                constructor
                · rintro (⟨r', h1, h2⟩ | h)
                  · exact ⟨r', by omega, h2⟩
                  · exact ⟨r, by omega, by simpa using h⟩
                · rintro ⟨r', h1, h2⟩
                  by_cases e : r' = r
                  · right; rw [← e]; simpa using h2
                  · left; exact ⟨r', by omega, h2⟩)
              generalize nth (lineOf p [r]) q = a at *
              generalize hk : nth (needRow p q) j = k at *
              have HK := Lib.hid hk
              clear hk
              cases b with
              | true =>
                refine dr_start0 []  hS (by kernel_rfl) rfl ?_; clear hS; intro w hS
                refine dM hS 0 rfl rfl rfl ?_
                (try simp only [Act.put, nA, nB, nC])
                refine dM hS 1 rfl rfl rfl ?_
                (try simp only [Act.put, nA, nB, nC])
                first | refine dM hS 2 rfl rfl rfl ?_ | refine dQ hS 2 rfl rfl ?_
                (try simp only [Act.put, nA, nB, nC])
                first | refine dM hS 3 rfl rfl rfl ?_ | refine dQ hS 3 rfl rfl ?_
                (try simp only [Act.put, nA, nB, nC])
                first | refine dP hS 4 rfl rfl ?_ | refine dQ hS 4 rfl rfl ?_
                (try simp only [Act.put, nA, nB, nC])
                first | refine dP hS 5 rfl rfl ?_ | refine dQ hS 5 rfl rfl ?_
                (try simp only [Act.put, nA, nB, nC])
                first | refine dM hS 6 rfl rfl rfl ?_ | refine dQ hS 6 rfl rfl ?_
                (try simp only [Act.put, nA, nB, nC])
                first | refine dM hS 7 rfl rfl rfl ?_ | refine dQ hS 7 rfl rfl ?_
                (try simp only [Act.put, nA, nB, nC])
                first | refine dM hS 8 rfl rfl rfl ?_ | refine dQ hS 8 rfl rfl ?_
                (try simp only [Act.put, nA, nB, nC])
                first | refine dP hS 9 rfl rfl ?_ | refine dQ hS 9 rfl rfl ?_
                (try simp only [Act.put, nA, nB, nC])
                first | refine dL1 hS 10 rfl rfl rfl rfl ?_ | refine dL2 hS 10 rfl rfl rfl rfl ?_ | refine dL3 hS 10 rfl rfl rfl ?_ | refine dL4 hS 10 rfl rfl rfl ?_ | refine dL5 hS 10 rfl rfl rfl ?_ | refine dL6 hS 10 rfl rfl rfl ?_ | refine dL7 hS 10 rfl rfl rfl ?_ | refine dQ hS 10 rfl rfl ?_
                (try simp only [Act.put, nA, nB, nC])
                first | refine dM hS 11 rfl rfl rfl ?_ | refine dQ hS 11 rfl rfl ?_
                (try simp only [Act.put, nA, nB, nC])
                first | refine dM hS 12 rfl rfl rfl ?_ | refine dQ hS 12 rfl rfl ?_
                (try simp only [Act.put, nA, nB, nC])
                first | refine dP hS 13 rfl rfl ?_ | refine dQ hS 13 rfl rfl ?_
                (try simp only [Act.put, nA, nB, nC])
                first | refine dL1 hS 14 rfl rfl rfl rfl ?_ | refine dL2 hS 14 rfl rfl rfl rfl ?_ | refine dL3 hS 14 rfl rfl rfl ?_ | refine dL4 hS 14 rfl rfl rfl ?_ | refine dL5 hS 14 rfl rfl rfl ?_ | refine dL6 hS 14 rfl rfl rfl ?_ | refine dL7 hS 14 rfl rfl rfl ?_ | refine dQ hS 14 rfl rfl ?_
                (try simp only [Act.put, nA, nB, nC])
                first | refine dM hS 15 rfl rfl rfl ?_ | refine dQ hS 15 rfl rfl ?_
                (try simp only [Act.put, nA, nB, nC])
                first | refine dP hS 16 rfl rfl ?_ | refine dQ hS 16 rfl rfl ?_
                (try simp only [Act.put, nA, nB, nC])
                first | refine dL1 hS 17 rfl rfl rfl rfl ?_ | refine dL2 hS 17 rfl rfl rfl rfl ?_ | refine dL3 hS 17 rfl rfl rfl ?_ | refine dL4 hS 17 rfl rfl rfl ?_ | refine dL5 hS 17 rfl rfl rfl ?_ | refine dL6 hS 17 rfl rfl rfl ?_ | refine dL7 hS 17 rfl rfl rfl ?_ | refine dQ hS 17 rfl rfl ?_
                (try simp only [Act.put, nA, nB, nC])
                first | refine dP hS 18 rfl rfl ?_ | refine dQ hS 18 rfl rfl ?_
                (try simp only [Act.put, nA, nB, nC])
                first | refine dP hS 19 rfl rfl ?_ | refine dQ hS 19 rfl rfl ?_
                (try simp only [Act.put, nA, nB, nC])
                refine dP hS 20 rfl rfl ?_
                (try simp only [Act.put, nA, nB, nC])
                refine dA hS 21 rfl rfl rfl ?_
                (try simp only [Act.put, nA, nB, nC])
                refine dr_done (by kernel_rfl) ?_
                go_wp2_with (first | (refine oL ?_; (first | refine sL1 hS rfl rfl rfl ?_ | refine sL2 hS rfl rfl rfl ?_ | refine sL3 hS rfl rfl ?_ | refine sL4 hS rfl rfl ?_ | refine sL5 hS rfl rfl ?_ | refine sL6 hS rfl rfl ?_ | refine sL7 hS rfl rfl ?_)) | (refine oS ?_; ((first | refine sS1 hS rfl rfl rfl ?_ | refine sS2 hS rfl rfl rfl ?_ | refine sS3 hS rfl rfl rfl ?_ | refine sS4 hS rfl rfl rfl ?_ | refine sS5 hS rfl rfl rfl ?_); clear hS; intro w hS)) | ((first | refine sN1 hS rfl ?_ | (refine oC ?_; first | refine sC0 hS rfl ?_ | refine sC1 hS rfl rfl ?_ | refine sC2 hS rfl rfl ?_ | refine sC3 hS rfl rfl rfl ?_ | refine sC4 hS rfl rfl rfl ?_)); clear hS; first | ((fail_if_success guard_hyp g1); intro g1 w hS) | ((fail_if_success guard_hyp g2); intro g2 w hS) | ((fail_if_success guard_hyp g3); intro g3 w hS) | fail) | fail)
                go_roundw
                case measure => simp [intOf]; omega
                exact ⟨r + 1, true, T2, w2, by omega, by go_num, rfl, Lib.hid (by rw [HK.out]; exact HBS.out true rfl), HV2, hS.re⟩
              | false =>
                have dq : decide ((q : Int) < (p.len.length : Int)) = true := decide_eq_true hql'
                have dqn : decide (q < p.len.length) = true := decide_eq_true hql
                have hsl : (needRow p q).length ≤ 65 := hrl
                refine dr_start0 []  hS (by kernel_rfl) rfl ?_; clear hS; intro w hS
                refine dM hS 0 rfl rfl rfl ?_
                (try simp only [Act.put, nA, nB, nC])
                refine dM hS 1 rfl rfl rfl ?_
                (try simp only [Act.put, nA, nB, nC])
                first | refine dM hS 2 rfl rfl rfl ?_ | refine dQ hS 2 rfl rfl ?_
                (try simp only [Act.put, nA, nB, nC])
                first | refine dM hS 3 rfl rfl rfl ?_ | refine dQ hS 3 rfl rfl ?_
                (try simp only [Act.put, nA, nB, nC])
                first | refine dP hS 4 rfl rfl ?_ | refine dQ hS 4 rfl rfl ?_
                (try simp only [Act.put, nA, nB, nC])
                first | (refine dP hS 5 rfl rfl ?_; try (first | rw [dq] | rw [dqn])) | refine dP hS 5 rfl rfl ?_ | refine dQ hS 5 rfl rfl ?_
                (try simp only [Act.put, nA, nB, nC])
                first | refine dM hS 6 rfl rfl rfl ?_ | refine dQ hS 6 rfl rfl ?_
                (try simp only [Act.put, nA, nB, nC])
                first | refine dM hS 7 rfl rfl rfl ?_ | refine dQ hS 7 rfl rfl ?_
                (try simp only [Act.put, nA, nB, nC])
                first | refine dM hS 8 rfl rfl rfl ?_ | refine dQ hS 8 rfl rfl ?_
                (try simp only [Act.put, nA, nB, nC])
                first | refine dP hS 9 rfl rfl ?_ | refine dQ hS 9 rfl rfl ?_
                (try simp only [Act.put, nA, nB, nC])
                first | refine dL1 hS 10 rfl rfl rfl rfl ?_ | refine dL2 hS 10 rfl rfl rfl rfl ?_ | refine dL3 hS 10 rfl rfl rfl ?_ | refine dL4 hS 10 rfl rfl rfl ?_ | refine dL5 hS 10 rfl rfl rfl ?_ | refine dL6 hS 10 rfl rfl rfl ?_ | refine dL7 hS 10 rfl rfl rfl ?_ | refine dQ hS 10 rfl rfl ?_
                (try simp only [Act.put, nA, nB, nC])
                first | refine dM hS 11 rfl rfl rfl ?_ | refine dQ hS 11 rfl rfl ?_
                (try simp only [Act.put, nA, nB, nC])
                first | refine dM hS 12 rfl rfl rfl ?_ | refine dQ hS 12 rfl rfl ?_
                (try simp only [Act.put, nA, nB, nC])
                first | refine dP hS 13 rfl rfl ?_ | refine dQ hS 13 rfl rfl ?_
                (try simp only [Act.put, nA, nB, nC])
                first | refine dL1 hS 14 rfl rfl rfl rfl ?_ | refine dL2 hS 14 rfl rfl rfl rfl ?_ | refine dL3 hS 14 rfl rfl rfl ?_ | refine dL4 hS 14 rfl rfl rfl ?_ | refine dL5 hS 14 rfl rfl rfl ?_ | refine dL6 hS 14 rfl rfl rfl ?_ | refine dL7 hS 14 rfl rfl rfl ?_ | refine dQ hS 14 rfl rfl ?_
                (try simp only [Act.put, nA, nB, nC])
                first | refine dM hS 15 rfl rfl rfl ?_ | refine dQ hS 15 rfl rfl ?_
                (try simp only [Act.put, nA, nB, nC])
                first | refine dP hS 16 rfl rfl ?_ | refine dQ hS 16 rfl rfl ?_
                (try simp only [Act.put, nA, nB, nC])
                first | refine dL1 hS 17 rfl rfl rfl rfl ?_ | refine dL2 hS 17 rfl rfl rfl rfl ?_ | refine dL3 hS 17 rfl rfl rfl ?_ | refine dL4 hS 17 rfl rfl rfl ?_ | refine dL5 hS 17 rfl rfl rfl ?_ | refine dL6 hS 17 rfl rfl rfl ?_ | refine dL7 hS 17 rfl rfl rfl ?_ | refine dQ hS 17 rfl rfl ?_
                (try simp only [Act.put, nA, nB, nC])
                first | refine dP hS 18 rfl rfl ?_ | refine dQ hS 18 rfl rfl ?_
                (try simp only [Act.put, nA, nB, nC])
                first | refine dP hS 19 rfl rfl ?_ | refine dQ hS 19 rfl rfl ?_
                (try simp only [Act.put, nA, nB, nC])
                refine dP hS 20 rfl rfl ?_
                (try simp only [Act.put, nA, nB, nC])
                refine dA hS 21 rfl rfl rfl ?_
                (try simp only [Act.put, nA, nB, nC])
                refine dr_done (by kernel_rfl) ?_
                go_wp2_with (first | (refine oL ?_; (first | refine sL1 hS rfl rfl rfl ?_ | refine sL2 hS rfl rfl rfl ?_ | refine sL3 hS rfl rfl ?_ | refine sL4 hS rfl rfl ?_ | refine sL5 hS rfl rfl ?_ | refine sL6 hS rfl rfl ?_ | refine sL7 hS rfl rfl ?_)) | (refine oS ?_; ((first | refine sS1 hS rfl rfl rfl ?_ | refine sS2 hS rfl rfl rfl ?_ | refine sS3 hS rfl rfl rfl ?_ | refine sS4 hS rfl rfl rfl ?_ | refine sS5 hS rfl rfl rfl ?_); clear hS; intro w hS)) | ((first | refine sN1 hS rfl ?_ | (refine oC ?_; first | refine sC0 hS rfl ?_ | refine sC1 hS rfl rfl ?_ | refine sC2 hS rfl rfl ?_ | refine sC3 hS rfl rfl rfl ?_ | refine sC4 hS rfl rfl rfl ?_)); clear hS; first | ((fail_if_success guard_hyp g1); intro g1 w hS) | ((fail_if_success guard_hyp g2); intro g2 w hS) | ((fail_if_success guard_hyp g3); intro g3 w hS) | fail) | fail)
                go_roundw
                case measure => simp [intOf]; omega
                exact ⟨r + 1, _, T2, w2, by omega, by go_num, rfl, Lib.hid (by rw [HK.out]; exact HBS.out _ (by simp)), HV2, hS.re⟩
            · have hrl' : ¬ (r : Int) < p.len.length := by omega
              have hbt : b = true := HB.out.2 (by obtain ⟨_, r', h1, h2⟩ := HAT.out; exact ⟨r', by omega, h2⟩)
              subst hbt
              obtain ⟨bS, ofS, BS, cS, hLS, hfS, hBS, hcS, hcS'⟩ := HV.out.2.fc (k := q) (by rw [HNL.out.1]; exact hql)
              injection hLS with hLS
              injection hLS with e1 e2
              subst e1 e2
              rw [HRW.out] at hfS hBS hcS
              obtain ⟨bT, ofT, rfl, hfT⟩ := hBS.fc hjl
              obtain ⟨bC, ofC, BC, cC, hA2, hfC, hBC, hcC, hcC'⟩ := HV.out.1.ck.fc (k := q) (by omega)
              simp only at hA2
              subst hA2
              have HMEM := Lib.hid (show decide (nth (needRow p q) j ∈ rowOf p.ck q) = true from decide_eq_true HAT.out.1)
              have hcl := HG.out.rowLen hql
              have dc : decide (p.ck.length ≤ q) = false := decide_eq_false (by omega)
              by_cases hj0 : 0 < j
              · have hj1 : j - 1 < (needRow p q).length := by omega
                obtain ⟨_, _, e9, hfU⟩ := hBS.fc hj1
                injection e9 with e9
                injection e9 with e8 e9
                subst e8 e9
                have hlt : nth (needRow p q) (j - 1) < nth (needRow p q) j := by
                  rw [nth_eq hj1, nth_eq hjl]
                  exact List.pairwise_iff_getElem.1 HAS.out (j - 1) j hj1 hjl (by omega)
                have hj1z : ((j : Int) - 1) = ((j - 1 : Nat) : Int) := by omega
                generalize rowOf p.ck q = lc at *
                generalize nth (needRow p q) (j - 1) = k1 at *
                generalize hk : nth (needRow p q) j = k at *
                have HK := Lib.hid hk
                clear hk
                have dl : decide (k ≤ k1) = false := decide_eq_false (by omega)
                have djn : decide (0 < j) = true := decide_eq_true hj0
                go_upto_region 17 with (first | (refine oL ?_; (first | refine sL1 hS rfl rfl rfl ?_ | refine sL2 hS rfl rfl rfl ?_ | refine sL3 hS rfl rfl ?_ | refine sL4 hS rfl rfl ?_ | refine sL5 hS rfl rfl ?_ | refine sL6 hS rfl rfl ?_ | refine sL7 hS rfl rfl ?_)) | (refine oS ?_; ((first | refine sS1 hS rfl rfl rfl ?_ | refine sS2 hS rfl rfl rfl ?_ | refine sS3 hS rfl rfl rfl ?_ | refine sS4 hS rfl rfl rfl ?_ | refine sS5 hS rfl rfl rfl ?_); clear hS; intro w hS)) | ((first | refine sN1 hS rfl ?_ | (refine oC ?_; first | refine sC0 hS rfl ?_ | refine sC1 hS rfl rfl ?_ | refine sC2 hS rfl rfl ?_ | refine sC3 hS rfl rfl rfl ?_ | refine sC4 hS rfl rfl rfl ?_)); clear hS; first | ((fail_if_success guard_hyp g1); intro g1 w hS) | ((fail_if_success guard_hyp g2); intro g2 w hS) | ((fail_if_success guard_hyp g3); intro g3 w hS) | fail) | fail)
                refine dr_start0 []  hS (by kernel_rfl) rfl ?_; clear hS; intro w hS
                refine dM hS 0 rfl rfl rfl ?_
                (try simp only [Act.put, nA, nB, nC])
                refine dP hS 1 rfl rfl ?_
                (try simp only [Act.put, nA, nB, nC])
                refine dM hS 2 rfl rfl rfl ?_
                (try simp only [Act.put, nA, nB, nC])
                first | refine dM hS 3 rfl rfl rfl ?_ | refine dQ hS 3 rfl rfl ?_
                (try simp only [Act.put, nA, nB, nC])
                first | refine dP hS 4 rfl rfl ?_ | refine dQ hS 4 rfl rfl ?_
                (try simp only [Act.put, nA, nB, nC])
                first | refine dL1 hS 5 rfl rfl rfl rfl ?_ | refine dL2 hS 5 rfl rfl rfl rfl ?_ | refine dL3 hS 5 rfl rfl rfl ?_ | refine dL4 hS 5 rfl rfl rfl ?_ | refine dL5 hS 5 rfl rfl rfl ?_ | refine dL6 hS 5 rfl rfl rfl ?_ | refine dL7 hS 5 rfl rfl rfl ?_ | refine dQ hS 5 rfl rfl ?_
                (try simp only [Act.put, nA, nB, nC])
                first | refine dP hS 6 rfl rfl ?_ | refine dQ hS 6 rfl rfl ?_
                (try simp only [Act.put, nA, nB, nC])
                first | refine dP hS 7 rfl rfl ?_ | refine dQ hS 7 rfl rfl ?_
                (try simp only [Act.put, nA, nB, nC])
                refine dP hS 8 rfl rfl ?_
                (try simp only [Act.put, nA, nB, nC])
                refine dM hS 9 rfl rfl rfl ?_
                (try simp only [Act.put, nA, nB, nC])
                first | refine dP hS 10 rfl rfl ?_ | refine dQ hS 10 rfl rfl ?_
                (try simp only [Act.put, nA, nB, nC])
                first | refine dL1 hS 11 rfl rfl rfl rfl ?_ | refine dL2 hS 11 rfl rfl rfl rfl ?_ | refine dL3 hS 11 rfl rfl rfl ?_ | refine dL4 hS 11 rfl rfl rfl ?_ | refine dL5 hS 11 rfl rfl rfl ?_ | refine dL6 hS 11 rfl rfl rfl ?_ | refine dL7 hS 11 rfl rfl rfl ?_ | refine dQ hS 11 rfl rfl ?_
                (try simp only [Act.put, nA, nB, nC])
                first | refine dM hS 12 rfl rfl rfl ?_ | refine dQ hS 12 rfl rfl ?_
                (try simp only [Act.put, nA, nB, nC])
                first | refine dP hS 13 rfl rfl ?_ | refine dQ hS 13 rfl rfl ?_
                (try simp only [Act.put, nA, nB, nC])
                first | refine dL1 hS 14 rfl rfl rfl rfl ?_ | refine dL2 hS 14 rfl rfl rfl rfl ?_ | refine dL3 hS 14 rfl rfl rfl ?_ | refine dL4 hS 14 rfl rfl rfl ?_ | refine dL5 hS 14 rfl rfl rfl ?_ | refine dL6 hS 14 rfl rfl rfl ?_ | refine dL7 hS 14 rfl rfl rfl ?_ | refine dQ hS 14 rfl rfl ?_
                (try simp only [Act.put, nA, nB, nC])
                first | refine dM hS 15 rfl rfl rfl ?_ | refine dQ hS 15 rfl rfl ?_
                (try simp only [Act.put, nA, nB, nC])
                first | refine dM hS 16 rfl rfl rfl ?_ | refine dQ hS 16 rfl rfl ?_
                (try simp only [Act.put, nA, nB, nC])
                first | refine dP hS 17 rfl rfl ?_ | refine dQ hS 17 rfl rfl ?_
                (try simp only [Act.put, nA, nB, nC])
                first | refine dL1 hS 18 rfl rfl rfl rfl ?_ | refine dL2 hS 18 rfl rfl rfl rfl ?_ | refine dL3 hS 18 rfl rfl rfl ?_ | refine dL4 hS 18 rfl rfl rfl ?_ | refine dL5 hS 18 rfl rfl rfl ?_ | refine dL6 hS 18 rfl rfl rfl ?_ | refine dL7 hS 18 rfl rfl rfl ?_ | refine dQ hS 18 rfl rfl ?_
                (try simp only [Act.put, nA, nB, nC])
                first | refine dM hS 19 rfl rfl rfl ?_ | refine dQ hS 19 rfl rfl ?_
                (try simp only [Act.put, nA, nB, nC])
                first | refine dP hS 20 rfl rfl ?_ | refine dQ hS 20 rfl rfl ?_
                (try simp only [Act.put, nA, nB, nC])
                first | refine dL1 hS 21 rfl rfl rfl rfl ?_ | refine dL2 hS 21 rfl rfl rfl rfl ?_ | refine dL3 hS 21 rfl rfl rfl ?_ | refine dL4 hS 21 rfl rfl rfl ?_ | refine dL5 hS 21 rfl rfl rfl ?_ | refine dL6 hS 21 rfl rfl rfl ?_ | refine dL7 hS 21 rfl rfl rfl ?_ | refine dQ hS 21 rfl rfl ?_
                (try simp only [Act.put, nA, nB, nC])
                refine dr_one 22 (by kernel_rfl) rfl ?_
                (refine st_call rfl (by kernel_rfl) rfl ?_; go_at_call 20; refine (lin_any BC cC lc.length lc k _ (hBC.into hS.frozInto) rfl (by omega)).mono ?_; rintro e w ⟨rfl, hx1⟩; replace hS := hS.ext hx1; rw [HMEM.out])
                (try simp only [Act.put, nA, nB, nC])
                refine dr_end hS ?_
                first | refine dP hS 23 rfl rfl ?_ | refine dQ hS 23 rfl rfl ?_
                (try simp only [Act.put, nA, nB, nC])
                refine dP hS 24 rfl rfl ?_
                (try simp only [Act.put, nA, nB, nC])
                refine dM hS 25 rfl rfl rfl ?_
                (try simp only [Act.put, nA, nB, nC])
                first | refine dM hS 26 rfl rfl rfl ?_ | refine dQ hS 26 rfl rfl ?_
                (try simp only [Act.put, nA, nB, nC])
                first | refine dP hS 27 rfl rfl ?_ | refine dQ hS 27 rfl rfl ?_
                (try simp only [Act.put, nA, nB, nC])
                first | refine dM hS 28 rfl rfl rfl ?_ | refine dQ hS 28 rfl rfl ?_
                (try simp only [Act.put, nA, nB, nC])
                first | refine dM hS 29 rfl rfl rfl ?_ | refine dQ hS 29 rfl rfl ?_
                (try simp only [Act.put, nA, nB, nC])
                first | refine dM hS 30 rfl rfl rfl ?_ | refine dQ hS 30 rfl rfl ?_
                (try simp only [Act.put, nA, nB, nC])
                first | refine dP hS 31 rfl rfl ?_ | refine dQ hS 31 rfl rfl ?_
                (try simp only [Act.put, nA, nB, nC])
                first | refine dL1 hS 32 rfl rfl rfl rfl ?_ | refine dL2 hS 32 rfl rfl rfl rfl ?_ | refine dL3 hS 32 rfl rfl rfl ?_ | refine dL4 hS 32 rfl rfl rfl ?_ | refine dL5 hS 32 rfl rfl rfl ?_ | refine dL6 hS 32 rfl rfl rfl ?_ | refine dL7 hS 32 rfl rfl rfl ?_ | refine dQ hS 32 rfl rfl ?_
                (try simp only [Act.put, nA, nB, nC])
                first | refine dM hS 33 rfl rfl rfl ?_ | refine dQ hS 33 rfl rfl ?_
                (try simp only [Act.put, nA, nB, nC])
                first | refine dP hS 34 rfl rfl ?_ | refine dQ hS 34 rfl rfl ?_
                (try simp only [Act.put, nA, nB, nC])
                first | refine dL1 hS 35 rfl rfl rfl rfl ?_ | refine dL2 hS 35 rfl rfl rfl rfl ?_ | refine dL3 hS 35 rfl rfl rfl ?_ | refine dL4 hS 35 rfl rfl rfl ?_ | refine dL5 hS 35 rfl rfl rfl ?_ | refine dL6 hS 35 rfl rfl rfl ?_ | refine dL7 hS 35 rfl rfl rfl ?_ | refine dQ hS 35 rfl rfl ?_
                (try simp only [Act.put, nA, nB, nC])
                first | refine dM hS 36 rfl rfl rfl ?_ | refine dQ hS 36 rfl rfl ?_
                (try simp only [Act.put, nA, nB, nC])
                first | refine dM hS 37 rfl rfl rfl ?_ | refine dQ hS 37 rfl rfl ?_
                (try simp only [Act.put, nA, nB, nC])
                first | refine dP hS 38 rfl rfl ?_ | refine dQ hS 38 rfl rfl ?_
                (try simp only [Act.put, nA, nB, nC])
                first | refine dL1 hS 39 rfl rfl rfl rfl ?_ | refine dL2 hS 39 rfl rfl rfl rfl ?_ | refine dL3 hS 39 rfl rfl rfl ?_ | refine dL4 hS 39 rfl rfl rfl ?_ | refine dL5 hS 39 rfl rfl rfl ?_ | refine dL6 hS 39 rfl rfl rfl ?_ | refine dL7 hS 39 rfl rfl rfl ?_ | refine dQ hS 39 rfl rfl ?_
                (try simp only [Act.put, nA, nB, nC])
                first | refine dM hS 40 rfl rfl rfl ?_ | refine dQ hS 40 rfl rfl ?_
                (try simp only [Act.put, nA, nB, nC])
                first | refine dP hS 41 rfl rfl ?_ | refine dQ hS 41 rfl rfl ?_
                (try simp only [Act.put, nA, nB, nC])
                first | refine dP hS 42 rfl rfl ?_ | refine dQ hS 42 rfl rfl ?_
                (try simp only [Act.put, nA, nB, nC])
                first | refine dL1 hS 43 rfl rfl rfl rfl ?_ | refine dL2 hS 43 rfl rfl rfl rfl ?_ | refine dL3 hS 43 rfl rfl rfl ?_ | refine dL4 hS 43 rfl rfl rfl ?_ | refine dL5 hS 43 rfl rfl rfl ?_ | refine dL6 hS 43 rfl rfl rfl ?_ | refine dL7 hS 43 rfl rfl rfl ?_ | refine dQ hS 43 rfl rfl ?_
                (try simp only [Act.put, nA, nB, nC])
                first | refine dP hS 44 rfl rfl ?_ | refine dQ hS 44 rfl rfl ?_
                (try simp only [Act.put, nA, nB, nC])
                first | refine dP hS 45 rfl rfl ?_ | refine dQ hS 45 rfl rfl ?_
                (try simp only [Act.put, nA, nB, nC])
                refine dP hS 46 rfl rfl ?_
                (try simp only [Act.put, nA, nB, nC])
                refine dr_done (by kernel_rfl) ?_
                go_wp2_with (first | (refine oL ?_; (first | refine sL1 hS rfl rfl rfl ?_ | refine sL2 hS rfl rfl rfl ?_ | refine sL3 hS rfl rfl ?_ | refine sL4 hS rfl rfl ?_ | refine sL5 hS rfl rfl ?_ | refine sL6 hS rfl rfl ?_ | refine sL7 hS rfl rfl ?_)) | (refine oS ?_; ((first | refine sS1 hS rfl rfl rfl ?_ | refine sS2 hS rfl rfl rfl ?_ | refine sS3 hS rfl rfl rfl ?_ | refine sS4 hS rfl rfl rfl ?_ | refine sS5 hS rfl rfl rfl ?_); clear hS; intro w hS)) | ((first | refine sN1 hS rfl ?_ | (refine oC ?_; first | refine sC0 hS rfl ?_ | refine sC1 hS rfl rfl ?_ | refine sC2 hS rfl rfl ?_ | refine sC3 hS rfl rfl rfl ?_ | refine sC4 hS rfl rfl rfl ?_)); clear hS; first | ((fail_if_success guard_hyp g1); intro g1 w hS) | ((fail_if_success guard_hyp g2); intro g2 w hS) | ((fail_if_success guard_hyp g3); intro g3 w hS) | fail) | fail)
                go_roundw
                case measure => simp [intOf]; omega
                exact ⟨j + 1, T, u, by omega, by go_num, HV, hS.re⟩
              · generalize rowOf p.ck q = lc at *
                generalize hk : nth (needRow p q) j = k at *
                clear hk
                have djn : decide (0 < j) = false := decide_eq_false hj0
                go_upto_region 17 with (first | (refine oL ?_; (first | refine sL1 hS rfl rfl rfl ?_ | refine sL2 hS rfl rfl rfl ?_ | refine sL3 hS rfl rfl ?_ | refine sL4 hS rfl rfl ?_ | refine sL5 hS rfl rfl ?_ | refine sL6 hS rfl rfl ?_ | refine sL7 hS rfl rfl ?_)) | (refine oS ?_; ((first | refine sS1 hS rfl rfl rfl ?_ | refine sS2 hS rfl rfl rfl ?_ | refine sS3 hS rfl rfl rfl ?_ | refine sS4 hS rfl rfl rfl ?_ | refine sS5 hS rfl rfl rfl ?_); clear hS; intro w hS)) | ((first | refine sN1 hS rfl ?_ | (refine oC ?_; first | refine sC0 hS rfl ?_ | refine sC1 hS rfl rfl ?_ | refine sC2 hS rfl rfl ?_ | refine sC3 hS rfl rfl rfl ?_ | refine sC4 hS rfl rfl rfl ?_)); clear hS; first | ((fail_if_success guard_hyp g1); intro g1 w hS) | ((fail_if_success guard_hyp g2); intro g2 w hS) | ((fail_if_success guard_hyp g3); intro g3 w hS) | fail) | fail)
                refine dr_start0 []  hS (by kernel_rfl) rfl ?_; clear hS; intro w hS
                refine dM hS 0 rfl rfl rfl ?_
                (try simp only [Act.put, nA, nB, nC])
                refine dP hS 1 rfl rfl ?_
                (try simp only [Act.put, nA, nB, nC])
                refine dM hS 2 rfl rfl rfl ?_
                (try simp only [Act.put, nA, nB, nC])
                first | refine dM hS 3 rfl rfl rfl ?_ | refine dQ hS 3 rfl rfl ?_
                (try simp only [Act.put, nA, nB, nC])
                first | refine dP hS 4 rfl rfl ?_ | refine dQ hS 4 rfl rfl ?_
                (try simp only [Act.put, nA, nB, nC])
                first | refine dL1 hS 5 rfl rfl rfl rfl ?_ | refine dL2 hS 5 rfl rfl rfl rfl ?_ | refine dL3 hS 5 rfl rfl rfl ?_ | refine dL4 hS 5 rfl rfl rfl ?_ | refine dL5 hS 5 rfl rfl rfl ?_ | refine dL6 hS 5 rfl rfl rfl ?_ | refine dL7 hS 5 rfl rfl rfl ?_ | refine dQ hS 5 rfl rfl ?_
                (try simp only [Act.put, nA, nB, nC])
                first | refine dP hS 6 rfl rfl ?_ | refine dQ hS 6 rfl rfl ?_
                (try simp only [Act.put, nA, nB, nC])
                first | refine dP hS 7 rfl rfl ?_ | refine dQ hS 7 rfl rfl ?_
                (try simp only [Act.put, nA, nB, nC])
                refine dP hS 8 rfl rfl ?_
                (try simp only [Act.put, nA, nB, nC])
                refine dM hS 9 rfl rfl rfl ?_
                (try simp only [Act.put, nA, nB, nC])
                first | refine dP hS 10 rfl rfl ?_ | refine dQ hS 10 rfl rfl ?_
                (try simp only [Act.put, nA, nB, nC])
                first | refine dL1 hS 11 rfl rfl rfl rfl ?_ | refine dL2 hS 11 rfl rfl rfl rfl ?_ | refine dL3 hS 11 rfl rfl rfl ?_ | refine dL4 hS 11 rfl rfl rfl ?_ | refine dL5 hS 11 rfl rfl rfl ?_ | refine dL6 hS 11 rfl rfl rfl ?_ | refine dL7 hS 11 rfl rfl rfl ?_ | refine dQ hS 11 rfl rfl ?_
                (try simp only [Act.put, nA, nB, nC])
                first | refine dM hS 12 rfl rfl rfl ?_ | refine dQ hS 12 rfl rfl ?_
                (try simp only [Act.put, nA, nB, nC])
                first | refine dP hS 13 rfl rfl ?_ | refine dQ hS 13 rfl rfl ?_
                (try simp only [Act.put, nA, nB, nC])
                first | refine dL1 hS 14 rfl rfl rfl rfl ?_ | refine dL2 hS 14 rfl rfl rfl rfl ?_ | refine dL3 hS 14 rfl rfl rfl ?_ | refine dL4 hS 14 rfl rfl rfl ?_ | refine dL5 hS 14 rfl rfl rfl ?_ | refine dL6 hS 14 rfl rfl rfl ?_ | refine dL7 hS 14 rfl rfl rfl ?_ | refine dQ hS 14 rfl rfl ?_
                (try simp only [Act.put, nA, nB, nC])
                first | refine dM hS 15 rfl rfl rfl ?_ | refine dQ hS 15 rfl rfl ?_
                (try simp only [Act.put, nA, nB, nC])
                first | refine dM hS 16 rfl rfl rfl ?_ | refine dQ hS 16 rfl rfl ?_
                (try simp only [Act.put, nA, nB, nC])
                first | refine dP hS 17 rfl rfl ?_ | refine dQ hS 17 rfl rfl ?_
                (try simp only [Act.put, nA, nB, nC])
                first | refine dL1 hS 18 rfl rfl rfl rfl ?_ | refine dL2 hS 18 rfl rfl rfl rfl ?_ | refine dL3 hS 18 rfl rfl rfl ?_ | refine dL4 hS 18 rfl rfl rfl ?_ | refine dL5 hS 18 rfl rfl rfl ?_ | refine dL6 hS 18 rfl rfl rfl ?_ | refine dL7 hS 18 rfl rfl rfl ?_ | refine dQ hS 18 rfl rfl ?_
                (try simp only [Act.put, nA, nB, nC])
                first | refine dM hS 19 rfl rfl rfl ?_ | refine dQ hS 19 rfl rfl ?_
                (try simp only [Act.put, nA, nB, nC])
                first | refine dP hS 20 rfl rfl ?_ | refine dQ hS 20 rfl rfl ?_
                (try simp only [Act.put, nA, nB, nC])
                first | refine dL1 hS 21 rfl rfl rfl rfl ?_ | refine dL2 hS 21 rfl rfl rfl rfl ?_ | refine dL3 hS 21 rfl rfl rfl ?_ | refine dL4 hS 21 rfl rfl rfl ?_ | refine dL5 hS 21 rfl rfl rfl ?_ | refine dL6 hS 21 rfl rfl rfl ?_ | refine dL7 hS 21 rfl rfl rfl ?_ | refine dQ hS 21 rfl rfl ?_
                (try simp only [Act.put, nA, nB, nC])
                refine dr_one 22 (by kernel_rfl) rfl ?_
                (refine st_call rfl (by kernel_rfl) rfl ?_; go_at_call 20; refine (lin_any BC cC lc.length lc k _ (hBC.into hS.frozInto) rfl (by omega)).mono ?_; rintro e w ⟨rfl, hx1⟩; replace hS := hS.ext hx1; rw [HMEM.out])
                (try simp only [Act.put, nA, nB, nC])
                refine dr_end hS ?_
                first | refine dP hS 23 rfl rfl ?_ | refine dQ hS 23 rfl rfl ?_
                (try simp only [Act.put, nA, nB, nC])
                refine dP hS 24 rfl rfl ?_
                (try simp only [Act.put, nA, nB, nC])
                refine dM hS 25 rfl rfl rfl ?_
                (try simp only [Act.put, nA, nB, nC])
                first | refine dM hS 26 rfl rfl rfl ?_ | refine dQ hS 26 rfl rfl ?_
                (try simp only [Act.put, nA, nB, nC])
                first | refine dP hS 27 rfl rfl ?_ | refine dQ hS 27 rfl rfl ?_
                (try simp only [Act.put, nA, nB, nC])
                first | refine dM hS 28 rfl rfl rfl ?_ | refine dQ hS 28 rfl rfl ?_
                (try simp only [Act.put, nA, nB, nC])
                first | refine dM hS 29 rfl rfl rfl ?_ | refine dQ hS 29 rfl rfl ?_
                (try simp only [Act.put, nA, nB, nC])
                first | refine dM hS 30 rfl rfl rfl ?_ | refine dQ hS 30 rfl rfl ?_
                (try simp only [Act.put, nA, nB, nC])
                first | refine dP hS 31 rfl rfl ?_ | refine dQ hS 31 rfl rfl ?_
                (try simp only [Act.put, nA, nB, nC])
                first | refine dL1 hS 32 rfl rfl rfl rfl ?_ | refine dL2 hS 32 rfl rfl rfl rfl ?_ | refine dL3 hS 32 rfl rfl rfl ?_ | refine dL4 hS 32 rfl rfl rfl ?_ | refine dL5 hS 32 rfl rfl rfl ?_ | refine dL6 hS 32 rfl rfl rfl ?_ | refine dL7 hS 32 rfl rfl rfl ?_ | refine dQ hS 32 rfl rfl ?_
                (try simp only [Act.put, nA, nB, nC])
                first | refine dM hS 33 rfl rfl rfl ?_ | refine dQ hS 33 rfl rfl ?_
                (try simp only [Act.put, nA, nB, nC])
                first | refine dP hS 34 rfl rfl ?_ | refine dQ hS 34 rfl rfl ?_
                (try simp only [Act.put, nA, nB, nC])
                first | refine dL1 hS 35 rfl rfl rfl rfl ?_ | refine dL2 hS 35 rfl rfl rfl rfl ?_ | refine dL3 hS 35 rfl rfl rfl ?_ | refine dL4 hS 35 rfl rfl rfl ?_ | refine dL5 hS 35 rfl rfl rfl ?_ | refine dL6 hS 35 rfl rfl rfl ?_ | refine dL7 hS 35 rfl rfl rfl ?_ | refine dQ hS 35 rfl rfl ?_
                (try simp only [Act.put, nA, nB, nC])
                first | refine dM hS 36 rfl rfl rfl ?_ | refine dQ hS 36 rfl rfl ?_
                (try simp only [Act.put, nA, nB, nC])
                first | refine dM hS 37 rfl rfl rfl ?_ | refine dQ hS 37 rfl rfl ?_
                (try simp only [Act.put, nA, nB, nC])
                first | refine dP hS 38 rfl rfl ?_ | refine dQ hS 38 rfl rfl ?_
                (try simp only [Act.put, nA, nB, nC])
                first | refine dL1 hS 39 rfl rfl rfl rfl ?_ | refine dL2 hS 39 rfl rfl rfl rfl ?_ | refine dL3 hS 39 rfl rfl rfl ?_ | refine dL4 hS 39 rfl rfl rfl ?_ | refine dL5 hS 39 rfl rfl rfl ?_ | refine dL6 hS 39 rfl rfl rfl ?_ | refine dL7 hS 39 rfl rfl rfl ?_ | refine dQ hS 39 rfl rfl ?_
                (try simp only [Act.put, nA, nB, nC])
                first | refine dM hS 40 rfl rfl rfl ?_ | refine dQ hS 40 rfl rfl ?_
                (try simp only [Act.put, nA, nB, nC])
                first | refine dP hS 41 rfl rfl ?_ | refine dQ hS 41 rfl rfl ?_
                (try simp only [Act.put, nA, nB, nC])
                first | refine dP hS 42 rfl rfl ?_ | refine dQ hS 42 rfl rfl ?_
                (try simp only [Act.put, nA, nB, nC])
                first | refine dL1 hS 43 rfl rfl rfl rfl ?_ | refine dL2 hS 43 rfl rfl rfl rfl ?_ | refine dL3 hS 43 rfl rfl rfl ?_ | refine dL4 hS 43 rfl rfl rfl ?_ | refine dL5 hS 43 rfl rfl rfl ?_ | refine dL6 hS 43 rfl rfl rfl ?_ | refine dL7 hS 43 rfl rfl rfl ?_ | refine dQ hS 43 rfl rfl ?_
                (try simp only [Act.put, nA, nB, nC])
                first | refine dP hS 44 rfl rfl ?_ | refine dQ hS 44 rfl rfl ?_
                (try simp only [Act.put, nA, nB, nC])
                first | refine dP hS 45 rfl rfl ?_ | refine dQ hS 45 rfl rfl ?_
                (try simp only [Act.put, nA, nB, nC])
                refine dP hS 46 rfl rfl ?_
                (try simp only [Act.put, nA, nB, nC])
                refine dr_done (by kernel_rfl) ?_
                go_wp2_with (first | (refine oL ?_; (first | refine sL1 hS rfl rfl rfl ?_ | refine sL2 hS rfl rfl rfl ?_ | refine sL3 hS rfl rfl ?_ | refine sL4 hS rfl rfl ?_ | refine sL5 hS rfl rfl ?_ | refine sL6 hS rfl rfl ?_ | refine sL7 hS rfl rfl ?_)) | (refine oS ?_; ((first | refine sS1 hS rfl rfl rfl ?_ | refine sS2 hS rfl rfl rfl ?_ | refine sS3 hS rfl rfl rfl ?_ | refine sS4 hS rfl rfl rfl ?_ | refine sS5 hS rfl rfl rfl ?_); clear hS; intro w hS)) | ((first | refine sN1 hS rfl ?_ | (refine oC ?_; first | refine sC0 hS rfl ?_ | refine sC1 hS rfl rfl ?_ | refine sC2 hS rfl rfl ?_ | refine sC3 hS rfl rfl rfl ?_ | refine sC4 hS rfl rfl rfl ?_)); clear hS; first | ((fail_if_success guard_hyp g1); intro g1 w hS) | ((fail_if_success guard_hyp g2); intro g2 w hS) | ((fail_if_success guard_hyp g3); intro g3 w hS) | fail) | fail)
                go_roundw
                case measure => simp [intOf]; omega
                exact ⟨j + 1, T, u, by omega, by go_num, HV, hS.re⟩
        · have hjl' : ¬ (j : Int) < (needRow p q).length := by omega
          go_wp2_with (first | (refine oL ?_; (first | refine sL1 hS rfl rfl rfl ?_ | refine sL2 hS rfl rfl rfl ?_ | refine sL3 hS rfl rfl ?_ | refine sL4 hS rfl rfl ?_ | refine sL5 hS rfl rfl ?_ | refine sL6 hS rfl rfl ?_ | refine sL7 hS rfl rfl ?_)) | (refine oS ?_; ((first | refine sS1 hS rfl rfl rfl ?_ | refine sS2 hS rfl rfl rfl ?_ | refine sS3 hS rfl rfl rfl ?_ | refine sS4 hS rfl rfl rfl ?_ | refine sS5 hS rfl rfl rfl ?_); clear hS; intro w hS)) | ((first | refine sN1 hS rfl ?_ | (refine oC ?_; first | refine sC0 hS rfl ?_ | refine sC1 hS rfl rfl ?_ | refine sC2 hS rfl rfl ?_ | refine sC3 hS rfl rfl rfl ?_ | refine sC4 hS rfl rfl rfl ?_)); clear hS; first | ((fail_if_success guard_hyp g1); intro g1 w hS) | ((fail_if_success guard_hyp g2); intro g2 w hS) | ((fail_if_success guard_hyp g3); intro g3 w hS) | fail) | fail)
          go_roundw
          case measure => simp [intOf]; omega
          exact ⟨q + 1, T, u, by omega, by go_num, HV, hS⟩
    · have HE2 := Lib.hid (show q = p.len.length by omega)
      have hql' : ¬ (q : Int) < p.len.length := by omega
      have en : ((p.len.length : Int) == (p.len.length : Int)) = true := by simp
      go_wp2_with (first | (refine oL ?_; (first | refine sL1 hS rfl rfl rfl ?_ | refine sL2 hS rfl rfl rfl ?_ | refine sL3 hS rfl rfl ?_ | refine sL4 hS rfl rfl ?_ | refine sL5 hS rfl rfl ?_ | refine sL6 hS rfl rfl ?_ | refine sL7 hS rfl rfl ?_)) | (refine oS ?_; ((first | refine sS1 hS rfl rfl rfl ?_ | refine sS2 hS rfl rfl rfl ?_ | refine sS3 hS rfl rfl rfl ?_ | refine sS4 hS rfl rfl rfl ?_ | refine sS5 hS rfl rfl rfl ?_); clear hS; intro w hS)) | ((first | refine sN1 hS rfl ?_ | (refine oC ?_; first | refine sC0 hS rfl ?_ | refine sC1 hS rfl rfl ?_ | refine sC2 hS rfl rfl ?_ | refine sC3 hS rfl rfl rfl ?_ | refine sC4 hS rfl rfl rfl ?_)); clear hS; first | ((fail_if_success guard_hyp g1); intro g1 w hS) | ((fail_if_success guard_hyp g2); intro g2 w hS) | ((fail_if_success guard_hyp g3); intro g3 w hS) | fail) | fail)
      go_ret
      exact ⟨by simp, hS.toExt⟩
open Go.ChangeShapes Go.WideShapes Go.ChangeAt
set_option maxRecDepth 100000 in
theorem lifted_CollectTight (os : Os) (started : os.Started) (H : Type) (enc : TypeId × Value → H) :
    ReturnsInHanded {} Try.checked os 4 .any (Rows.collectTightSpec.pre6 enc Try.prog Try.f4 Rows.collectTightRow.domain false) (Rows.collectTightSpec.post enc Try.prog Try.f4 false true false false) := by
  refine law_lifted (C := Try.checked) (s := Rows.collectTightSpec) (tb := 4) (by kernel_rfl) started (by kernel_rfl) Try.func4
      (ChangeSpec.witness6 (enc := enc) (C := Try.checked) false ⟨#[], #[.slice none 0 0], []⟩ 8 (by kernel_rfl) (by kernel_rfl) (by kernel_rfl) (by kernel_rfl))
      (by kernel_rfl) rfl rfl Try.underlying4 (read_of (by kernel_rfl)) ?_ ?_
  · intro ds hl
    match ds, hl with
    | [d0], _ => exact ⟨rfl, rfl, rfl⟩
  · intro W base args ds p hval0 hA0
    have hval : ∀ (j : Nat) t v, Try.f4.params[j]? = some t → args[j]? = some v → Value.okWide Try.prog W .any base t v := hval0
    have hA : DataW.TrodAll enc Try.prog W 0 (fun _ => true) true Try.f4.params.toList args.toList ds p := hA0
    clear hA0 hval0
    rw [Try.params4] at hA hval
    obtain ⟨v0, d0, rfl, rfl, h0⟩ := trodAll_one hA
    obtain ⟨A0, c0, xs0, rfl, hri0, hc0, hd0, hwf0⟩ := open_nums Try.underlying22 Try.underlying5 (by kernel_rfl) (hval 0 _ v0 rfl rfl) h0
    exact collectTight_any A0 c0 xs0 W hri0 hc0 hd0 (fun b hb => u8_bd (hwf0 b hb))
/-- CollectTight returns true for every input, and leaves its arguments as they were. -/
theorem proved_CollectTight : Rows.CollectTightSaid :=
  OpenClaim.holds_of_wide 4 Try.f4 rfl rfl rfl rfl rfl rfl rfl ⟨rfl, rfl, rfl, rfl, rfl⟩ rfl rfl rfl rfl rfl (by kernel_rfl) Try.func4 (by kernel_rfl)
    (of_decide_eq_true (by kernel_rfl)) (by unfold Func.isWrapper; rw [if_neg (by decide +kernel)]; exact ⟨rfl, rfl⟩)
    (fun os started H enc _ => lifted_CollectTight os started H enc)
end Go.Proofs.Ytombhhhaidmpeaa
