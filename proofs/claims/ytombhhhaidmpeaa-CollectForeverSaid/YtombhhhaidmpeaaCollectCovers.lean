/- CollectCovers returns true for every input. No condition. -/
import Derived.Test.YtombhhhaidmpeaaLaw36
import Derived.Test.YtombhhhaidmpeaaSets
namespace Go.Proofs.Ytombhhhaidmpeaa
open Go.RowKit
set_option linter.unusedVariables false
set_option linter.unusedSimpArgs false
set_option linter.unusedSectionVars false

theorem setsOf_len (n : Nat) : ((setsOf n).map natL).length = 2 ^ n := by simp [setsOf]
theorem setsOf_row {n i : Nat} (hi : i < 2 ^ n) : rowOf ((setsOf n).map natL) i = natL (bitsOf n i) := by
  rw [rowOf_eq (by rw [setsOf_len]; exact hi)]; simp [setsOf]
/-- an element of a line that is no end is a needed checkpoint -/
theorem line_in {p : Pat} {n m q : Nat} (hg : Good p) (hn : n = p.len.length) (hq : q < p.len.length) (h : ¬ nth (lineOf p (bitsOf n m)) q = nth p.len q) : nth (lineOf p (bitsOf n m)) q ∈ needRow p q := by
  rcases line_covers hg (fun f hf => by rw [← hn]; exact bitsOf_lt hf) (lineOf_is hg (bitsOf n m)) hq with h1 | ⟨h1, h2⟩
  · exact absurd h1 h
  · exact List.mem_filter.2 ⟨h1, (needB_iff hg).2 h2⟩
set_option maxRecDepth 100000 in
set_option maxHeartbeats 6400000 in
theorem collectCovers_any (C : Option Addr) (f : Nat) (bs : List Int) (w0 : World) (hbs : RV (fun b => b < w0.heap.size) w0 C (bytes bs)) (hf : bs.length ≤ f) (hf' : f ≤ 9223372036854775807) (hby : ∀ b ∈ bs, 0 ≤ b ∧ b ≤ 255) :
    Calls Try.prog 7 #[.slice C bs.length f] w0 fun e w' => e = .returned (.bool true) ∧ Ext w0 w' := by
  have hS := St.start w0 NoM
  have HB := Lib.hid (And.intro hby (RV.sub (S' := Froz w0 NoM) hbs (fun k hk => ⟨hk, id⟩)))
  clear hby hbs
  go_enter Try.func7, Try.ntmps7
  go_wp2_with (first | (go_at_call 10; refine (awake36_any _).mono ?_; rintro e w ⟨rfl, hx1⟩; replace hS := hS.ext hx1) | (refine oL ?_; (first | refine sL1 hS rfl rfl rfl ?_ | refine sL2 hS rfl rfl rfl ?_ | refine sL3 hS rfl rfl ?_ | refine sL4 hS rfl rfl ?_ | refine sL5 hS rfl rfl ?_ | refine sL6 hS rfl rfl ?_ | refine sL7 hS rfl rfl ?_)) | (refine oS ?_; ((first | refine sS1 hS rfl rfl rfl ?_ | refine sS2 hS rfl rfl rfl ?_ | refine sS3 hS rfl rfl rfl ?_ | refine sS4 hS rfl rfl rfl ?_ | refine sS5 hS rfl rfl rfl ?_); clear hS; intro w hS)) | ((first | refine sN1 hS rfl ?_); clear hS; first | ((fail_if_success guard_hyp g1); intro g1 w hS) | ((fail_if_success guard_hyp g2); intro g2 w hS) | fail) | fail)
  refine (new_st (m := 150) hS (by omega) HB.out.2 hf hf' HB.out.1).mono ?_
  rintro e w ⟨gc, κ, rfl, hS⟩
  clear HB
  generalize bs.take 150 = r at *
  go_wp2_with (first | (refine oL ?_; (first | refine sL1 hS rfl rfl rfl ?_ | refine sL2 hS rfl rfl rfl ?_ | refine sL3 hS rfl rfl ?_ | refine sL4 hS rfl rfl ?_ | refine sL5 hS rfl rfl ?_ | refine sL6 hS rfl rfl ?_ | refine sL7 hS rfl rfl ?_)) | (refine oS ?_; ((first | refine sS1 hS rfl rfl rfl ?_ | refine sS2 hS rfl rfl rfl ?_ | refine sS3 hS rfl rfl rfl ?_ | refine sS4 hS rfl rfl rfl ?_ | refine sS5 hS rfl rfl rfl ?_); clear hS; intro w hS)) | ((first | refine sN1 hS rfl ?_); clear hS; first | ((fail_if_success guard_hyp g1); intro g1 w hS) | ((fail_if_success guard_hyp g2); intro g2 w hS) | fail) | fail)
  refine (pattern_st (m := 50) hS rfl (by omega)).mono ?_
  rintro e w ⟨v, p, r1, T, rfl, hsm, hpa, hS⟩
  have HP := Lib.hid (And.intro hsm hpa)
  have e1 := hsm.good.ckl
  have hn5 := hsm.good.n5
  obtain ⟨A1, c1, A2, c2, A3, c3⟩ := v
  simp only [PV.val]
  have HE := Lib.hid e1
  have hn2 := hsm.good.n2
  have hfew := hsm.few
  clear hsm hpa e1
  generalize hu : w = u at *
  have HNL := Lib.hid (And.intro (needL_len p) (needL_rl HP.out.1.good))
  have hn4 := HP.out.1.n4
  have HSL := Lib.hid (setsOf_len p.len.length)
  have hN16 : 2 ^ p.len.length ≤ 16 := by
    rcases (show p.len.length = 2 ∨ p.len.length = 3 ∨ p.len.length = 4 by omega) with h | h | h <;> rw [h] <;> decide
  have hw : IntKind.i64.wrap ((2 : Int) ^ p.len.length) = ((2 ^ p.len.length : Nat) : Int) := by
    rcases (show p.len.length = 2 ∨ p.len.length = 3 ∨ p.len.length = 4 by omega) with h | h | h <;> rw [h] <;> rfl
  have HSR := Lib.hid (fun i hi => setsOf_row (n := p.len.length) (i := i) hi)
  generalize 2 ^ p.len.length = N at *
  go_upto_region 6 with (first | (go_at_call 15; refine (needed_any ⟨A1, c1, A2, c2, A3, c3⟩ p _ (HP.out.2.into hS.frozInto) HP.out.1.good).mono ?_; rintro e w2 ⟨LA, cA, rfl, hcA, hcA', hrr, hx1⟩; obtain ⟨T2, hS2, hi1, hi0⟩ := hS.grow hx1; have HV := Lib.hid (And.intro (HP.out.2.into hi0) (hrr.into hi1)); clear hi1 hi0 hS hx1 hrr; replace hS := hS2; clear hS2; rw [HNL.out.1]) | (go_at_call 29; refine (sets_any (S := fun _ => False) p.len.length _ (by omega)).mono ?_; rintro e w3 ⟨LB, cB, rfl, hcB, hcB', hrr, hx1⟩; obtain ⟨T3, hS3, hi1, hi0⟩ := hS.grow hx1; have HV3 := Lib.hid (And.intro (HV.out.1.into hi0) (And.intro (HV.out.2.into hi0) (hrr.into (Into.then (fun k hk _ => ⟨.inr (hk.resolve_left id), rfl⟩) hi1)))); clear hi1 hi0 hS hx1 hrr HV; replace hS := hS3; clear hS3; rw [HSL.out]) | (refine oL ?_; (first | refine sL1 hS rfl rfl rfl ?_ | refine sL2 hS rfl rfl rfl ?_ | refine sL3 hS rfl rfl ?_ | refine sL4 hS rfl rfl ?_ | refine sL5 hS rfl rfl ?_ | refine sL6 hS rfl rfl ?_ | refine sL7 hS rfl rfl ?_)) | (refine oS ?_; ((first | refine sS1 hS rfl rfl rfl ?_ | refine sS2 hS rfl rfl rfl ?_ | refine sS3 hS rfl rfl rfl ?_ | refine sS4 hS rfl rfl rfl ?_ | refine sS5 hS rfl rfl rfl ?_); clear hS; intro w hS)) | ((first | refine sN1 hS rfl ?_); clear hS; first | ((fail_if_success guard_hyp g1); intro g1 w hS) | ((fail_if_success guard_hyp g2); intro g2 w hS) | fail) | fail)
  have en : ((p.len.length : Int) != (p.len.length : Int)) = false := by simp
  have eN : ((N : Int) != (N : Int)) = false := by simp
  have HG := Lib.hid HP.out.1.good
  clear HP
  go_wp2_with (first | (refine oL ?_; (first | refine sL1 hS rfl rfl rfl ?_ | refine sL2 hS rfl rfl rfl ?_ | refine sL3 hS rfl rfl ?_ | refine sL4 hS rfl rfl ?_ | refine sL5 hS rfl rfl ?_ | refine sL6 hS rfl rfl ?_ | refine sL7 hS rfl rfl ?_)) | (refine oS ?_; ((first | refine sS1 hS rfl rfl rfl ?_ | refine sS2 hS rfl rfl rfl ?_ | refine sS3 hS rfl rfl rfl ?_ | refine sS4 hS rfl rfl rfl ?_ | refine sS5 hS rfl rfl rfl ?_); clear hS; intro w hS)) | ((first | refine sN1 hS rfl ?_); clear hS; first | ((fail_if_success guard_hyp g1); intro g1 w hS) | ((fail_if_success guard_hyp g2); intro g2 w hS) | fail) | fail)
  clear hw
  go_loopw [6, 7, 8] (fun s6 s7 s8 wr => ∃ (i : Nat) (T : Nat → Prop) (u : World), i ≤ N ∧ s6 = .int .i64 i ∧ Hid (PatAt T u ⟨A1, c1, A2, c2, A3, c3⟩ p ∧ RR T u LA (needL p) ∧ RR T u LB ((setsOf p.len.length).map natL)) ∧ St w0 NoM [froz T u, blk g1 [.slice A1 p.len.length c1, .slice A2 p.ck.length c2, .slice A3 p.arcs.length c3] 28] wr) (fun s6 _ _ _ => N - (intOf s6).toNat)
  case atStart => exact ⟨0, _, _, by omega, rfl, HV3, hS.re⟩
  case round =>
    clear hS HV3
    obtain ⟨i, T, u, hi, rfl, HV, hS⟩ := hrel
    by_cases hil : i < N
    · have hil' : (i : Int) < N := by omega
      obtain ⟨bS, ofS, BS, cS, rfl, hfS, hBS, hcS, hcS'⟩ := HV.out.2.2.fc (k := i) (by rw [HSL.out]; exact hil)
      rw [HSR.out i hil] at hfS hBS hcS
      rw [List.length_map] at hfS hcS
      have hbl := bitsOf_len p.len.length i
      have HLL := Lib.hid (lineOf_len HG.out (bitsOf p.len.length i))
      have HIN := Lib.hid (fun q hq h => line_in (m := i) (q := q) HG.out rfl hq h)
      generalize bitsOf p.len.length i = F at *
      go_wp2_with (first | (refine oL ?_; (first | refine sL1 hS rfl rfl rfl ?_ | refine sL2 hS rfl rfl rfl ?_ | refine sL3 hS rfl rfl ?_ | refine sL4 hS rfl rfl ?_ | refine sL5 hS rfl rfl ?_ | refine sL6 hS rfl rfl ?_ | refine sL7 hS rfl rfl ?_)) | (refine oS ?_; ((first | refine sS1 hS rfl rfl rfl ?_ | refine sS2 hS rfl rfl rfl ?_ | refine sS3 hS rfl rfl rfl ?_ | refine sS4 hS rfl rfl rfl ?_ | refine sS5 hS rfl rfl rfl ?_); clear hS; intro w hS)) | ((first | refine sN1 hS rfl ?_); clear hS; first | ((fail_if_success guard_hyp g1); intro g1 w hS) | ((fail_if_success guard_hyp g2); intro g2 w hS) | fail) | fail)
      refine dr_start1 [] 0 hS (by kernel_rfl) rfl ?_; clear hS; intro w hS
      first | refine dL1 hS 0 rfl rfl rfl rfl ?_ | refine dL2 hS 0 rfl rfl rfl rfl ?_ | refine dL3 hS 0 rfl rfl rfl ?_ | refine dL4 hS 0 rfl rfl rfl ?_ | refine dL5 hS 0 rfl rfl rfl ?_ | refine dL6 hS 0 rfl rfl rfl ?_ | refine dL7 hS 0 rfl rfl rfl ?_
      (try simp only [Act.put, nA, nB, nC])
      refine dM hS 1 rfl rfl rfl ?_
      (try simp only [Act.put, nA, nB, nC])
      refine dM hS 2 rfl rfl rfl ?_
      (try simp only [Act.put, nA, nB, nC])
      refine dP hS 3 rfl rfl ?_
      (try simp only [Act.put, nA, nB, nC])
      refine dr_one 4 (by kernel_rfl) rfl ?_
      (first | refine sL1 hS rfl rfl rfl ?_ | refine sL2 hS rfl rfl rfl ?_ | refine sL3 hS rfl rfl ?_ | refine sL4 hS rfl rfl ?_ | refine sL5 hS rfl rfl ?_ | refine sL6 hS rfl rfl ?_ | refine sL7 hS rfl rfl ?_)
      (try simp only [Act.put, nA, nB, nC])
      refine dr_end hS ?_
      refine dr_one 5 (by kernel_rfl) rfl ?_
      (refine st_call rfl (by kernel_rfl) rfl ?_; go_at_call 19; refine (failure_any ⟨A1, c1, A2, c2, A3, c3⟩ _ _ F.length p F _ (HV.out.1.into hS.frozInto) HG.out (RI.into hBS hS.frozInto) rfl (by omega)).mono ?_; rintro e w2 ⟨LG, cG, rfl, hcG, hcG', hri, hx1⟩; obtain ⟨T2, hS2, hi1, hi0⟩ := hS.grow hx1; replace hri := hri.into hi1; have HV2 := Lib.hid (And.intro (HV.out.1.into hi0) (And.intro (HV.out.2.1.into hi0) (HV.out.2.2.into hi0))); clear hi1 hi0 hS hx1; replace hS := hS2; clear hS2)
      (try simp only [Act.put, nA, nB, nC])
      refine dr_end hS ?_
      refine dA hS 6 rfl rfl rfl ?_
      (try simp only [Act.put, nA, nB, nC])
      refine dr_done (by kernel_rfl) ?_
      go_wp2_with (first | (refine oL ?_; (first | refine sL1 hS rfl rfl rfl ?_ | refine sL2 hS rfl rfl rfl ?_ | refine sL3 hS rfl rfl ?_ | refine sL4 hS rfl rfl ?_ | refine sL5 hS rfl rfl ?_ | refine sL6 hS rfl rfl ?_ | refine sL7 hS rfl rfl ?_)) | (refine oS ?_; ((first | refine sS1 hS rfl rfl rfl ?_ | refine sS2 hS rfl rfl rfl ?_ | refine sS3 hS rfl rfl rfl ?_ | refine sS4 hS rfl rfl rfl ?_ | refine sS5 hS rfl rfl rfl ?_); clear hS; intro w hS)) | ((first | refine sN1 hS rfl ?_); clear hS; first | ((fail_if_success guard_hyp g1); intro g1 w hS) | ((fail_if_success guard_hyp g2); intro g2 w hS) | fail) | fail)
      go_loopw [8] (fun s8 wr => ∃ (q : Nat), q ≤ p.len.length ∧ s8 = .int .i64 q ∧ St w0 NoM [froz T2 w2, blk g1 [.slice A1 p.len.length c1, .slice A2 p.ck.length c2, .slice A3 p.arcs.length c3] 28] wr) (fun s8 _ => p.len.length - (intOf s8).toNat)
      case atStart => exact ⟨0, by omega, rfl, hS.re⟩
      case round =>
        clear hS
        obtain ⟨q, hq, rfl, hS⟩ := hrel
        by_cases hql : q < p.len.length
        · have hql' : (q : Int) < p.len.length := by omega
          obtain ⟨bL, ofL, rfl, hfL⟩ := hri.fc (k := q) (by rw [HLL.out]; exact hql)
          obtain ⟨bA, ofA, hA1, hfA⟩ := HV2.out.1.len.fc (k := q) hql
          simp only at hA1
          subst hA1
          by_cases hx : nth (lineOf p F) q = nth p.len q
          · have db : (nth (lineOf p F) q != nth p.len q) = false := by simp [hx]
            clear hx
            generalize nth (lineOf p F) q = y at *
            generalize nth p.len q = m at *
            go_upto_region 17 with (first | (refine oL ?_; (first | refine sL1 hS rfl rfl rfl ?_ | refine sL2 hS rfl rfl rfl ?_ | refine sL3 hS rfl rfl ?_ | refine sL4 hS rfl rfl ?_ | refine sL5 hS rfl rfl ?_ | refine sL6 hS rfl rfl ?_ | refine sL7 hS rfl rfl ?_)) | (refine oS ?_; ((first | refine sS1 hS rfl rfl rfl ?_ | refine sS2 hS rfl rfl rfl ?_ | refine sS3 hS rfl rfl rfl ?_ | refine sS4 hS rfl rfl rfl ?_ | refine sS5 hS rfl rfl rfl ?_); clear hS; intro w hS)) | ((first | refine sN1 hS rfl ?_); clear hS; first | ((fail_if_success guard_hyp g1); intro g1 w hS) | ((fail_if_success guard_hyp g2); intro g2 w hS) | fail) | fail)
            refine dr_start0 []  hS (by kernel_rfl) rfl ?_; clear hS; intro w hS
            refine dM hS 0 rfl rfl rfl ?_
            (try simp only [Act.put, nA, nB, nC])
            refine dM hS 1 rfl rfl rfl ?_
            (try simp only [Act.put, nA, nB, nC])
            refine dP hS 2 rfl rfl ?_
            (try simp only [Act.put, nA, nB, nC])
            first | refine dL1 hS 3 rfl rfl rfl rfl ?_ | refine dL2 hS 3 rfl rfl rfl rfl ?_ | refine dL3 hS 3 rfl rfl rfl ?_ | refine dL4 hS 3 rfl rfl rfl ?_ | refine dL5 hS 3 rfl rfl rfl ?_ | refine dL6 hS 3 rfl rfl rfl ?_ | refine dL7 hS 3 rfl rfl rfl ?_
            (try simp only [Act.put, nA, nB, nC])
            refine dP hS 4 rfl rfl ?_
            (try simp only [Act.put, nA, nB, nC])
            first | refine dL1 hS 5 rfl rfl rfl rfl ?_ | refine dL2 hS 5 rfl rfl rfl rfl ?_ | refine dL3 hS 5 rfl rfl rfl ?_ | refine dL4 hS 5 rfl rfl rfl ?_ | refine dL5 hS 5 rfl rfl rfl ?_ | refine dL6 hS 5 rfl rfl rfl ?_ | refine dL7 hS 5 rfl rfl rfl ?_
            (try simp only [Act.put, nA, nB, nC])
            refine dM hS 6 rfl rfl rfl ?_
            (try simp only [Act.put, nA, nB, nC])
            refine dP hS 7 rfl rfl ?_
            (try simp only [Act.put, nA, nB, nC])
            first | refine dL1 hS 8 rfl rfl rfl rfl ?_ | refine dL2 hS 8 rfl rfl rfl rfl ?_ | refine dL3 hS 8 rfl rfl rfl ?_ | refine dL4 hS 8 rfl rfl rfl ?_ | refine dL5 hS 8 rfl rfl rfl ?_ | refine dL6 hS 8 rfl rfl rfl ?_ | refine dL7 hS 8 rfl rfl rfl ?_
            (try simp only [Act.put, nA, nB, nC])
            refine dP hS 9 rfl rfl ?_
            (try simp only [Act.put, nA, nB, nC])
            refine dM hS 10 rfl rfl rfl ?_
            (try simp only [Act.put, nA, nB, nC])
            first | refine dM hS 11 rfl rfl rfl ?_ | refine dQ hS 11 rfl rfl ?_
            (try simp only [Act.put, nA, nB, nC])
            first | refine dM hS 12 rfl rfl rfl ?_ | refine dQ hS 12 rfl rfl ?_
            (try simp only [Act.put, nA, nB, nC])
            first | refine dP hS 13 rfl rfl ?_ | refine dQ hS 13 rfl rfl ?_
            (try simp only [Act.put, nA, nB, nC])
            first | refine dL1 hS 14 rfl rfl rfl rfl ?_ | refine dL2 hS 14 rfl rfl rfl rfl ?_ | refine dL3 hS 14 rfl rfl rfl ?_ | refine dL4 hS 14 rfl rfl rfl ?_ | refine dL5 hS 14 rfl rfl rfl ?_ | refine dL6 hS 14 rfl rfl rfl ?_ | refine dL7 hS 14 rfl rfl rfl ?_ | refine dQ hS 14 rfl rfl ?_
            (try simp only [Act.put, nA, nB, nC])
            first | refine dM hS 15 rfl rfl rfl ?_ | refine dQ hS 15 rfl rfl ?_
            (try simp only [Act.put, nA, nB, nC])
            first | refine dM hS 16 rfl rfl rfl ?_ | refine dQ hS 16 rfl rfl ?_
            (try simp only [Act.put, nA, nB, nC])
            first | refine dP hS 17 rfl rfl ?_ | refine dQ hS 17 rfl rfl ?_
            (try simp only [Act.put, nA, nB, nC])
            first | refine dL1 hS 18 rfl rfl rfl rfl ?_ | refine dL2 hS 18 rfl rfl rfl rfl ?_ | refine dL3 hS 18 rfl rfl rfl ?_ | refine dL4 hS 18 rfl rfl rfl ?_ | refine dL5 hS 18 rfl rfl rfl ?_ | refine dL6 hS 18 rfl rfl rfl ?_ | refine dL7 hS 18 rfl rfl rfl ?_ | refine dQ hS 18 rfl rfl ?_
            (try simp only [Act.put, nA, nB, nC])
            refine dr_one 19 (by kernel_rfl) rfl ?_
            refine wpList_skip rfl ?_
            (try simp only [Act.put, nA, nB, nC])
            refine dr_end hS ?_
            first | refine dP hS 20 rfl rfl ?_ | refine dQ hS 20 rfl rfl ?_
            (try simp only [Act.put, nA, nB, nC])
            refine dP hS 21 rfl rfl ?_
            (try simp only [Act.put, nA, nB, nC])
            refine dr_done (by kernel_rfl) ?_
            go_wp2_with (first | (refine oL ?_; (first | refine sL1 hS rfl rfl rfl ?_ | refine sL2 hS rfl rfl rfl ?_ | refine sL3 hS rfl rfl ?_ | refine sL4 hS rfl rfl ?_ | refine sL5 hS rfl rfl ?_ | refine sL6 hS rfl rfl ?_ | refine sL7 hS rfl rfl ?_)) | (refine oS ?_; ((first | refine sS1 hS rfl rfl rfl ?_ | refine sS2 hS rfl rfl rfl ?_ | refine sS3 hS rfl rfl rfl ?_ | refine sS4 hS rfl rfl rfl ?_ | refine sS5 hS rfl rfl rfl ?_); clear hS; intro w hS)) | ((first | refine sN1 hS rfl ?_); clear hS; first | ((fail_if_success guard_hyp g1); intro g1 w hS) | ((fail_if_success guard_hyp g2); intro g2 w hS) | fail) | fail)
            go_roundw
            case measure => simp [intOf]; omega
            exact ⟨q + 1, by omega, by go_num, hS.re⟩
          · have db : (nth (lineOf p F) q != nth p.len q) = true := by simp [hx]
            have HMEM := Lib.hid (show decide (nth (lineOf p F) q ∈ needRow p q) = true from decide_eq_true (HIN.out q hql hx))
            obtain ⟨bR, ofR, BR, cR, hLA, hfR, hBR, hcR, hcR'⟩ := HV2.out.2.1.fc (k := q) (by rw [HNL.out.1]; exact hql)
            subst hLA
            have HRW := Lib.hid (needL_row (p := p) hql)
            rw [HRW.out] at hfR hBR hcR
            have hrl : (needRow p q).length ≤ 65 := HNL.out.2 _ (by rw [← HRW.out, rowOf_eq (by rw [HNL.out.1]; exact hql)]; exact List.getElem_mem _)
            clear hx
            generalize nth (lineOf p F) q = y at *
            generalize nth p.len q = m at *
            go_upto_region 17 with (first | (refine oL ?_; (first | refine sL1 hS rfl rfl rfl ?_ | refine sL2 hS rfl rfl rfl ?_ | refine sL3 hS rfl rfl ?_ | refine sL4 hS rfl rfl ?_ | refine sL5 hS rfl rfl ?_ | refine sL6 hS rfl rfl ?_ | refine sL7 hS rfl rfl ?_)) | (refine oS ?_; ((first | refine sS1 hS rfl rfl rfl ?_ | refine sS2 hS rfl rfl rfl ?_ | refine sS3 hS rfl rfl rfl ?_ | refine sS4 hS rfl rfl rfl ?_ | refine sS5 hS rfl rfl rfl ?_); clear hS; intro w hS)) | ((first | refine sN1 hS rfl ?_); clear hS; first | ((fail_if_success guard_hyp g1); intro g1 w hS) | ((fail_if_success guard_hyp g2); intro g2 w hS) | fail) | fail)
            refine dr_start0 []  hS (by kernel_rfl) rfl ?_; clear hS; intro w hS
            refine dM hS 0 rfl rfl rfl ?_
            (try simp only [Act.put, nA, nB, nC])
            refine dM hS 1 rfl rfl rfl ?_
            (try simp only [Act.put, nA, nB, nC])
            refine dP hS 2 rfl rfl ?_
            (try simp only [Act.put, nA, nB, nC])
            first | refine dL1 hS 3 rfl rfl rfl rfl ?_ | refine dL2 hS 3 rfl rfl rfl rfl ?_ | refine dL3 hS 3 rfl rfl rfl ?_ | refine dL4 hS 3 rfl rfl rfl ?_ | refine dL5 hS 3 rfl rfl rfl ?_ | refine dL6 hS 3 rfl rfl rfl ?_ | refine dL7 hS 3 rfl rfl rfl ?_
            (try simp only [Act.put, nA, nB, nC])
            refine dP hS 4 rfl rfl ?_
            (try simp only [Act.put, nA, nB, nC])
            first | refine dL1 hS 5 rfl rfl rfl rfl ?_ | refine dL2 hS 5 rfl rfl rfl rfl ?_ | refine dL3 hS 5 rfl rfl rfl ?_ | refine dL4 hS 5 rfl rfl rfl ?_ | refine dL5 hS 5 rfl rfl rfl ?_ | refine dL6 hS 5 rfl rfl rfl ?_ | refine dL7 hS 5 rfl rfl rfl ?_
            (try simp only [Act.put, nA, nB, nC])
            refine dM hS 6 rfl rfl rfl ?_
            (try simp only [Act.put, nA, nB, nC])
            refine dP hS 7 rfl rfl ?_
            (try simp only [Act.put, nA, nB, nC])
            first | refine dL1 hS 8 rfl rfl rfl rfl ?_ | refine dL2 hS 8 rfl rfl rfl rfl ?_ | refine dL3 hS 8 rfl rfl rfl ?_ | refine dL4 hS 8 rfl rfl rfl ?_ | refine dL5 hS 8 rfl rfl rfl ?_ | refine dL6 hS 8 rfl rfl rfl ?_ | refine dL7 hS 8 rfl rfl rfl ?_
            (try simp only [Act.put, nA, nB, nC])
            refine dP hS 9 rfl rfl ?_
            (try simp only [Act.put, nA, nB, nC])
            refine dM hS 10 rfl rfl rfl ?_
            (try simp only [Act.put, nA, nB, nC])
            first | refine dM hS 11 rfl rfl rfl ?_ | refine dQ hS 11 rfl rfl ?_
            (try simp only [Act.put, nA, nB, nC])
            first | refine dM hS 12 rfl rfl rfl ?_ | refine dQ hS 12 rfl rfl ?_
            (try simp only [Act.put, nA, nB, nC])
            first | refine dP hS 13 rfl rfl ?_ | refine dQ hS 13 rfl rfl ?_
            (try simp only [Act.put, nA, nB, nC])
            first | refine dL1 hS 14 rfl rfl rfl rfl ?_ | refine dL2 hS 14 rfl rfl rfl rfl ?_ | refine dL3 hS 14 rfl rfl rfl ?_ | refine dL4 hS 14 rfl rfl rfl ?_ | refine dL5 hS 14 rfl rfl rfl ?_ | refine dL6 hS 14 rfl rfl rfl ?_ | refine dL7 hS 14 rfl rfl rfl ?_ | refine dQ hS 14 rfl rfl ?_
            (try simp only [Act.put, nA, nB, nC])
            first | refine dM hS 15 rfl rfl rfl ?_ | refine dQ hS 15 rfl rfl ?_
            (try simp only [Act.put, nA, nB, nC])
            first | refine dM hS 16 rfl rfl rfl ?_ | refine dQ hS 16 rfl rfl ?_
            (try simp only [Act.put, nA, nB, nC])
            first | refine dP hS 17 rfl rfl ?_ | refine dQ hS 17 rfl rfl ?_
            (try simp only [Act.put, nA, nB, nC])
            first | refine dL1 hS 18 rfl rfl rfl rfl ?_ | refine dL2 hS 18 rfl rfl rfl rfl ?_ | refine dL3 hS 18 rfl rfl rfl ?_ | refine dL4 hS 18 rfl rfl rfl ?_ | refine dL5 hS 18 rfl rfl rfl ?_ | refine dL6 hS 18 rfl rfl rfl ?_ | refine dL7 hS 18 rfl rfl rfl ?_ | refine dQ hS 18 rfl rfl ?_
            (try simp only [Act.put, nA, nB, nC])
            refine dr_one 19 (by kernel_rfl) rfl ?_
            (refine st_call rfl (by kernel_rfl) rfl ?_; go_at_call 20; refine (lin_any BR cR (needRow p q).length (needRow p q) y _ (hBR.into hS.frozInto) rfl (by omega)).mono ?_; rintro e w ⟨rfl, hx1⟩; replace hS := hS.ext hx1; rw [HMEM.out])
            (try simp only [Act.put, nA, nB, nC])
            refine dr_end hS ?_
            first | refine dP hS 20 rfl rfl ?_ | refine dQ hS 20 rfl rfl ?_
            (try simp only [Act.put, nA, nB, nC])
            refine dP hS 21 rfl rfl ?_
            (try simp only [Act.put, nA, nB, nC])
            refine dr_done (by kernel_rfl) ?_
            go_wp2_with (first | (refine oL ?_; (first | refine sL1 hS rfl rfl rfl ?_ | refine sL2 hS rfl rfl rfl ?_ | refine sL3 hS rfl rfl ?_ | refine sL4 hS rfl rfl ?_ | refine sL5 hS rfl rfl ?_ | refine sL6 hS rfl rfl ?_ | refine sL7 hS rfl rfl ?_)) | (refine oS ?_; ((first | refine sS1 hS rfl rfl rfl ?_ | refine sS2 hS rfl rfl rfl ?_ | refine sS3 hS rfl rfl rfl ?_ | refine sS4 hS rfl rfl rfl ?_ | refine sS5 hS rfl rfl rfl ?_); clear hS; intro w hS)) | ((first | refine sN1 hS rfl ?_); clear hS; first | ((fail_if_success guard_hyp g1); intro g1 w hS) | ((fail_if_success guard_hyp g2); intro g2 w hS) | fail) | fail)
            go_roundw
            case measure => simp [intOf]; omega
            exact ⟨q + 1, by omega, by go_num, hS.re⟩
        · have hql' : ¬ (q : Int) < p.len.length := by omega
          go_wp2_with (first | (refine oL ?_; (first | refine sL1 hS rfl rfl rfl ?_ | refine sL2 hS rfl rfl rfl ?_ | refine sL3 hS rfl rfl ?_ | refine sL4 hS rfl rfl ?_ | refine sL5 hS rfl rfl ?_ | refine sL6 hS rfl rfl ?_ | refine sL7 hS rfl rfl ?_)) | (refine oS ?_; ((first | refine sS1 hS rfl rfl rfl ?_ | refine sS2 hS rfl rfl rfl ?_ | refine sS3 hS rfl rfl rfl ?_ | refine sS4 hS rfl rfl rfl ?_ | refine sS5 hS rfl rfl rfl ?_); clear hS; intro w hS)) | ((first | refine sN1 hS rfl ?_); clear hS; first | ((fail_if_success guard_hyp g1); intro g1 w hS) | ((fail_if_success guard_hyp g2); intro g2 w hS) | fail) | fail)
          go_roundw
          case measure => simp [intOf]; omega
          exact ⟨i + 1, T2, w2, by omega, by go_num, HV2, hS⟩
    · have hil' : ¬ (i : Int) < N := by omega
      go_wp2_with (first | (refine oL ?_; (first | refine sL1 hS rfl rfl rfl ?_ | refine sL2 hS rfl rfl rfl ?_ | refine sL3 hS rfl rfl ?_ | refine sL4 hS rfl rfl ?_ | refine sL5 hS rfl rfl ?_ | refine sL6 hS rfl rfl ?_ | refine sL7 hS rfl rfl ?_)) | (refine oS ?_; ((first | refine sS1 hS rfl rfl rfl ?_ | refine sS2 hS rfl rfl rfl ?_ | refine sS3 hS rfl rfl rfl ?_ | refine sS4 hS rfl rfl rfl ?_ | refine sS5 hS rfl rfl rfl ?_); clear hS; intro w hS)) | ((first | refine sN1 hS rfl ?_); clear hS; first | ((fail_if_success guard_hyp g1); intro g1 w hS) | ((fail_if_success guard_hyp g2); intro g2 w hS) | fail) | fail)
      go_ret
      exact ⟨rfl, hS.toExt⟩
open Go.ChangeShapes Go.WideShapes Go.ChangeAt
set_option maxRecDepth 100000 in
theorem lifted_CollectCovers (os : Os) (started : os.Started) (H : Type) (enc : TypeId × Value → H) :
    ReturnsInHanded {} Try.checked os 7 .any (Rows.collectCoversSpec.pre6 enc Try.prog Try.f7 Rows.collectCoversRow.domain false) (Rows.collectCoversSpec.post enc Try.prog Try.f7 false true false false) := by
  refine law_lifted (C := Try.checked) (s := Rows.collectCoversSpec) (tb := 4) (by kernel_rfl) started (by kernel_rfl) Try.func7
      (ChangeSpec.witness6 (enc := enc) (C := Try.checked) false ⟨#[], #[.slice none 0 0], []⟩ 8 (by kernel_rfl) (by kernel_rfl) (by kernel_rfl) (by kernel_rfl))
      (by kernel_rfl) rfl rfl Try.underlying4 (read_of (by kernel_rfl)) ?_ ?_
  · intro ds hl
    match ds, hl with
    | [d0], _ => exact ⟨rfl, rfl, rfl⟩
  · intro W base args ds p hval0 hA0
    have hval : ∀ (j : Nat) t v, Try.f7.params[j]? = some t → args[j]? = some v → Value.okWide Try.prog W .any base t v := hval0
    have hA : DataW.TrodAll enc Try.prog W 0 (fun _ => true) true Try.f7.params.toList args.toList ds p := hA0
    clear hA0 hval0
    rw [Try.params7] at hA hval
    obtain ⟨v0, d0, rfl, rfl, h0⟩ := trodAll_one hA
    obtain ⟨A0, c0, xs0, rfl, hri0, hc0, hd0, hwf0⟩ := open_nums Try.underlying22 Try.underlying5 (by kernel_rfl) (hval 0 _ v0 rfl rfl) h0
    exact collectCovers_any A0 c0 xs0 W hri0 hc0 hd0 (fun b hb => u8_bd (hwf0 b hb))
/-- CollectCovers returns true for every input, and leaves its arguments as they were. -/
theorem proved_CollectCovers : Rows.CollectCoversSaid :=
  OpenClaim.holds_of_wide 7 Try.f7 rfl rfl rfl rfl rfl rfl rfl ⟨rfl, rfl, rfl, rfl, rfl⟩ rfl rfl rfl rfl rfl (by kernel_rfl) Try.func7 (by kernel_rfl)
    (of_decide_eq_true (by kernel_rfl)) (by unfold Func.isWrapper; rw [if_neg (by decide +kernel)]; exact ⟨rfl, rfl⟩)
    (fun os started H enc _ => lifted_CollectCovers os started H enc)
end Go.Proofs.Ytombhhhaidmpeaa
