/- The reference's Bases and Keep. Conditions: the lists lie in memory; for Bases they ascend. -/
import Derived.Test.YtombhhhaidmpeaaKeep
namespace Go.Proofs.Ytombhhhaidmpeaa
open Go.RowKit
set_option linter.unusedVariables false
set_option linter.unusedSimpArgs false
set_option linter.unusedSectionVars false

set_option maxRecDepth 100000 in
set_option maxHeartbeats 6400000 in
theorem rbases_any {S T : Nat → Prop} (A X : Option Addr) (cA cX n m : Nat) (ls : List (List Int)) (cut : List Int) (w0 : World) (hal : RR S w0 A ls) (hx : RI T w0 X cut) (hn : ls.length = n) (hm : cut.length = m) (hn1 : n ≤ 1000) (hm1 : m ≤ 9223372036854775807) (hrl : ∀ l ∈ ls, l.length ≤ 1000 ∧ l.Pairwise (· < ·)) :
    Calls Try.prog 26 #[.slice A n cA, .slice X m cX] w0 (RetRow w0 3 1 n (ints (basesL ls cut))) := by
  have hS := St.start w0 NoM
  subst hn hm
  have HR := Lib.hid hrl
  clear hrl
  go_enter Try.func26, Try.ntmps26
  go_wp2_with (first | (refine oL ?_; (first | refine sL1 hS rfl rfl rfl ?_ | refine sL2 hS rfl rfl rfl ?_ | refine sL3 hS rfl rfl ?_ | refine sL4 hS rfl rfl ?_ | refine sL5 hS rfl rfl ?_ | refine sL6 hS rfl rfl ?_ | refine sL7 hS rfl rfl ?_)) | (refine oP ?_; ((first | refine sP1 hS rfl rfl rfl ?_ | refine sP2 hS rfl rfl rfl ?_ | refine sP3 hS rfl rfl rfl ?_); clear hS; first | ((fail_if_success guard_hyp L1); intro L1 cl1 w hL1 hM1 hS) | ((fail_if_success guard_hyp L2); intro L2 cl2 w hL2 hM2 hS) | fail)) | ((first | (refine oC ?_; first | refine sC0 hS rfl ?_ | refine sC1 hS rfl rfl ?_ | refine sC2 hS rfl rfl ?_ | refine sC3 hS rfl rfl rfl ?_ | refine sC4 hS rfl rfl rfl ?_)); clear hS; first | ((fail_if_success guard_hyp g1); intro g1 w hS) | ((fail_if_success guard_hyp g2); intro g2 w hS) | fail) | fail)
  replace hS := hS.addNil 3 1
  go_loopw [5, 6, 7, 8] (fun s5 s6 s7 s8 wr => ∃ (q c : Nat) (L : Option Addr), q ≤ ls.length ∧ s6 = .int .i64 q ∧ s5 = .slice L q c ∧ St w0 NoM [row (.slice L q c) 3 1 q (ints ((basesL ls cut).take q))] wr) (fun _ s6 _ _ _ => ls.length - (intOf s6).toNat)
  case atStart => exact ⟨0, 0, none, by omega, rfl, rfl, hS⟩
  case round =>
    clear hS
    obtain ⟨q, c, L, hq, rfl, rfl, hS⟩ := hrel
    by_cases hlt : q < ls.length
    · have hlt' : (q : Int) < ls.length := by omega
      obtain ⟨b2, o2, B, cB, rfl, hfc, hB, hcB, hcB'⟩ := hal.fc hlt
      have hcc := hfc.c
      have hro := HR.out (rowOf ls q) (by rw [rowOf_eq hlt]; exact List.getElem_mem hlt)
      have hrl := hro.1
      have HAS := Lib.hid hro.2
      have HT := Lib.hid (basesL_take (cut := cut) hlt)
      have HTL := Lib.hid (show ((basesL ls cut).take q).length = q by rw [List.length_take, basesL_len]; omega)
      have HBO := Lib.hid (show baseOf cut q (rowOf ls q) = if q < cut.length then (bel (rowOf ls q) (nth cut q)).getD (-1) else -1 from rfl)
      clear hfc hro
      generalize rowOf ls q = l at *
      generalize (basesL ls cut).take q = xs at *
      by_cases hqc : q < cut.length
      · have hqc' : (q : Int) < cut.length := by omega
        have dqn : decide (q < cut.length) = true := decide_eq_true hqc
        obtain ⟨b1, o1, rfl, _, hc1⟩ := hx.atNS hqc
        rw [if_pos hqc] at HBO
        generalize nth cut q = m at *
        go_wp2_with (first | (refine oL ?_; (first | refine sL1 hS rfl rfl rfl ?_ | refine sL2 hS rfl rfl rfl ?_ | refine sL3 hS rfl rfl ?_ | refine sL4 hS rfl rfl ?_ | refine sL5 hS rfl rfl ?_ | refine sL6 hS rfl rfl ?_ | refine sL7 hS rfl rfl ?_)) | (refine oP ?_; ((first | refine sP1 hS rfl rfl rfl ?_ | refine sP2 hS rfl rfl rfl ?_ | refine sP3 hS rfl rfl rfl ?_); clear hS; first | ((fail_if_success guard_hyp L1); intro L1 cl1 w hL1 hM1 hS) | ((fail_if_success guard_hyp L2); intro L2 cl2 w hL2 hM2 hS) | fail)) | ((first | (refine oC ?_; first | refine sC0 hS rfl ?_ | refine sC1 hS rfl rfl ?_ | refine sC2 hS rfl rfl ?_ | refine sC3 hS rfl rfl rfl ?_ | refine sC4 hS rfl rfl rfl ?_)); clear hS; first | ((fail_if_success guard_hyp g1); intro g1 w hS) | ((fail_if_success guard_hyp g2); intro g2 w hS) | fail) | fail)
        go_loopw [7, 8] (fun s7 s8 wr => ∃ (j : Nat) (acc : Option Int), j ≤ l.length ∧ s8 = .int .i64 j ∧ s7 = .int .i64 (acc.getD (-1)) ∧ Hid ((l.take j).foldl (belS m) none = acc ∧ ∀ b, acc = some b → b ∈ l.take j) ∧ St w0 NoM [row (.slice L q c) 3 1 q (ints xs)] wr) (fun _ s8 _ => l.length - (intOf s8).toNat)
        case atStart => exact ⟨0, none, by omega, rfl, rfl, Lib.hid ⟨rfl, by simp⟩, hS⟩
        case round =>
          clear hS
          obtain ⟨j, acc, hj, rfl, rfl, HA, hS⟩ := hrel
          by_cases hjl : j < l.length
          · have hjl' : (j : Int) < l.length := by omega
            obtain ⟨b4, o4, rfl, _, hc4⟩ := hB.atNS hjl
            have HTK := Lib.hid (bel_take (m := m) hjl)
            have HTE := Lib.hid (show l.take (j + 1) = l.take j ++ [nth l j] by rw [List.take_succ_eq_append_getElem hjl, nth_eq hjl])
            have HLT := Lib.hid (show ∀ b ∈ l.take j, b < nth l j from fun b hb => by
              obtain ⟨i, hi, e⟩ := List.getElem_of_mem hb
              rw [List.getElem_take] at e
              rw [List.length_take] at hi
              rw [← e, nth_eq hjl]
              exact List.pairwise_iff_getElem.1 HAS.out i j (by omega) hjl (by omega))
            generalize nth l j = k at *
            by_cases hkm : k ≤ m
            · have dk : decide (k ≤ m) = true := decide_eq_true hkm
              have HN := Lib.hid (show (l.take (j + 1)).foldl (belS m) none = some k by
                rw [HTK.out, HA.out.1]
                cases acc with
                | none => rw [belS, if_pos hkm]
                | some b => rw [belS, if_pos ⟨hkm, HLT.out b (HA.out.2 b rfl)⟩])
              generalize acc.getD (-1) = a0 at *
              clear hkm
              go_wp2_with (first | (refine oL ?_; (first | refine sL1 hS rfl rfl rfl ?_ | refine sL2 hS rfl rfl rfl ?_ | refine sL3 hS rfl rfl ?_ | refine sL4 hS rfl rfl ?_ | refine sL5 hS rfl rfl ?_ | refine sL6 hS rfl rfl ?_ | refine sL7 hS rfl rfl ?_)) | (refine oP ?_; ((first | refine sP1 hS rfl rfl rfl ?_ | refine sP2 hS rfl rfl rfl ?_ | refine sP3 hS rfl rfl rfl ?_); clear hS; first | ((fail_if_success guard_hyp L1); intro L1 cl1 w hL1 hM1 hS) | ((fail_if_success guard_hyp L2); intro L2 cl2 w hL2 hM2 hS) | fail)) | ((first | (refine oC ?_; first | refine sC0 hS rfl ?_ | refine sC1 hS rfl rfl ?_ | refine sC2 hS rfl rfl ?_ | refine sC3 hS rfl rfl rfl ?_ | refine sC4 hS rfl rfl rfl ?_)); clear hS; first | ((fail_if_success guard_hyp g1); intro g1 w hS) | ((fail_if_success guard_hyp g2); intro g2 w hS) | fail) | fail)
              refine dr_start0 []  hS (by kernel_rfl) rfl ?_; clear hS; intro w hS
              refine dM hS 0 rfl rfl rfl ?_
              (try simp only [Act.put, nA, nB, nC])
              refine dM hS 1 rfl rfl rfl ?_
              (try simp only [Act.put, nA, nB, nC])
              refine dP hS 2 rfl rfl ?_
              (try simp only [Act.put, nA, nB, nC])
              refine dP hS 3 rfl rfl ?_
              (try simp only [Act.put, nA, nB, nC])
              refine dM hS 4 rfl rfl rfl ?_
              (try simp only [Act.put, nA, nB, nC])
              first | refine dM hS 5 rfl rfl rfl ?_ | refine dQ hS 5 rfl rfl ?_
              (try simp only [Act.put, nA, nB, nC])
              first | refine dM hS 6 rfl rfl rfl ?_ | refine dQ hS 6 rfl rfl ?_
              (try simp only [Act.put, nA, nB, nC])
              first | refine dP hS 7 rfl rfl ?_ | refine dQ hS 7 rfl rfl ?_
              (try simp only [Act.put, nA, nB, nC])
              first | refine dL1 hS 8 rfl rfl rfl rfl ?_ | refine dL2 hS 8 rfl rfl rfl rfl ?_ | refine dL3 hS 8 rfl rfl rfl ?_ | refine dL4 hS 8 rfl rfl rfl ?_ | refine dL5 hS 8 rfl rfl rfl ?_ | refine dL6 hS 8 rfl rfl rfl ?_ | refine dL7 hS 8 rfl rfl rfl ?_ | refine dQ hS 8 rfl rfl ?_
              (try simp only [Act.put, nA, nB, nC])
              first | refine dM hS 9 rfl rfl rfl ?_ | refine dQ hS 9 rfl rfl ?_
              (try simp only [Act.put, nA, nB, nC])
              first | refine dP hS 10 rfl rfl ?_ | refine dQ hS 10 rfl rfl ?_
              (try simp only [Act.put, nA, nB, nC])
              first | refine dL1 hS 11 rfl rfl rfl rfl ?_ | refine dL2 hS 11 rfl rfl rfl rfl ?_ | refine dL3 hS 11 rfl rfl rfl ?_ | refine dL4 hS 11 rfl rfl rfl ?_ | refine dL5 hS 11 rfl rfl rfl ?_ | refine dL6 hS 11 rfl rfl rfl ?_ | refine dL7 hS 11 rfl rfl rfl ?_ | refine dQ hS 11 rfl rfl ?_
              (try simp only [Act.put, nA, nB, nC])
              first | refine dM hS 12 rfl rfl rfl ?_ | refine dQ hS 12 rfl rfl ?_
              (try simp only [Act.put, nA, nB, nC])
              first | refine dM hS 13 rfl rfl rfl ?_ | refine dQ hS 13 rfl rfl ?_
              (try simp only [Act.put, nA, nB, nC])
              first | refine dP hS 14 rfl rfl ?_ | refine dQ hS 14 rfl rfl ?_
              (try simp only [Act.put, nA, nB, nC])
              first | refine dL1 hS 15 rfl rfl rfl rfl ?_ | refine dL2 hS 15 rfl rfl rfl rfl ?_ | refine dL3 hS 15 rfl rfl rfl ?_ | refine dL4 hS 15 rfl rfl rfl ?_ | refine dL5 hS 15 rfl rfl rfl ?_ | refine dL6 hS 15 rfl rfl rfl ?_ | refine dL7 hS 15 rfl rfl rfl ?_ | refine dQ hS 15 rfl rfl ?_
              (try simp only [Act.put, nA, nB, nC])
              first | refine dP hS 16 rfl rfl ?_ | refine dQ hS 16 rfl rfl ?_
              (try simp only [Act.put, nA, nB, nC])
              refine dP hS 17 rfl rfl ?_
              (try simp only [Act.put, nA, nB, nC])
              refine dr_done (by kernel_rfl) ?_
              go_wp2_with (first | (refine oL ?_; (first | refine sL1 hS rfl rfl rfl ?_ | refine sL2 hS rfl rfl rfl ?_ | refine sL3 hS rfl rfl ?_ | refine sL4 hS rfl rfl ?_ | refine sL5 hS rfl rfl ?_ | refine sL6 hS rfl rfl ?_ | refine sL7 hS rfl rfl ?_)) | (refine oP ?_; ((first | refine sP1 hS rfl rfl rfl ?_ | refine sP2 hS rfl rfl rfl ?_ | refine sP3 hS rfl rfl rfl ?_); clear hS; first | ((fail_if_success guard_hyp L1); intro L1 cl1 w hL1 hM1 hS) | ((fail_if_success guard_hyp L2); intro L2 cl2 w hL2 hM2 hS) | fail)) | ((first | (refine oC ?_; first | refine sC0 hS rfl ?_ | refine sC1 hS rfl rfl ?_ | refine sC2 hS rfl rfl ?_ | refine sC3 hS rfl rfl rfl ?_ | refine sC4 hS rfl rfl rfl ?_)); clear hS; first | ((fail_if_success guard_hyp g1); intro g1 w hS) | ((fail_if_success guard_hyp g2); intro g2 w hS) | fail) | fail)
              go_roundw
              case measure => simp [intOf]; omega
              exact ⟨j + 1, some k, by omega, by go_num, rfl, Lib.hid ⟨HN.out, fun b hb => by injection hb with hb; rw [HTE.out, ← hb]; simp⟩, hS⟩
            · have dk : decide (k ≤ m) = false := decide_eq_false hkm
              have HN := Lib.hid (show (l.take (j + 1)).foldl (belS m) none = acc by
                rw [HTK.out, HA.out.1]
                cases acc with
                | none => rw [belS, if_neg hkm]
                | some b => rw [belS, if_neg (fun h => hkm h.1)])
              have HA2 := Lib.hid (show ∀ b, acc = some b → b ∈ l.take (j + 1) from fun b hb => by rw [HTE.out]; exact List.mem_append_left _ (HA.out.2 b hb))
              generalize hav : acc.getD (-1) = a0 at *
              have HAV := Lib.hid hav
              clear hkm hav
              go_wp2_with (first | (refine oL ?_; (first | refine sL1 hS rfl rfl rfl ?_ | refine sL2 hS rfl rfl rfl ?_ | refine sL3 hS rfl rfl ?_ | refine sL4 hS rfl rfl ?_ | refine sL5 hS rfl rfl ?_ | refine sL6 hS rfl rfl ?_ | refine sL7 hS rfl rfl ?_)) | (refine oP ?_; ((first | refine sP1 hS rfl rfl rfl ?_ | refine sP2 hS rfl rfl rfl ?_ | refine sP3 hS rfl rfl rfl ?_); clear hS; first | ((fail_if_success guard_hyp L1); intro L1 cl1 w hL1 hM1 hS) | ((fail_if_success guard_hyp L2); intro L2 cl2 w hL2 hM2 hS) | fail)) | ((first | (refine oC ?_; first | refine sC0 hS rfl ?_ | refine sC1 hS rfl rfl ?_ | refine sC2 hS rfl rfl ?_ | refine sC3 hS rfl rfl rfl ?_ | refine sC4 hS rfl rfl rfl ?_)); clear hS; first | ((fail_if_success guard_hyp g1); intro g1 w hS) | ((fail_if_success guard_hyp g2); intro g2 w hS) | fail) | fail)
              refine dr_start0 []  hS (by kernel_rfl) rfl ?_; clear hS; intro w hS
              refine dM hS 0 rfl rfl rfl ?_
              (try simp only [Act.put, nA, nB, nC])
              refine dM hS 1 rfl rfl rfl ?_
              (try simp only [Act.put, nA, nB, nC])
              refine dP hS 2 rfl rfl ?_
              (try simp only [Act.put, nA, nB, nC])
              refine dP hS 3 rfl rfl ?_
              (try simp only [Act.put, nA, nB, nC])
              refine dM hS 4 rfl rfl rfl ?_
              (try simp only [Act.put, nA, nB, nC])
              first | refine dM hS 5 rfl rfl rfl ?_ | refine dQ hS 5 rfl rfl ?_
              (try simp only [Act.put, nA, nB, nC])
              first | refine dM hS 6 rfl rfl rfl ?_ | refine dQ hS 6 rfl rfl ?_
              (try simp only [Act.put, nA, nB, nC])
              first | refine dP hS 7 rfl rfl ?_ | refine dQ hS 7 rfl rfl ?_
              (try simp only [Act.put, nA, nB, nC])
              first | refine dL1 hS 8 rfl rfl rfl rfl ?_ | refine dL2 hS 8 rfl rfl rfl rfl ?_ | refine dL3 hS 8 rfl rfl rfl ?_ | refine dL4 hS 8 rfl rfl rfl ?_ | refine dL5 hS 8 rfl rfl rfl ?_ | refine dL6 hS 8 rfl rfl rfl ?_ | refine dL7 hS 8 rfl rfl rfl ?_ | refine dQ hS 8 rfl rfl ?_
              (try simp only [Act.put, nA, nB, nC])
              first | refine dM hS 9 rfl rfl rfl ?_ | refine dQ hS 9 rfl rfl ?_
              (try simp only [Act.put, nA, nB, nC])
              first | refine dP hS 10 rfl rfl ?_ | refine dQ hS 10 rfl rfl ?_
              (try simp only [Act.put, nA, nB, nC])
              first | refine dL1 hS 11 rfl rfl rfl rfl ?_ | refine dL2 hS 11 rfl rfl rfl rfl ?_ | refine dL3 hS 11 rfl rfl rfl ?_ | refine dL4 hS 11 rfl rfl rfl ?_ | refine dL5 hS 11 rfl rfl rfl ?_ | refine dL6 hS 11 rfl rfl rfl ?_ | refine dL7 hS 11 rfl rfl rfl ?_ | refine dQ hS 11 rfl rfl ?_
              (try simp only [Act.put, nA, nB, nC])
              first | refine dM hS 12 rfl rfl rfl ?_ | refine dQ hS 12 rfl rfl ?_
              (try simp only [Act.put, nA, nB, nC])
              first | refine dM hS 13 rfl rfl rfl ?_ | refine dQ hS 13 rfl rfl ?_
              (try simp only [Act.put, nA, nB, nC])
              first | refine dP hS 14 rfl rfl ?_ | refine dQ hS 14 rfl rfl ?_
              (try simp only [Act.put, nA, nB, nC])
              first | refine dL1 hS 15 rfl rfl rfl rfl ?_ | refine dL2 hS 15 rfl rfl rfl rfl ?_ | refine dL3 hS 15 rfl rfl rfl ?_ | refine dL4 hS 15 rfl rfl rfl ?_ | refine dL5 hS 15 rfl rfl rfl ?_ | refine dL6 hS 15 rfl rfl rfl ?_ | refine dL7 hS 15 rfl rfl rfl ?_ | refine dQ hS 15 rfl rfl ?_
              (try simp only [Act.put, nA, nB, nC])
              first | refine dP hS 16 rfl rfl ?_ | refine dQ hS 16 rfl rfl ?_
              (try simp only [Act.put, nA, nB, nC])
              refine dP hS 17 rfl rfl ?_
              (try simp only [Act.put, nA, nB, nC])
              refine dr_done (by kernel_rfl) ?_
              go_wp2_with (first | (refine oL ?_; (first | refine sL1 hS rfl rfl rfl ?_ | refine sL2 hS rfl rfl rfl ?_ | refine sL3 hS rfl rfl ?_ | refine sL4 hS rfl rfl ?_ | refine sL5 hS rfl rfl ?_ | refine sL6 hS rfl rfl ?_ | refine sL7 hS rfl rfl ?_)) | (refine oP ?_; ((first | refine sP1 hS rfl rfl rfl ?_ | refine sP2 hS rfl rfl rfl ?_ | refine sP3 hS rfl rfl rfl ?_); clear hS; first | ((fail_if_success guard_hyp L1); intro L1 cl1 w hL1 hM1 hS) | ((fail_if_success guard_hyp L2); intro L2 cl2 w hL2 hM2 hS) | fail)) | ((first | (refine oC ?_; first | refine sC0 hS rfl ?_ | refine sC1 hS rfl rfl ?_ | refine sC2 hS rfl rfl ?_ | refine sC3 hS rfl rfl rfl ?_ | refine sC4 hS rfl rfl rfl ?_)); clear hS; first | ((fail_if_success guard_hyp g1); intro g1 w hS) | ((fail_if_success guard_hyp g2); intro g2 w hS) | fail) | fail)
              go_roundw
              case measure => simp [intOf]; omega
              exact ⟨j + 1, acc, by omega, by go_num, by rw [HAV.out], Lib.hid ⟨HN.out, HA2.out⟩, hS⟩
          · have hjl' : ¬ (j : Int) < l.length := by omega
            have HE := Lib.hid (show acc.getD (-1) = (bel l m).getD (-1) by rw [← HA.out.1, List.take_of_length_le (by omega)]; rfl)
            generalize acc.getD (-1) = a0 at *
            go_wp2_with (first | (refine oP ?_; refine st_app hS rfl rfl rfl rfl (by simp [Value.oneCell']) (by omega) ?_; clear hS; intro L9 cl9 w hL9 hM9 hS) | (refine oL ?_; (first | refine sL1 hS rfl rfl rfl ?_ | refine sL2 hS rfl rfl rfl ?_ | refine sL3 hS rfl rfl ?_ | refine sL4 hS rfl rfl ?_ | refine sL5 hS rfl rfl ?_ | refine sL6 hS rfl rfl ?_ | refine sL7 hS rfl rfl ?_)) | (refine oP ?_; ((first | refine sP1 hS rfl rfl rfl ?_ | refine sP2 hS rfl rfl rfl ?_ | refine sP3 hS rfl rfl rfl ?_); clear hS; first | ((fail_if_success guard_hyp L1); intro L1 cl1 w hL1 hM1 hS) | ((fail_if_success guard_hyp L2); intro L2 cl2 w hL2 hM2 hS) | fail)) | ((first | (refine oC ?_; first | refine sC0 hS rfl ?_ | refine sC1 hS rfl rfl ?_ | refine sC2 hS rfl rfl ?_ | refine sC3 hS rfl rfl rfl ?_ | refine sC4 hS rfl rfl rfl ?_)); clear hS; first | ((fail_if_success guard_hyp g1); intro g1 w hS) | ((fail_if_success guard_hyp g2); intro g2 w hS) | fail) | fail)
            go_roundw
            case measure => simp [intOf]; omega
            refine ⟨q + 1, cl9, L9, by omega, by go_num, rfl, ?_⟩
            rw [HT.out, HBO.out, ← HE.out]
            simpa [ints] using hS
      · have hqc' : ¬ (q : Int) < cut.length := by omega
        have dqn : decide (q < cut.length) = false := decide_eq_false hqc
        rw [if_neg hqc] at HBO
        go_wp2_with (first | (refine oL ?_; (first | refine sL1 hS rfl rfl rfl ?_ | refine sL2 hS rfl rfl rfl ?_ | refine sL3 hS rfl rfl ?_ | refine sL4 hS rfl rfl ?_ | refine sL5 hS rfl rfl ?_ | refine sL6 hS rfl rfl ?_ | refine sL7 hS rfl rfl ?_)) | (refine oP ?_; ((first | refine sP1 hS rfl rfl rfl ?_ | refine sP2 hS rfl rfl rfl ?_ | refine sP3 hS rfl rfl rfl ?_); clear hS; first | ((fail_if_success guard_hyp L1); intro L1 cl1 w hL1 hM1 hS) | ((fail_if_success guard_hyp L2); intro L2 cl2 w hL2 hM2 hS) | fail)) | ((first | (refine oC ?_; first | refine sC0 hS rfl ?_ | refine sC1 hS rfl rfl ?_ | refine sC2 hS rfl rfl ?_ | refine sC3 hS rfl rfl rfl ?_ | refine sC4 hS rfl rfl rfl ?_)); clear hS; first | ((fail_if_success guard_hyp g1); intro g1 w hS) | ((fail_if_success guard_hyp g2); intro g2 w hS) | fail) | fail)
        go_loopw [7, 8] (fun s7 s8 wr => ∃ (j : Nat), j ≤ l.length ∧ s8 = .int .i64 j ∧ s7 = .int .i64 (-1) ∧ St w0 NoM [row (.slice L q c) 3 1 q (ints xs)] wr) (fun _ s8 _ => l.length - (intOf s8).toNat)
        case atStart => exact ⟨0, by omega, rfl, rfl, hS⟩
        case round =>
          clear hS
          obtain ⟨j, hj, rfl, rfl, hS⟩ := hrel
          by_cases hjl : j < l.length
          · have hjl' : (j : Int) < l.length := by omega
            go_wp2_with (first | (refine oL ?_; (first | refine sL1 hS rfl rfl rfl ?_ | refine sL2 hS rfl rfl rfl ?_ | refine sL3 hS rfl rfl ?_ | refine sL4 hS rfl rfl ?_ | refine sL5 hS rfl rfl ?_ | refine sL6 hS rfl rfl ?_ | refine sL7 hS rfl rfl ?_)) | (refine oP ?_; ((first | refine sP1 hS rfl rfl rfl ?_ | refine sP2 hS rfl rfl rfl ?_ | refine sP3 hS rfl rfl rfl ?_); clear hS; first | ((fail_if_success guard_hyp L1); intro L1 cl1 w hL1 hM1 hS) | ((fail_if_success guard_hyp L2); intro L2 cl2 w hL2 hM2 hS) | fail)) | ((first | (refine oC ?_; first | refine sC0 hS rfl ?_ | refine sC1 hS rfl rfl ?_ | refine sC2 hS rfl rfl ?_ | refine sC3 hS rfl rfl rfl ?_ | refine sC4 hS rfl rfl rfl ?_)); clear hS; first | ((fail_if_success guard_hyp g1); intro g1 w hS) | ((fail_if_success guard_hyp g2); intro g2 w hS) | fail) | fail)
            refine dr_start0 []  hS (by kernel_rfl) rfl ?_; clear hS; intro w hS
            refine dM hS 0 rfl rfl rfl ?_
            (try simp only [Act.put, nA, nB, nC])
            refine dM hS 1 rfl rfl rfl ?_
            (try simp only [Act.put, nA, nB, nC])
            refine dP hS 2 rfl rfl ?_
            (try simp only [Act.put, nA, nB, nC])
            refine dP hS 3 rfl rfl ?_
            (try simp only [Act.put, nA, nB, nC])
            refine dM hS 4 rfl rfl rfl ?_
            (try simp only [Act.put, nA, nB, nC])
            first | refine dM hS 5 rfl rfl rfl ?_ | refine dQ hS 5 rfl rfl ?_
            (try simp only [Act.put, nA, nB, nC])
            first | refine dM hS 6 rfl rfl rfl ?_ | refine dQ hS 6 rfl rfl ?_
            (try simp only [Act.put, nA, nB, nC])
            first | refine dP hS 7 rfl rfl ?_ | refine dQ hS 7 rfl rfl ?_
            (try simp only [Act.put, nA, nB, nC])
            first | refine dL1 hS 8 rfl rfl rfl rfl ?_ | refine dL2 hS 8 rfl rfl rfl rfl ?_ | refine dL3 hS 8 rfl rfl rfl ?_ | refine dL4 hS 8 rfl rfl rfl ?_ | refine dL5 hS 8 rfl rfl rfl ?_ | refine dL6 hS 8 rfl rfl rfl ?_ | refine dL7 hS 8 rfl rfl rfl ?_ | refine dQ hS 8 rfl rfl ?_
            (try simp only [Act.put, nA, nB, nC])
            first | refine dM hS 9 rfl rfl rfl ?_ | refine dQ hS 9 rfl rfl ?_
            (try simp only [Act.put, nA, nB, nC])
            first | refine dP hS 10 rfl rfl ?_ | refine dQ hS 10 rfl rfl ?_
            (try simp only [Act.put, nA, nB, nC])
            first | refine dL1 hS 11 rfl rfl rfl rfl ?_ | refine dL2 hS 11 rfl rfl rfl rfl ?_ | refine dL3 hS 11 rfl rfl rfl ?_ | refine dL4 hS 11 rfl rfl rfl ?_ | refine dL5 hS 11 rfl rfl rfl ?_ | refine dL6 hS 11 rfl rfl rfl ?_ | refine dL7 hS 11 rfl rfl rfl ?_ | refine dQ hS 11 rfl rfl ?_
            (try simp only [Act.put, nA, nB, nC])
            first | refine dM hS 12 rfl rfl rfl ?_ | refine dQ hS 12 rfl rfl ?_
            (try simp only [Act.put, nA, nB, nC])
            first | refine dM hS 13 rfl rfl rfl ?_ | refine dQ hS 13 rfl rfl ?_
            (try simp only [Act.put, nA, nB, nC])
            first | refine dP hS 14 rfl rfl ?_ | refine dQ hS 14 rfl rfl ?_
            (try simp only [Act.put, nA, nB, nC])
            first | refine dL1 hS 15 rfl rfl rfl rfl ?_ | refine dL2 hS 15 rfl rfl rfl rfl ?_ | refine dL3 hS 15 rfl rfl rfl ?_ | refine dL4 hS 15 rfl rfl rfl ?_ | refine dL5 hS 15 rfl rfl rfl ?_ | refine dL6 hS 15 rfl rfl rfl ?_ | refine dL7 hS 15 rfl rfl rfl ?_ | refine dQ hS 15 rfl rfl ?_
            (try simp only [Act.put, nA, nB, nC])
            first | refine dP hS 16 rfl rfl ?_ | refine dQ hS 16 rfl rfl ?_
            (try simp only [Act.put, nA, nB, nC])
            refine dP hS 17 rfl rfl ?_
            (try simp only [Act.put, nA, nB, nC])
            refine dr_done (by kernel_rfl) ?_
            go_wp2_with (first | (refine oL ?_; (first | refine sL1 hS rfl rfl rfl ?_ | refine sL2 hS rfl rfl rfl ?_ | refine sL3 hS rfl rfl ?_ | refine sL4 hS rfl rfl ?_ | refine sL5 hS rfl rfl ?_ | refine sL6 hS rfl rfl ?_ | refine sL7 hS rfl rfl ?_)) | (refine oP ?_; ((first | refine sP1 hS rfl rfl rfl ?_ | refine sP2 hS rfl rfl rfl ?_ | refine sP3 hS rfl rfl rfl ?_); clear hS; first | ((fail_if_success guard_hyp L1); intro L1 cl1 w hL1 hM1 hS) | ((fail_if_success guard_hyp L2); intro L2 cl2 w hL2 hM2 hS) | fail)) | ((first | (refine oC ?_; first | refine sC0 hS rfl ?_ | refine sC1 hS rfl rfl ?_ | refine sC2 hS rfl rfl ?_ | refine sC3 hS rfl rfl rfl ?_ | refine sC4 hS rfl rfl rfl ?_)); clear hS; first | ((fail_if_success guard_hyp g1); intro g1 w hS) | ((fail_if_success guard_hyp g2); intro g2 w hS) | fail) | fail)
            go_roundw
            case measure => simp [intOf]; omega
            exact ⟨j + 1, by omega, by go_num, rfl, hS⟩
          · have hjl' : ¬ (j : Int) < l.length := by omega
            go_wp2_with (first | (refine oP ?_; refine st_app hS rfl rfl rfl rfl (by simp [Value.oneCell']) (by omega) ?_; clear hS; intro L9 cl9 w hL9 hM9 hS) | (refine oL ?_; (first | refine sL1 hS rfl rfl rfl ?_ | refine sL2 hS rfl rfl rfl ?_ | refine sL3 hS rfl rfl ?_ | refine sL4 hS rfl rfl ?_ | refine sL5 hS rfl rfl ?_ | refine sL6 hS rfl rfl ?_ | refine sL7 hS rfl rfl ?_)) | (refine oP ?_; ((first | refine sP1 hS rfl rfl rfl ?_ | refine sP2 hS rfl rfl rfl ?_ | refine sP3 hS rfl rfl rfl ?_); clear hS; first | ((fail_if_success guard_hyp L1); intro L1 cl1 w hL1 hM1 hS) | ((fail_if_success guard_hyp L2); intro L2 cl2 w hL2 hM2 hS) | fail)) | ((first | (refine oC ?_; first | refine sC0 hS rfl ?_ | refine sC1 hS rfl rfl ?_ | refine sC2 hS rfl rfl ?_ | refine sC3 hS rfl rfl rfl ?_ | refine sC4 hS rfl rfl rfl ?_)); clear hS; first | ((fail_if_success guard_hyp g1); intro g1 w hS) | ((fail_if_success guard_hyp g2); intro g2 w hS) | fail) | fail)
            go_roundw
            case measure => simp [intOf]; omega
            refine ⟨q + 1, cl9, L9, by omega, by go_num, rfl, ?_⟩
            rw [HT.out, HBO.out]
            simpa [ints] using hS
    · have HE := Lib.hid (show q = ls.length by omega)
      have hlt' : ¬ (q : Int) < ls.length := by omega
      go_wp2_with (first | (refine oL ?_; (first | refine sL1 hS rfl rfl rfl ?_ | refine sL2 hS rfl rfl rfl ?_ | refine sL3 hS rfl rfl ?_ | refine sL4 hS rfl rfl ?_ | refine sL5 hS rfl rfl ?_ | refine sL6 hS rfl rfl ?_ | refine sL7 hS rfl rfl ?_)) | (refine oP ?_; ((first | refine sP1 hS rfl rfl rfl ?_ | refine sP2 hS rfl rfl rfl ?_ | refine sP3 hS rfl rfl rfl ?_); clear hS; first | ((fail_if_success guard_hyp L1); intro L1 cl1 w hL1 hM1 hS) | ((fail_if_success guard_hyp L2); intro L2 cl2 w hL2 hM2 hS) | fail)) | ((first | (refine oC ?_; first | refine sC0 hS rfl ?_ | refine sC1 hS rfl rfl ?_ | refine sC2 hS rfl rfl ?_ | refine sC3 hS rfl rfl rfl ?_ | refine sC4 hS rfl rfl rfl ?_)); clear hS; first | ((fail_if_success guard_hyp g1); intro g1 w hS) | ((fail_if_success guard_hyp g2); intro g2 w hS) | fail) | fail)
      go_ret
      rw [List.take_of_length_le (by rw [basesL_len]; omega), HE.out] at hS
      rw [HE.out]
      exact hS.ret rfl
set_option maxRecDepth 100000 in
set_option maxHeartbeats 6400000 in
theorem rkeep_any {S T : Nat → Prop} (A X : Option Addr) (cA cX n m : Nat) (ls : List (List Int)) (b : List Int) (w0 : World) (hal : RR S w0 A ls) (hx : RI T w0 X b) (hn : ls.length = n) (hm : b.length = m) (hn1 : n ≤ 1000) (hm1 : m ≤ 9223372036854775807) (hrl : ∀ l ∈ ls, l.length ≤ 1000) :
    Calls Try.prog 28 #[.slice A n cA, .slice X m cX] w0 (RetRR (fun _ => False) w0 (keepL ls b)) := by
  have hS := St.start w0 NoM
  subst hn hm
  have HR := Lib.hid hrl
  clear hrl
  go_enter Try.func28, Try.ntmps28
  go_wp2_with (first | (refine oL ?_; (first | refine sL1 hS rfl rfl rfl ?_ | refine sL2 hS rfl rfl rfl ?_ | refine sL3 hS rfl rfl ?_ | refine sL4 hS rfl rfl ?_ | refine sL5 hS rfl rfl ?_ | refine sL6 hS rfl rfl ?_ | refine sL7 hS rfl rfl ?_)) | (refine oP ?_; ((first | refine sP1 hS rfl rfl rfl ?_ | refine sP2 hS rfl rfl rfl ?_ | refine sP3 hS rfl rfl rfl ?_); clear hS; first | ((fail_if_success guard_hyp L1); intro L1 cl1 w hL1 hM1 hS) | ((fail_if_success guard_hyp L2); intro L2 cl2 w hL2 hM2 hS) | ((fail_if_success guard_hyp L3); intro L3 cl3 w hL3 hM3 hS) | fail)) | ((first | (refine oC ?_; first | refine sC0 hS rfl ?_ | refine sC1 hS rfl rfl ?_ | refine sC2 hS rfl rfl ?_ | refine sC3 hS rfl rfl rfl ?_ | refine sC4 hS rfl rfl rfl ?_)); clear hS; first | ((fail_if_success guard_hyp g1); intro g1 w hS) | ((fail_if_success guard_hyp g2); intro g2 w hS) | ((fail_if_success guard_hyp g3); intro g3 w hS) | fail) | fail)
  replace hS := (hS.addNil 24 1).frozNil
  go_loopw [5, 6, 7, 8] (fun s5 s6 s7 s8 wr => ∃ (q c : Nat) (L : Option Addr) (vs : List Value) (T1 : Nat → Prop) (u1 : World), q ≤ ls.length ∧ capOk q c ∧ s6 = .int .i64 q ∧ s5 = .slice L q c ∧ Hid (Reps (repRow T1 u1) 1 vs ((keepL ls b).take q)) ∧ St w0 NoM [froz T1 u1, row (.slice L q c) 24 1 q vs] wr) (fun _ s6 _ _ _ => ls.length - (intOf s6).toNat)
  case atStart => exact ⟨0, 0, none, [], _, _, by omega, by simp [capOk], rfl, rfl, Lib.hid rfl, hS⟩
  case round =>
    clear hS
    obtain ⟨q, c0, L0, vs, T1, u1, hq, hk0, rfl, rfl, HV, hS⟩ := hrel
    by_cases hql : q < ls.length
    · have hql' : (q : Int) < ls.length := by omega
      obtain ⟨b2, o2, B, cB, rfl, hfc2, hB, hcB, hcB'⟩ := hal.fc hql
      have hcc2 := hfc2.c
      have hrl : (rowOf ls q).length ≤ 1000 := by rw [rowOf_eq hql]; exact HR.out _ (List.getElem_mem hql)
      have HTK := Lib.hid (keepL_take (b := b) hql)
      clear hfc2
      generalize rowOf ls q = l at *
      go_wp2_with (first | (refine oL ?_; (first | refine sL1 hS rfl rfl rfl ?_ | refine sL2 hS rfl rfl rfl ?_ | refine sL3 hS rfl rfl ?_ | refine sL4 hS rfl rfl ?_ | refine sL5 hS rfl rfl ?_ | refine sL6 hS rfl rfl ?_ | refine sL7 hS rfl rfl ?_)) | (refine oP ?_; ((first | refine sP1 hS rfl rfl rfl ?_ | refine sP2 hS rfl rfl rfl ?_ | refine sP3 hS rfl rfl rfl ?_); clear hS; first | ((fail_if_success guard_hyp L1); intro L1 cl1 w hL1 hM1 hS) | ((fail_if_success guard_hyp L2); intro L2 cl2 w hL2 hM2 hS) | ((fail_if_success guard_hyp L3); intro L3 cl3 w hL3 hM3 hS) | fail)) | ((first | (refine oC ?_; first | refine sC0 hS rfl ?_ | refine sC1 hS rfl rfl ?_ | refine sC2 hS rfl rfl ?_ | refine sC3 hS rfl rfl rfl ?_ | refine sC4 hS rfl rfl rfl ?_)); clear hS; first | ((fail_if_success guard_hyp g1); intro g1 w hS) | ((fail_if_success guard_hyp g2); intro g2 w hS) | ((fail_if_success guard_hyp g3); intro g3 w hS) | fail) | fail)
      replace hS := hS.addNil 3 1
      go_loopw [7, 8] (fun s7 s8 wr => ∃ (j c : Nat) (L : Option Addr) (ys : List Int), j ≤ l.length ∧ ys.length ≤ j ∧ capOk ys.length c ∧ s8 = .int .i64 j ∧ s7 = .slice L ys.length c ∧ Hid (ys = (l.take j).filter (keepB b q)) ∧ St w0 NoM [irow 3 L c ys, froz T1 u1, row (.slice L0 q c0) 24 1 q vs] wr) (fun _ s8 _ => l.length - (intOf s8).toNat)
      case atStart => exact ⟨0, 0, none, [], by omega, by simp, by simp [capOk], rfl, rfl, Lib.hid (by simp), hS⟩
      case round =>
        clear hS
        obtain ⟨j, c, L, ys, hj, hyl, hcc, rfl, rfl, HY, hS⟩ := hrel
        by_cases hjl : j < l.length
        · have hjl' : (j : Int) < l.length := by omega
          obtain ⟨b4, o4, rfl, _, hf4⟩ := hB.atNS hjl
          have HF := Lib.hid (filt_take (P := keepB b q) hjl)
          have HKB := Lib.hid (show keepB b q (nth l j) = (decide (b.length ≤ q) || decide (nth b q ≤ nth l j)) from rfl)
          generalize nth l j = k at *
          by_cases hqb : b.length ≤ q
          · have hqb' : (b.length : Int) ≤ q := by omega
            have HK1 := Lib.hid (show keepB b q k = true by rw [HKB.out, decide_eq_true hqb]; rfl)
            have dq : decide (b.length ≤ q) = true := decide_eq_true hqb
            rw [HK1.out, if_pos rfl] at HF
            go_wp2_with (first | (refine oL ?_; (first | refine sL1 hS rfl rfl rfl ?_ | refine sL2 hS rfl rfl rfl ?_ | refine sL3 hS rfl rfl ?_ | refine sL4 hS rfl rfl ?_ | refine sL5 hS rfl rfl ?_ | refine sL6 hS rfl rfl ?_ | refine sL7 hS rfl rfl ?_)) | (refine oP ?_; ((first | refine sP1 hS rfl rfl rfl ?_ | refine sP2 hS rfl rfl rfl ?_ | refine sP3 hS rfl rfl rfl ?_); clear hS; first | ((fail_if_success guard_hyp L1); intro L1 cl1 w hL1 hM1 hS) | ((fail_if_success guard_hyp L2); intro L2 cl2 w hL2 hM2 hS) | ((fail_if_success guard_hyp L3); intro L3 cl3 w hL3 hM3 hS) | fail)) | ((first | (refine oC ?_; first | refine sC0 hS rfl ?_ | refine sC1 hS rfl rfl ?_ | refine sC2 hS rfl rfl ?_ | refine sC3 hS rfl rfl rfl ?_ | refine sC4 hS rfl rfl rfl ?_)); clear hS; first | ((fail_if_success guard_hyp g1); intro g1 w hS) | ((fail_if_success guard_hyp g2); intro g2 w hS) | ((fail_if_success guard_hyp g3); intro g3 w hS) | fail) | fail)
            refine dr_start0 []  hS (by kernel_rfl) rfl ?_; clear hS; intro w hS
            refine dM hS 0 rfl rfl rfl ?_
            (try simp only [Act.put, nA, nB, nC])
            refine dM hS 1 rfl rfl rfl ?_
            (try simp only [Act.put, nA, nB, nC])
            refine dP hS 2 rfl rfl ?_
            (try simp only [Act.put, nA, nB, nC])
            refine dP hS 3 rfl rfl ?_
            (try simp only [Act.put, nA, nB, nC])
            refine dM hS 4 rfl rfl rfl ?_
            (try simp only [Act.put, nA, nB, nC])
            first | refine dM hS 5 rfl rfl rfl ?_ | refine dQ hS 5 rfl rfl ?_
            (try simp only [Act.put, nA, nB, nC])
            first | refine dM hS 6 rfl rfl rfl ?_ | refine dQ hS 6 rfl rfl ?_
            (try simp only [Act.put, nA, nB, nC])
            first | refine dP hS 7 rfl rfl ?_ | refine dQ hS 7 rfl rfl ?_
            (try simp only [Act.put, nA, nB, nC])
            first | refine dL1 hS 8 rfl rfl rfl rfl ?_ | refine dL2 hS 8 rfl rfl rfl rfl ?_ | refine dL3 hS 8 rfl rfl rfl ?_ | refine dL4 hS 8 rfl rfl rfl ?_ | refine dL5 hS 8 rfl rfl rfl ?_ | refine dL6 hS 8 rfl rfl rfl ?_ | refine dL7 hS 8 rfl rfl rfl ?_ | refine dQ hS 8 rfl rfl ?_
            (try simp only [Act.put, nA, nB, nC])
            first | refine dM hS 9 rfl rfl rfl ?_ | refine dQ hS 9 rfl rfl ?_
            (try simp only [Act.put, nA, nB, nC])
            first | refine dP hS 10 rfl rfl ?_ | refine dQ hS 10 rfl rfl ?_
            (try simp only [Act.put, nA, nB, nC])
            first | refine dL1 hS 11 rfl rfl rfl rfl ?_ | refine dL2 hS 11 rfl rfl rfl rfl ?_ | refine dL3 hS 11 rfl rfl rfl ?_ | refine dL4 hS 11 rfl rfl rfl ?_ | refine dL5 hS 11 rfl rfl rfl ?_ | refine dL6 hS 11 rfl rfl rfl ?_ | refine dL7 hS 11 rfl rfl rfl ?_ | refine dQ hS 11 rfl rfl ?_
            (try simp only [Act.put, nA, nB, nC])
            first | refine dM hS 12 rfl rfl rfl ?_ | refine dQ hS 12 rfl rfl ?_
            (try simp only [Act.put, nA, nB, nC])
            first | refine dM hS 13 rfl rfl rfl ?_ | refine dQ hS 13 rfl rfl ?_
            (try simp only [Act.put, nA, nB, nC])
            first | refine dP hS 14 rfl rfl ?_ | refine dQ hS 14 rfl rfl ?_
            (try simp only [Act.put, nA, nB, nC])
            first | refine dL1 hS 15 rfl rfl rfl rfl ?_ | refine dL2 hS 15 rfl rfl rfl rfl ?_ | refine dL3 hS 15 rfl rfl rfl ?_ | refine dL4 hS 15 rfl rfl rfl ?_ | refine dL5 hS 15 rfl rfl rfl ?_ | refine dL6 hS 15 rfl rfl rfl ?_ | refine dL7 hS 15 rfl rfl rfl ?_ | refine dQ hS 15 rfl rfl ?_
            (try simp only [Act.put, nA, nB, nC])
            first | refine dP hS 16 rfl rfl ?_ | refine dQ hS 16 rfl rfl ?_
            (try simp only [Act.put, nA, nB, nC])
            refine dP hS 17 rfl rfl ?_
            (try simp only [Act.put, nA, nB, nC])
            refine dr_done (by kernel_rfl) ?_
            go_wp2_with (first | (refine oL ?_; (first | refine sL1 hS rfl rfl rfl ?_ | refine sL2 hS rfl rfl rfl ?_ | refine sL3 hS rfl rfl ?_ | refine sL4 hS rfl rfl ?_ | refine sL5 hS rfl rfl ?_ | refine sL6 hS rfl rfl ?_ | refine sL7 hS rfl rfl ?_)) | (refine oP ?_; ((first | refine sP1 hS rfl rfl rfl ?_ | refine sP2 hS rfl rfl rfl ?_ | refine sP3 hS rfl rfl rfl ?_); clear hS; first | ((fail_if_success guard_hyp L1); intro L1 cl1 w hL1 hM1 hS) | ((fail_if_success guard_hyp L2); intro L2 cl2 w hL2 hM2 hS) | ((fail_if_success guard_hyp L3); intro L3 cl3 w hL3 hM3 hS) | fail)) | ((first | (refine oC ?_; first | refine sC0 hS rfl ?_ | refine sC1 hS rfl rfl ?_ | refine sC2 hS rfl rfl ?_ | refine sC3 hS rfl rfl rfl ?_ | refine sC4 hS rfl rfl rfl ?_)); clear hS; first | ((fail_if_success guard_hyp g1); intro g1 w hS) | ((fail_if_success guard_hyp g2); intro g2 w hS) | ((fail_if_success guard_hyp g3); intro g3 w hS) | fail) | fail)
            go_roundw
            case measure => simp [intOf]; omega
            exact ⟨j + 1, cl1, L1, ys ++ [k], by omega, by simp; omega, ⟨by simpa using hL1, hM1⟩, by go_num, by first | rfl | simp, Lib.hid (by rw [HF.out, HY.out]), hS.re⟩
          · have hqb1 : q < b.length := by omega
            have hqb' : (q : Int) < b.length := by omega
            have dq : decide (b.length ≤ q) = false := decide_eq_false hqb
            obtain ⟨b1, o1, rfl, _, hc1⟩ := hx.atNS hqb1
            rw [decide_eq_false hqb, Bool.false_or] at HKB
            generalize nth b q = m at *
            by_cases hmk : m ≤ k
            · have HK1 := Lib.hid (show keepB b q k = true by rw [HKB.out, decide_eq_true hmk])
              have dm : decide (m ≤ k) = true := decide_eq_true hmk
              rw [HK1.out, if_pos rfl] at HF
              clear hmk
              go_wp2_with (first | (refine oL ?_; (first | refine sL1 hS rfl rfl rfl ?_ | refine sL2 hS rfl rfl rfl ?_ | refine sL3 hS rfl rfl ?_ | refine sL4 hS rfl rfl ?_ | refine sL5 hS rfl rfl ?_ | refine sL6 hS rfl rfl ?_ | refine sL7 hS rfl rfl ?_)) | (refine oP ?_; ((first | refine sP1 hS rfl rfl rfl ?_ | refine sP2 hS rfl rfl rfl ?_ | refine sP3 hS rfl rfl rfl ?_); clear hS; first | ((fail_if_success guard_hyp L1); intro L1 cl1 w hL1 hM1 hS) | ((fail_if_success guard_hyp L2); intro L2 cl2 w hL2 hM2 hS) | ((fail_if_success guard_hyp L3); intro L3 cl3 w hL3 hM3 hS) | fail)) | ((first | (refine oC ?_; first | refine sC0 hS rfl ?_ | refine sC1 hS rfl rfl ?_ | refine sC2 hS rfl rfl ?_ | refine sC3 hS rfl rfl rfl ?_ | refine sC4 hS rfl rfl rfl ?_)); clear hS; first | ((fail_if_success guard_hyp g1); intro g1 w hS) | ((fail_if_success guard_hyp g2); intro g2 w hS) | ((fail_if_success guard_hyp g3); intro g3 w hS) | fail) | fail)
              refine dr_start0 []  hS (by kernel_rfl) rfl ?_; clear hS; intro w hS
              refine dM hS 0 rfl rfl rfl ?_
              (try simp only [Act.put, nA, nB, nC])
              refine dM hS 1 rfl rfl rfl ?_
              (try simp only [Act.put, nA, nB, nC])
              refine dP hS 2 rfl rfl ?_
              (try simp only [Act.put, nA, nB, nC])
              refine dP hS 3 rfl rfl ?_
              (try simp only [Act.put, nA, nB, nC])
              refine dM hS 4 rfl rfl rfl ?_
              (try simp only [Act.put, nA, nB, nC])
              first | refine dM hS 5 rfl rfl rfl ?_ | refine dQ hS 5 rfl rfl ?_
              (try simp only [Act.put, nA, nB, nC])
              first | refine dM hS 6 rfl rfl rfl ?_ | refine dQ hS 6 rfl rfl ?_
              (try simp only [Act.put, nA, nB, nC])
              first | refine dP hS 7 rfl rfl ?_ | refine dQ hS 7 rfl rfl ?_
              (try simp only [Act.put, nA, nB, nC])
              first | refine dL1 hS 8 rfl rfl rfl rfl ?_ | refine dL2 hS 8 rfl rfl rfl rfl ?_ | refine dL3 hS 8 rfl rfl rfl ?_ | refine dL4 hS 8 rfl rfl rfl ?_ | refine dL5 hS 8 rfl rfl rfl ?_ | refine dL6 hS 8 rfl rfl rfl ?_ | refine dL7 hS 8 rfl rfl rfl ?_ | refine dQ hS 8 rfl rfl ?_
              (try simp only [Act.put, nA, nB, nC])
              first | refine dM hS 9 rfl rfl rfl ?_ | refine dQ hS 9 rfl rfl ?_
              (try simp only [Act.put, nA, nB, nC])
              first | refine dP hS 10 rfl rfl ?_ | refine dQ hS 10 rfl rfl ?_
              (try simp only [Act.put, nA, nB, nC])
              first | refine dL1 hS 11 rfl rfl rfl rfl ?_ | refine dL2 hS 11 rfl rfl rfl rfl ?_ | refine dL3 hS 11 rfl rfl rfl ?_ | refine dL4 hS 11 rfl rfl rfl ?_ | refine dL5 hS 11 rfl rfl rfl ?_ | refine dL6 hS 11 rfl rfl rfl ?_ | refine dL7 hS 11 rfl rfl rfl ?_ | refine dQ hS 11 rfl rfl ?_
              (try simp only [Act.put, nA, nB, nC])
              first | refine dM hS 12 rfl rfl rfl ?_ | refine dQ hS 12 rfl rfl ?_
              (try simp only [Act.put, nA, nB, nC])
              first | refine dM hS 13 rfl rfl rfl ?_ | refine dQ hS 13 rfl rfl ?_
              (try simp only [Act.put, nA, nB, nC])
              first | refine dP hS 14 rfl rfl ?_ | refine dQ hS 14 rfl rfl ?_
              (try simp only [Act.put, nA, nB, nC])
              first | refine dL1 hS 15 rfl rfl rfl rfl ?_ | refine dL2 hS 15 rfl rfl rfl rfl ?_ | refine dL3 hS 15 rfl rfl rfl ?_ | refine dL4 hS 15 rfl rfl rfl ?_ | refine dL5 hS 15 rfl rfl rfl ?_ | refine dL6 hS 15 rfl rfl rfl ?_ | refine dL7 hS 15 rfl rfl rfl ?_ | refine dQ hS 15 rfl rfl ?_
              (try simp only [Act.put, nA, nB, nC])
              first | refine dP hS 16 rfl rfl ?_ | refine dQ hS 16 rfl rfl ?_
              (try simp only [Act.put, nA, nB, nC])
              refine dP hS 17 rfl rfl ?_
              (try simp only [Act.put, nA, nB, nC])
              refine dr_done (by kernel_rfl) ?_
              go_wp2_with (first | (refine oL ?_; (first | refine sL1 hS rfl rfl rfl ?_ | refine sL2 hS rfl rfl rfl ?_ | refine sL3 hS rfl rfl ?_ | refine sL4 hS rfl rfl ?_ | refine sL5 hS rfl rfl ?_ | refine sL6 hS rfl rfl ?_ | refine sL7 hS rfl rfl ?_)) | (refine oP ?_; ((first | refine sP1 hS rfl rfl rfl ?_ | refine sP2 hS rfl rfl rfl ?_ | refine sP3 hS rfl rfl rfl ?_); clear hS; first | ((fail_if_success guard_hyp L1); intro L1 cl1 w hL1 hM1 hS) | ((fail_if_success guard_hyp L2); intro L2 cl2 w hL2 hM2 hS) | ((fail_if_success guard_hyp L3); intro L3 cl3 w hL3 hM3 hS) | fail)) | ((first | (refine oC ?_; first | refine sC0 hS rfl ?_ | refine sC1 hS rfl rfl ?_ | refine sC2 hS rfl rfl ?_ | refine sC3 hS rfl rfl rfl ?_ | refine sC4 hS rfl rfl rfl ?_)); clear hS; first | ((fail_if_success guard_hyp g1); intro g1 w hS) | ((fail_if_success guard_hyp g2); intro g2 w hS) | ((fail_if_success guard_hyp g3); intro g3 w hS) | fail) | fail)
              go_roundw
              case measure => simp [intOf]; omega
              exact ⟨j + 1, cl1, L1, ys ++ [k], by omega, by simp; omega, ⟨by simpa using hL1, hM1⟩, by go_num, by first | rfl | simp, Lib.hid (by rw [HF.out, HY.out]), hS.re⟩
            · have HK1 := Lib.hid (show keepB b q k = false by rw [HKB.out, decide_eq_false hmk])
              have dm : decide (m ≤ k) = false := decide_eq_false hmk
              rw [HK1.out, if_neg (by simp), List.append_nil] at HF
              clear hmk
              go_wp2_with (first | (refine oL ?_; (first | refine sL1 hS rfl rfl rfl ?_ | refine sL2 hS rfl rfl rfl ?_ | refine sL3 hS rfl rfl ?_ | refine sL4 hS rfl rfl ?_ | refine sL5 hS rfl rfl ?_ | refine sL6 hS rfl rfl ?_ | refine sL7 hS rfl rfl ?_)) | (refine oP ?_; ((first | refine sP1 hS rfl rfl rfl ?_ | refine sP2 hS rfl rfl rfl ?_ | refine sP3 hS rfl rfl rfl ?_); clear hS; first | ((fail_if_success guard_hyp L1); intro L1 cl1 w hL1 hM1 hS) | ((fail_if_success guard_hyp L2); intro L2 cl2 w hL2 hM2 hS) | ((fail_if_success guard_hyp L3); intro L3 cl3 w hL3 hM3 hS) | fail)) | ((first | (refine oC ?_; first | refine sC0 hS rfl ?_ | refine sC1 hS rfl rfl ?_ | refine sC2 hS rfl rfl ?_ | refine sC3 hS rfl rfl rfl ?_ | refine sC4 hS rfl rfl rfl ?_)); clear hS; first | ((fail_if_success guard_hyp g1); intro g1 w hS) | ((fail_if_success guard_hyp g2); intro g2 w hS) | ((fail_if_success guard_hyp g3); intro g3 w hS) | fail) | fail)
              refine dr_start0 []  hS (by kernel_rfl) rfl ?_; clear hS; intro w hS
              refine dM hS 0 rfl rfl rfl ?_
              (try simp only [Act.put, nA, nB, nC])
              refine dM hS 1 rfl rfl rfl ?_
              (try simp only [Act.put, nA, nB, nC])
              refine dP hS 2 rfl rfl ?_
              (try simp only [Act.put, nA, nB, nC])
              refine dP hS 3 rfl rfl ?_
              (try simp only [Act.put, nA, nB, nC])
              refine dM hS 4 rfl rfl rfl ?_
              (try simp only [Act.put, nA, nB, nC])
              first | refine dM hS 5 rfl rfl rfl ?_ | refine dQ hS 5 rfl rfl ?_
              (try simp only [Act.put, nA, nB, nC])
              first | refine dM hS 6 rfl rfl rfl ?_ | refine dQ hS 6 rfl rfl ?_
              (try simp only [Act.put, nA, nB, nC])
              first | refine dP hS 7 rfl rfl ?_ | refine dQ hS 7 rfl rfl ?_
              (try simp only [Act.put, nA, nB, nC])
              first | refine dL1 hS 8 rfl rfl rfl rfl ?_ | refine dL2 hS 8 rfl rfl rfl rfl ?_ | refine dL3 hS 8 rfl rfl rfl ?_ | refine dL4 hS 8 rfl rfl rfl ?_ | refine dL5 hS 8 rfl rfl rfl ?_ | refine dL6 hS 8 rfl rfl rfl ?_ | refine dL7 hS 8 rfl rfl rfl ?_ | refine dQ hS 8 rfl rfl ?_
              (try simp only [Act.put, nA, nB, nC])
              first | refine dM hS 9 rfl rfl rfl ?_ | refine dQ hS 9 rfl rfl ?_
              (try simp only [Act.put, nA, nB, nC])
              first | refine dP hS 10 rfl rfl ?_ | refine dQ hS 10 rfl rfl ?_
              (try simp only [Act.put, nA, nB, nC])
              first | refine dL1 hS 11 rfl rfl rfl rfl ?_ | refine dL2 hS 11 rfl rfl rfl rfl ?_ | refine dL3 hS 11 rfl rfl rfl ?_ | refine dL4 hS 11 rfl rfl rfl ?_ | refine dL5 hS 11 rfl rfl rfl ?_ | refine dL6 hS 11 rfl rfl rfl ?_ | refine dL7 hS 11 rfl rfl rfl ?_ | refine dQ hS 11 rfl rfl ?_
              (try simp only [Act.put, nA, nB, nC])
              first | refine dM hS 12 rfl rfl rfl ?_ | refine dQ hS 12 rfl rfl ?_
              (try simp only [Act.put, nA, nB, nC])
              first | refine dM hS 13 rfl rfl rfl ?_ | refine dQ hS 13 rfl rfl ?_
              (try simp only [Act.put, nA, nB, nC])
              first | refine dP hS 14 rfl rfl ?_ | refine dQ hS 14 rfl rfl ?_
              (try simp only [Act.put, nA, nB, nC])
              first | refine dL1 hS 15 rfl rfl rfl rfl ?_ | refine dL2 hS 15 rfl rfl rfl rfl ?_ | refine dL3 hS 15 rfl rfl rfl ?_ | refine dL4 hS 15 rfl rfl rfl ?_ | refine dL5 hS 15 rfl rfl rfl ?_ | refine dL6 hS 15 rfl rfl rfl ?_ | refine dL7 hS 15 rfl rfl rfl ?_ | refine dQ hS 15 rfl rfl ?_
              (try simp only [Act.put, nA, nB, nC])
              first | refine dP hS 16 rfl rfl ?_ | refine dQ hS 16 rfl rfl ?_
              (try simp only [Act.put, nA, nB, nC])
              refine dP hS 17 rfl rfl ?_
              (try simp only [Act.put, nA, nB, nC])
              refine dr_done (by kernel_rfl) ?_
              go_wp2_with (first | (refine oL ?_; (first | refine sL1 hS rfl rfl rfl ?_ | refine sL2 hS rfl rfl rfl ?_ | refine sL3 hS rfl rfl ?_ | refine sL4 hS rfl rfl ?_ | refine sL5 hS rfl rfl ?_ | refine sL6 hS rfl rfl ?_ | refine sL7 hS rfl rfl ?_)) | (refine oP ?_; ((first | refine sP1 hS rfl rfl rfl ?_ | refine sP2 hS rfl rfl rfl ?_ | refine sP3 hS rfl rfl rfl ?_); clear hS; first | ((fail_if_success guard_hyp L1); intro L1 cl1 w hL1 hM1 hS) | ((fail_if_success guard_hyp L2); intro L2 cl2 w hL2 hM2 hS) | ((fail_if_success guard_hyp L3); intro L3 cl3 w hL3 hM3 hS) | fail)) | ((first | (refine oC ?_; first | refine sC0 hS rfl ?_ | refine sC1 hS rfl rfl ?_ | refine sC2 hS rfl rfl ?_ | refine sC3 hS rfl rfl rfl ?_ | refine sC4 hS rfl rfl rfl ?_)); clear hS; first | ((fail_if_success guard_hyp g1); intro g1 w hS) | ((fail_if_success guard_hyp g2); intro g2 w hS) | ((fail_if_success guard_hyp g3); intro g3 w hS) | fail) | fail)
              go_roundw
              case measure => simp [intOf]; omega
              exact ⟨j + 1, c, L, ys, by omega, by omega, hcc, by go_num, rfl, Lib.hid (by rw [HF.out, HY.out]), hS.re⟩
        · have hjl' : ¬ (j : Int) < l.length := by omega
          have HE2 := Lib.hid (show ys = l.filter (keepB b q) by
            have h1 := HY.out
            rw [List.take_of_length_le (by omega)] at h1
            exact h1)
          go_wp2_with (first | (refine oP ?_; refine st_app hS rfl rfl rfl rfl (by simp [Value.oneCell']) (by omega) ?_; clear hS; intro L9 cl9 w hL9 hM9 hS) | (refine oL ?_; (first | refine sL1 hS rfl rfl rfl ?_ | refine sL2 hS rfl rfl rfl ?_ | refine sL3 hS rfl rfl ?_ | refine sL4 hS rfl rfl ?_ | refine sL5 hS rfl rfl ?_ | refine sL6 hS rfl rfl ?_ | refine sL7 hS rfl rfl ?_)) | (refine oP ?_; ((first | refine sP1 hS rfl rfl rfl ?_ | refine sP2 hS rfl rfl rfl ?_ | refine sP3 hS rfl rfl rfl ?_); clear hS; first | ((fail_if_success guard_hyp L1); intro L1 cl1 w hL1 hM1 hS) | ((fail_if_success guard_hyp L2); intro L2 cl2 w hL2 hM2 hS) | ((fail_if_success guard_hyp L3); intro L3 cl3 w hL3 hM3 hS) | fail)) | ((first | (refine oC ?_; first | refine sC0 hS rfl ?_ | refine sC1 hS rfl rfl ?_ | refine sC2 hS rfl rfl ?_ | refine sC3 hS rfl rfl rfl ?_ | refine sC4 hS rfl rfl rfl ?_)); clear hS; first | ((fail_if_success guard_hyp g1); intro g1 w hS) | ((fail_if_success guard_hyp g2); intro g2 w hS) | ((fail_if_success guard_hyp g3); intro g3 w hS) | fail) | fail)
          obtain ⟨T2, hS2, hi2, hr2⟩ := St.rowInN hS HV.out rfl hcc
          go_roundw
          case measure => simp [intOf]; omega
          exact ⟨q + 1, cl9, L9, _, T2, _, by omega, ⟨hL9, hM9⟩, by go_num, by first | rfl | simp, Lib.hid (by rw [HTK.out, ← HE2.out]; exact hr2), hS2.re⟩
    · have HE := Lib.hid (show q = ls.length by omega)
      have hql' : ¬ (q : Int) < ls.length := by omega
      go_wp2_with (first | (refine oL ?_; (first | refine sL1 hS rfl rfl rfl ?_ | refine sL2 hS rfl rfl rfl ?_ | refine sL3 hS rfl rfl ?_ | refine sL4 hS rfl rfl ?_ | refine sL5 hS rfl rfl ?_ | refine sL6 hS rfl rfl ?_ | refine sL7 hS rfl rfl ?_)) | (refine oP ?_; ((first | refine sP1 hS rfl rfl rfl ?_ | refine sP2 hS rfl rfl rfl ?_ | refine sP3 hS rfl rfl rfl ?_); clear hS; first | ((fail_if_success guard_hyp L1); intro L1 cl1 w hL1 hM1 hS) | ((fail_if_success guard_hyp L2); intro L2 cl2 w hL2 hM2 hS) | ((fail_if_success guard_hyp L3); intro L3 cl3 w hL3 hM3 hS) | fail)) | ((first | (refine oC ?_; first | refine sC0 hS rfl ?_ | refine sC1 hS rfl rfl ?_ | refine sC2 hS rfl rfl ?_ | refine sC3 hS rfl rfl rfl ?_ | refine sC4 hS rfl rfl rfl ?_)); clear hS; first | ((fail_if_success guard_hyp g1); intro g1 w hS) | ((fail_if_success guard_hyp g2); intro g2 w hS) | ((fail_if_success guard_hyp g3); intro g3 w hS) | fail) | fail)
      go_ret
      have hr := HV.out
      rw [List.take_of_length_le (by rw [keepL_len]; omega)] at hr
      have hrr : RR (Orn (fun _ => False) w0) wr L0 (keepL ls b) := ⟨vs, hS.rvNew, hr.mono (repRow.into hS.frozOrn)⟩
      exact ⟨L0, c0, by rw [keepL_len, ← HE.out]; rfl, by rw [keepL_len]; have := hk0.1; omega, hk0.2, hrr, hS.toExt⟩
end Go.Proofs.Ytombhhhaidmpeaa
