/- collect.Keep; the reference's Keep and Bases. Conditions: the lists lie in memory. -/
import Derived.Test.YtombhhhaidmpeaaBases
namespace Go.Proofs.Ytombhhhaidmpeaa
open Go.RowKit
set_option linter.unusedVariables false
set_option linter.unusedSimpArgs false
set_option linter.unusedSectionVars false

def keepB (b : List Int) (q : Nat) (k : Int) : Bool := decide (b.length ≤ q) || decide (nth b q ≤ k)
/-- what is kept from the bases on -/
def keepL (ls : List (List Int)) (b : List Int) : List (List Int) := (List.range ls.length).map fun q => (rowOf ls q).filter (keepB b q)
theorem keepL_len (ls : List (List Int)) (b : List Int) : (keepL ls b).length = ls.length := by simp [keepL]
theorem keepL_row {ls : List (List Int)} {b : List Int} {q : Nat} (hq : q < ls.length) : rowOf (keepL ls b) q = (rowOf ls q).filter (keepB b q) := by
  rw [rowOf_eq (by rw [keepL_len]; exact hq)]; simp [keepL]
theorem keepL_take {ls : List (List Int)} {b : List Int} {q : Nat} (hq : q < ls.length) : (keepL ls b).take (q + 1) = (keepL ls b).take q ++ [(rowOf ls q).filter (keepB b q)] := by
  rw [List.take_succ_eq_append_getElem (by rw [keepL_len]; exact hq)]
  simp [keepL]
theorem filt_take {l : List Int} {j : Nat} {P : Int → Bool} (hj : j < l.length) : (l.take (j + 1)).filter P = (l.take j).filter P ++ if P (nth l j) = true then [nth l j] else [] := by
  rw [List.take_succ_eq_append_getElem hj, List.filter_append, nth_eq hj]
  by_cases h : P l[j] = true <;> simp [h]
set_option maxRecDepth 100000 in
set_option maxHeartbeats 6400000 in
theorem keep_any {S T : Nat → Prop} (A X : Option Addr) (cA cX n m : Nat) (ls : List (List Int)) (b : List Int) (w0 : World) (hal : RR S w0 A ls) (hx : RI T w0 X b) (hn : ls.length = n) (hm : b.length = m) (hn1 : n ≤ 1000) (hm1 : m ≤ 9223372036854775807) (hrl : ∀ l ∈ ls, l.length ≤ 1000) :
    Calls Try.prog 27 #[.slice A n cA, .slice X m cX] w0 (RetRR (fun _ => False) w0 (keepL ls b)) := by
  have hS := St.start w0 NoM
  subst hn hm
  have HR := Lib.hid hrl
  clear hrl
  go_enter Try.func27, Try.ntmps27
  go_wp2_with (first | (refine oM ?_; refine st_mkZ (n := ls.length) hS rfl rfl rfl rfl rfl (by omega) ?_; clear hS; intro g4 w hS) | (refine oL ?_; (first | refine sL1 hS rfl rfl rfl ?_ | refine sL2 hS rfl rfl rfl ?_ | refine sL3 hS rfl rfl ?_ | refine sL4 hS rfl rfl ?_ | refine sL5 hS rfl rfl ?_ | refine sL6 hS rfl rfl ?_ | refine sL7 hS rfl rfl ?_)) | (refine oS ?_; ((first | refine sS1 hS rfl rfl rfl ?_ | refine sS2 hS rfl rfl rfl ?_ | refine sS3 hS rfl rfl rfl ?_ | refine sS4 hS rfl rfl rfl ?_ | refine sS5 hS rfl rfl rfl ?_); clear hS; intro w hS)) | (refine oP ?_; ((first | refine sP1 hS rfl rfl rfl ?_ | refine sP2 hS rfl rfl rfl ?_ | refine sP3 hS rfl rfl rfl ?_); clear hS; first | ((fail_if_success guard_hyp L1); intro L1 cl1 w hL1 hM1 hS) | ((fail_if_success guard_hyp L2); intro L2 cl2 w hL2 hM2 hS) | fail)) | ((first | (refine oC ?_; first | refine sC0 hS rfl ?_ | refine sC1 hS rfl rfl ?_ | refine sC2 hS rfl rfl ?_ | refine sC3 hS rfl rfl rfl ?_ | refine sC4 hS rfl rfl rfl ?_) | refine sM1 hS rfl rfl rfl ?_); clear hS; first | ((fail_if_success guard_hyp g1); intro g1 w hS) | ((fail_if_success guard_hyp g2); intro g2 w hS) | ((fail_if_success guard_hyp g3); intro g3 w hS) | fail) | fail)
  replace hS := hS.frozNil
  go_loopw [6, 7, 9, 15] (fun s6 s7 s9 s15 wr => ∃ (q : Nat) (vs1 : List Value) (T1 : Nat → Prop) (u1 : World), q ≤ ls.length ∧ s15 = .int .i64 q ∧ Hid (Reps (repRow T1 u1) 1 vs1 ((keepL ls b).take q) ∧ vs1.length = q) ∧ St w0 NoM [row (.slice (some ⟨g4, 0, none⟩) ls.length ls.length) 24 1 ls.length (vs1 ++ List.replicate (ls.length - q) nilS), froz T1 u1] wr) (fun _ _ _ s15 _ => ls.length - (intOf s15).toNat)
  case atStart => exact ⟨0, [], _, _, by omega, rfl, Lib.hid ⟨rfl, rfl⟩, hS.perm (List.Perm.swap _ _ _)⟩
  case round =>
    clear hS
    obtain ⟨q, vs1, T1, u1, hq, rfl, HW, hS⟩ := hrel
    by_cases hql : q < ls.length
    · have hql' : (q : Int) < ls.length := by omega
      obtain ⟨b2, o2, B, cB, rfl, hfc2, hB, hcB, hcB'⟩ := hal.fc hql
      have hcc2 := hfc2.c
      have hrl : (rowOf ls q).length ≤ 1000 := by rw [rowOf_eq hql]; exact HR.out _ (List.getElem_mem hql)
      have HTK := Lib.hid (keepL_take (b := b) hql)
      rw [show ls.length - q = (ls.length - (q + 1)) + 1 by omega, List.replicate_succ] at hS
      clear hfc2
      generalize rowOf ls q = l at *
      go_wp2_with (first | (refine oL ?_; (first | refine sL1 hS rfl rfl rfl ?_ | refine sL2 hS rfl rfl rfl ?_ | refine sL3 hS rfl rfl ?_ | refine sL4 hS rfl rfl ?_ | refine sL5 hS rfl rfl ?_ | refine sL6 hS rfl rfl ?_ | refine sL7 hS rfl rfl ?_)) | (refine oS ?_; ((first | refine sS1 hS rfl rfl rfl ?_ | refine sS2 hS rfl rfl rfl ?_ | refine sS3 hS rfl rfl rfl ?_ | refine sS4 hS rfl rfl rfl ?_ | refine sS5 hS rfl rfl rfl ?_); clear hS; intro w hS)) | (refine oP ?_; ((first | refine sP1 hS rfl rfl rfl ?_ | refine sP2 hS rfl rfl rfl ?_ | refine sP3 hS rfl rfl rfl ?_); clear hS; first | ((fail_if_success guard_hyp L1); intro L1 cl1 w hL1 hM1 hS) | ((fail_if_success guard_hyp L2); intro L2 cl2 w hL2 hM2 hS) | fail)) | ((first | (refine oC ?_; first | refine sC0 hS rfl ?_ | refine sC1 hS rfl rfl ?_ | refine sC2 hS rfl rfl ?_ | refine sC3 hS rfl rfl rfl ?_ | refine sC4 hS rfl rfl rfl ?_) | refine sM1 hS rfl rfl rfl ?_); clear hS; first | ((fail_if_success guard_hyp g1); intro g1 w hS) | ((fail_if_success guard_hyp g2); intro g2 w hS) | ((fail_if_success guard_hyp g3); intro g3 w hS) | fail) | fail)
      replace hS := hS.addNil 3 1
      go_loopw [9, 22] (fun s9 s22 wr => ∃ (j c : Nat) (L : Option Addr) (ys : List Int), j ≤ l.length ∧ ys.length ≤ j ∧ capOk ys.length c ∧ s22 = .int .i64 j ∧ Hid (ys = (l.take j).filter (keepB b q)) ∧ St w0 NoM [irow 3 L c ys, row (.slice (some ⟨g4, 0, none⟩) ls.length ls.length) 24 1 ls.length (vs1 ++ .slice L ys.length c :: List.replicate (ls.length - (q + 1)) nilS), froz T1 u1] wr) (fun _ s22 _ => l.length - (intOf s22).toNat)
      case atStart => exact ⟨0, 0, none, [], by omega, by simp, by simp [capOk], rfl, Lib.hid (by simp), hS⟩
      case round =>
        clear hS
        obtain ⟨j, c, L, ys, hj, hyl, hcc, rfl, HY, hS⟩ := hrel
        by_cases hjl : j < l.length
        · have hjl' : (j : Int) < l.length := by omega
          obtain ⟨b4, o4, rfl, _, hf4⟩ := hB.atNS hjl
          have HF := Lib.hid (filt_take (P := keepB b q) hjl)
          have HKB := Lib.hid (show keepB b q (nth l j) = (decide (b.length ≤ q) || decide (nth b q ≤ nth l j)) from rfl)
          have hcv : (vs1 ++ Value.slice L ys.length c :: List.replicate (ls.length - (q + 1)) nilS)[q]? = some (.slice L ys.length c) := mid_get HW.out.2
          have hvl : q < (vs1 ++ Value.slice L ys.length c :: List.replicate (ls.length - (q + 1)) nilS).length := by rw [List.length_append, List.length_cons, HW.out.2]; omega
          generalize nth l j = k at *
          by_cases hqb : b.length ≤ q
          · have hqb' : (b.length : Int) ≤ q := by omega
            have HK1 := Lib.hid (show keepB b q k = true by rw [HKB.out, decide_eq_true hqb]; rfl)
            have dq : decide ((b.length : Int) ≤ (q : Int)) = true := decide_eq_true hqb'
            rw [HK1.out, if_pos rfl] at HF
            go_upto_region 8 with (first | (refine oL ?_; (first | refine sL1 hS rfl rfl rfl ?_ | refine sL2 hS rfl rfl rfl ?_ | refine sL3 hS rfl rfl ?_ | refine sL4 hS rfl rfl ?_ | refine sL5 hS rfl rfl ?_ | refine sL6 hS rfl rfl ?_ | refine sL7 hS rfl rfl ?_)) | (refine oS ?_; ((first | refine sS1 hS rfl rfl rfl ?_ | refine sS2 hS rfl rfl rfl ?_ | refine sS3 hS rfl rfl rfl ?_ | refine sS4 hS rfl rfl rfl ?_ | refine sS5 hS rfl rfl rfl ?_); clear hS; intro w hS)) | (refine oP ?_; ((first | refine sP1 hS rfl rfl rfl ?_ | refine sP2 hS rfl rfl rfl ?_ | refine sP3 hS rfl rfl rfl ?_); clear hS; first | ((fail_if_success guard_hyp L1); intro L1 cl1 w hL1 hM1 hS) | ((fail_if_success guard_hyp L2); intro L2 cl2 w hL2 hM2 hS) | fail)) | ((first | (refine oC ?_; first | refine sC0 hS rfl ?_ | refine sC1 hS rfl rfl ?_ | refine sC2 hS rfl rfl ?_ | refine sC3 hS rfl rfl rfl ?_ | refine sC4 hS rfl rfl rfl ?_) | refine sM1 hS rfl rfl rfl ?_); clear hS; first | ((fail_if_success guard_hyp g1); intro g1 w hS) | ((fail_if_success guard_hyp g2); intro g2 w hS) | ((fail_if_success guard_hyp g3); intro g3 w hS) | fail) | fail)
            refine lR ?_
            refine lM rfl rfl ?_
            (try simp only [Act.put, nA, nB, nC])
            refine lM rfl rfl ?_
            (try simp only [Act.put, nA, nB, nC])
            refine lP rfl ?_
            (try simp only [Act.put, nA, nB, nC])
            refine lP rfl ?_
            (try simp only [Act.put, nA, nB, nC])
            refine lM rfl rfl ?_
            (try simp only [Act.put, nA, nB, nC])
            first | refine lQ rfl ?_ | refine lM rfl rfl ?_ | fail
            (try simp only [Act.put, nA, nB, nC])
            first | refine lQ rfl ?_ | refine lM rfl rfl ?_ | fail
            (try simp only [Act.put, nA, nB, nC])
            first | refine lQ rfl ?_ | refine lM rfl rfl ?_ | fail
            (try simp only [Act.put, nA, nB, nC])
            first | refine lQ rfl ?_ | refine lP rfl ?_ | fail
            (try simp only [Act.put, nA, nB, nC])
            first | refine lQ rfl ?_ | (refine ⟨?_⟩; ((first | refine sL1 hS rfl rfl rfl ?_ | refine sL2 hS rfl rfl rfl ?_ | refine sL3 hS rfl rfl ?_ | refine sL4 hS rfl rfl ?_ | refine sL5 hS rfl rfl ?_ | refine sL6 hS rfl rfl ?_ | refine sL7 hS rfl rfl ?_)); refine WL.h ?_) | fail
            (try simp only [Act.put, nA, nB, nC])
            first | refine lQ rfl ?_ | refine lP rfl ?_ | fail
            (try simp only [Act.put, nA, nB, nC])
            refine lP rfl ?_
            (try simp only [Act.put, nA, nB, nC])
            refine lZ ?_
            go_wp2_with (first | (refine oL ?_; (first | refine sL1 hS rfl rfl rfl ?_ | refine sL2 hS rfl rfl rfl ?_ | refine sL3 hS rfl rfl ?_ | refine sL4 hS rfl rfl ?_ | refine sL5 hS rfl rfl ?_ | refine sL6 hS rfl rfl ?_ | refine sL7 hS rfl rfl ?_)) | (refine oS ?_; ((first | refine sS1 hS rfl rfl rfl ?_ | refine sS2 hS rfl rfl rfl ?_ | refine sS3 hS rfl rfl rfl ?_ | refine sS4 hS rfl rfl rfl ?_ | refine sS5 hS rfl rfl rfl ?_); clear hS; intro w hS)) | (refine oP ?_; ((first | refine sP1 hS rfl rfl rfl ?_ | refine sP2 hS rfl rfl rfl ?_ | refine sP3 hS rfl rfl rfl ?_); clear hS; first | ((fail_if_success guard_hyp L1); intro L1 cl1 w hL1 hM1 hS) | ((fail_if_success guard_hyp L2); intro L2 cl2 w hL2 hM2 hS) | fail)) | ((first | (refine oC ?_; first | refine sC0 hS rfl ?_ | refine sC1 hS rfl rfl ?_ | refine sC2 hS rfl rfl ?_ | refine sC3 hS rfl rfl rfl ?_ | refine sC4 hS rfl rfl rfl ?_) | refine sM1 hS rfl rfl rfl ?_); clear hS; first | ((fail_if_success guard_hyp g1); intro g1 w hS) | ((fail_if_success guard_hyp g2); intro g2 w hS) | ((fail_if_success guard_hyp g3); intro g3 w hS) | fail) | fail)
            rw [mid_set HW.out.2, show ys.length + 1 = (ys ++ [k]).length by simp] at hS
            go_roundw
            case measure => simp [intOf]; omega
            exact ⟨j + 1, cl1, L1, ys ++ [k], by omega, by simp; omega, ⟨by simpa using hL1, hM1⟩, by go_num, Lib.hid (by rw [HF.out, HY.out]), hS.re⟩
          · have hqb1 : q < b.length := by omega
            have hqb' : (q : Int) < b.length := by omega
            obtain ⟨b1, o1, rfl, _, hc1⟩ := hx.atNS hqb1
            rw [decide_eq_false hqb, Bool.false_or] at HKB
            generalize nth b q = m at *
            by_cases hmk : m ≤ k
            · have HK1 := Lib.hid (show keepB b q k = true by rw [HKB.out, decide_eq_true hmk])
              have dm : decide (m ≤ k) = true := decide_eq_true hmk
              rw [HK1.out, if_pos rfl] at HF
              clear hmk
              go_upto_region 8 with (first | (refine oL ?_; (first | refine sL1 hS rfl rfl rfl ?_ | refine sL2 hS rfl rfl rfl ?_ | refine sL3 hS rfl rfl ?_ | refine sL4 hS rfl rfl ?_ | refine sL5 hS rfl rfl ?_ | refine sL6 hS rfl rfl ?_ | refine sL7 hS rfl rfl ?_)) | (refine oS ?_; ((first | refine sS1 hS rfl rfl rfl ?_ | refine sS2 hS rfl rfl rfl ?_ | refine sS3 hS rfl rfl rfl ?_ | refine sS4 hS rfl rfl rfl ?_ | refine sS5 hS rfl rfl rfl ?_); clear hS; intro w hS)) | (refine oP ?_; ((first | refine sP1 hS rfl rfl rfl ?_ | refine sP2 hS rfl rfl rfl ?_ | refine sP3 hS rfl rfl rfl ?_); clear hS; first | ((fail_if_success guard_hyp L1); intro L1 cl1 w hL1 hM1 hS) | ((fail_if_success guard_hyp L2); intro L2 cl2 w hL2 hM2 hS) | fail)) | ((first | (refine oC ?_; first | refine sC0 hS rfl ?_ | refine sC1 hS rfl rfl ?_ | refine sC2 hS rfl rfl ?_ | refine sC3 hS rfl rfl rfl ?_ | refine sC4 hS rfl rfl rfl ?_) | refine sM1 hS rfl rfl rfl ?_); clear hS; first | ((fail_if_success guard_hyp g1); intro g1 w hS) | ((fail_if_success guard_hyp g2); intro g2 w hS) | ((fail_if_success guard_hyp g3); intro g3 w hS) | fail) | fail)
              refine lR ?_
              refine lM rfl rfl ?_
              (try simp only [Act.put, nA, nB, nC])
              refine lM rfl rfl ?_
              (try simp only [Act.put, nA, nB, nC])
              refine lP rfl ?_
              (try simp only [Act.put, nA, nB, nC])
              refine lP rfl ?_
              (try simp only [Act.put, nA, nB, nC])
              refine lM rfl rfl ?_
              (try simp only [Act.put, nA, nB, nC])
              first | refine lQ rfl ?_ | refine lM rfl rfl ?_ | fail
              (try simp only [Act.put, nA, nB, nC])
              first | refine lQ rfl ?_ | refine lM rfl rfl ?_ | fail
              (try simp only [Act.put, nA, nB, nC])
              first | refine lQ rfl ?_ | refine lM rfl rfl ?_ | fail
              (try simp only [Act.put, nA, nB, nC])
              first | refine lQ rfl ?_ | refine lP rfl ?_ | fail
              (try simp only [Act.put, nA, nB, nC])
              first | refine lQ rfl ?_ | (refine ⟨?_⟩; ((first | refine sL1 hS rfl rfl rfl ?_ | refine sL2 hS rfl rfl rfl ?_ | refine sL3 hS rfl rfl ?_ | refine sL4 hS rfl rfl ?_ | refine sL5 hS rfl rfl ?_ | refine sL6 hS rfl rfl ?_ | refine sL7 hS rfl rfl ?_)); refine WL.h ?_) | fail
              (try simp only [Act.put, nA, nB, nC])
              first | refine lQ rfl ?_ | refine lP rfl ?_ | fail
              (try simp only [Act.put, nA, nB, nC])
              refine lP rfl ?_
              (try simp only [Act.put, nA, nB, nC])
              refine lZ ?_
              go_wp2_with (first | (refine oL ?_; (first | refine sL1 hS rfl rfl rfl ?_ | refine sL2 hS rfl rfl rfl ?_ | refine sL3 hS rfl rfl ?_ | refine sL4 hS rfl rfl ?_ | refine sL5 hS rfl rfl ?_ | refine sL6 hS rfl rfl ?_ | refine sL7 hS rfl rfl ?_)) | (refine oS ?_; ((first | refine sS1 hS rfl rfl rfl ?_ | refine sS2 hS rfl rfl rfl ?_ | refine sS3 hS rfl rfl rfl ?_ | refine sS4 hS rfl rfl rfl ?_ | refine sS5 hS rfl rfl rfl ?_); clear hS; intro w hS)) | (refine oP ?_; ((first | refine sP1 hS rfl rfl rfl ?_ | refine sP2 hS rfl rfl rfl ?_ | refine sP3 hS rfl rfl rfl ?_); clear hS; first | ((fail_if_success guard_hyp L1); intro L1 cl1 w hL1 hM1 hS) | ((fail_if_success guard_hyp L2); intro L2 cl2 w hL2 hM2 hS) | fail)) | ((first | (refine oC ?_; first | refine sC0 hS rfl ?_ | refine sC1 hS rfl rfl ?_ | refine sC2 hS rfl rfl ?_ | refine sC3 hS rfl rfl rfl ?_ | refine sC4 hS rfl rfl rfl ?_) | refine sM1 hS rfl rfl rfl ?_); clear hS; first | ((fail_if_success guard_hyp g1); intro g1 w hS) | ((fail_if_success guard_hyp g2); intro g2 w hS) | ((fail_if_success guard_hyp g3); intro g3 w hS) | fail) | fail)
              rw [mid_set HW.out.2, show ys.length + 1 = (ys ++ [k]).length by simp] at hS
              go_roundw
              case measure => simp [intOf]; omega
              exact ⟨j + 1, cl1, L1, ys ++ [k], by omega, by simp; omega, ⟨by simpa using hL1, hM1⟩, by go_num, Lib.hid (by rw [HF.out, HY.out]), hS.re⟩
            · have HK1 := Lib.hid (show keepB b q k = false by rw [HKB.out, decide_eq_false hmk])
              have dm : decide (m ≤ k) = false := decide_eq_false hmk
              rw [HK1.out, if_neg (by simp), List.append_nil] at HF
              clear hmk
              go_upto_region 8 with (first | (refine oL ?_; (first | refine sL1 hS rfl rfl rfl ?_ | refine sL2 hS rfl rfl rfl ?_ | refine sL3 hS rfl rfl ?_ | refine sL4 hS rfl rfl ?_ | refine sL5 hS rfl rfl ?_ | refine sL6 hS rfl rfl ?_ | refine sL7 hS rfl rfl ?_)) | (refine oS ?_; ((first | refine sS1 hS rfl rfl rfl ?_ | refine sS2 hS rfl rfl rfl ?_ | refine sS3 hS rfl rfl rfl ?_ | refine sS4 hS rfl rfl rfl ?_ | refine sS5 hS rfl rfl rfl ?_); clear hS; intro w hS)) | (refine oP ?_; ((first | refine sP1 hS rfl rfl rfl ?_ | refine sP2 hS rfl rfl rfl ?_ | refine sP3 hS rfl rfl rfl ?_); clear hS; first | ((fail_if_success guard_hyp L1); intro L1 cl1 w hL1 hM1 hS) | ((fail_if_success guard_hyp L2); intro L2 cl2 w hL2 hM2 hS) | fail)) | ((first | (refine oC ?_; first | refine sC0 hS rfl ?_ | refine sC1 hS rfl rfl ?_ | refine sC2 hS rfl rfl ?_ | refine sC3 hS rfl rfl rfl ?_ | refine sC4 hS rfl rfl rfl ?_) | refine sM1 hS rfl rfl rfl ?_); clear hS; first | ((fail_if_success guard_hyp g1); intro g1 w hS) | ((fail_if_success guard_hyp g2); intro g2 w hS) | ((fail_if_success guard_hyp g3); intro g3 w hS) | fail) | fail)
              refine lR ?_
              refine lM rfl rfl ?_
              (try simp only [Act.put, nA, nB, nC])
              refine lM rfl rfl ?_
              (try simp only [Act.put, nA, nB, nC])
              refine lP rfl ?_
              (try simp only [Act.put, nA, nB, nC])
              refine lP rfl ?_
              (try simp only [Act.put, nA, nB, nC])
              refine lM rfl rfl ?_
              (try simp only [Act.put, nA, nB, nC])
              first | refine lQ rfl ?_ | refine lM rfl rfl ?_ | fail
              (try simp only [Act.put, nA, nB, nC])
              first | refine lQ rfl ?_ | refine lM rfl rfl ?_ | fail
              (try simp only [Act.put, nA, nB, nC])
              first | refine lQ rfl ?_ | refine lM rfl rfl ?_ | fail
              (try simp only [Act.put, nA, nB, nC])
              first | refine lQ rfl ?_ | refine lP rfl ?_ | fail
              (try simp only [Act.put, nA, nB, nC])
              first | refine lQ rfl ?_ | (refine ⟨?_⟩; ((first | refine sL1 hS rfl rfl rfl ?_ | refine sL2 hS rfl rfl rfl ?_ | refine sL3 hS rfl rfl ?_ | refine sL4 hS rfl rfl ?_ | refine sL5 hS rfl rfl ?_ | refine sL6 hS rfl rfl ?_ | refine sL7 hS rfl rfl ?_)); refine WL.h ?_) | fail
              (try simp only [Act.put, nA, nB, nC])
              first | refine lQ rfl ?_ | refine lP rfl ?_ | fail
              (try simp only [Act.put, nA, nB, nC])
              refine lP rfl ?_
              (try simp only [Act.put, nA, nB, nC])
              refine lZ ?_
              go_wp2_with (first | (refine oL ?_; (first | refine sL1 hS rfl rfl rfl ?_ | refine sL2 hS rfl rfl rfl ?_ | refine sL3 hS rfl rfl ?_ | refine sL4 hS rfl rfl ?_ | refine sL5 hS rfl rfl ?_ | refine sL6 hS rfl rfl ?_ | refine sL7 hS rfl rfl ?_)) | (refine oS ?_; ((first | refine sS1 hS rfl rfl rfl ?_ | refine sS2 hS rfl rfl rfl ?_ | refine sS3 hS rfl rfl rfl ?_ | refine sS4 hS rfl rfl rfl ?_ | refine sS5 hS rfl rfl rfl ?_); clear hS; intro w hS)) | (refine oP ?_; ((first | refine sP1 hS rfl rfl rfl ?_ | refine sP2 hS rfl rfl rfl ?_ | refine sP3 hS rfl rfl rfl ?_); clear hS; first | ((fail_if_success guard_hyp L1); intro L1 cl1 w hL1 hM1 hS) | ((fail_if_success guard_hyp L2); intro L2 cl2 w hL2 hM2 hS) | fail)) | ((first | (refine oC ?_; first | refine sC0 hS rfl ?_ | refine sC1 hS rfl rfl ?_ | refine sC2 hS rfl rfl ?_ | refine sC3 hS rfl rfl rfl ?_ | refine sC4 hS rfl rfl rfl ?_) | refine sM1 hS rfl rfl rfl ?_); clear hS; first | ((fail_if_success guard_hyp g1); intro g1 w hS) | ((fail_if_success guard_hyp g2); intro g2 w hS) | ((fail_if_success guard_hyp g3); intro g3 w hS) | fail) | fail)
              go_roundw
              case measure => simp [intOf]; omega
              exact ⟨j + 1, c, L, ys, by omega, by omega, hcc, by go_num, Lib.hid (by rw [HF.out, HY.out]), hS.re⟩
        · have hjl' : ¬ (j : Int) < l.length := by omega
          have HE2 := Lib.hid (show ys = l.filter (keepB b q) by
            have h1 := HY.out
            rw [List.take_of_length_le (by omega)] at h1
            exact h1)
          go_wp2_with (first | (refine oL ?_; (first | refine sL1 hS rfl rfl rfl ?_ | refine sL2 hS rfl rfl rfl ?_ | refine sL3 hS rfl rfl ?_ | refine sL4 hS rfl rfl ?_ | refine sL5 hS rfl rfl ?_ | refine sL6 hS rfl rfl ?_ | refine sL7 hS rfl rfl ?_)) | (refine oS ?_; ((first | refine sS1 hS rfl rfl rfl ?_ | refine sS2 hS rfl rfl rfl ?_ | refine sS3 hS rfl rfl rfl ?_ | refine sS4 hS rfl rfl rfl ?_ | refine sS5 hS rfl rfl rfl ?_); clear hS; intro w hS)) | (refine oP ?_; ((first | refine sP1 hS rfl rfl rfl ?_ | refine sP2 hS rfl rfl rfl ?_ | refine sP3 hS rfl rfl rfl ?_); clear hS; first | ((fail_if_success guard_hyp L1); intro L1 cl1 w hL1 hM1 hS) | ((fail_if_success guard_hyp L2); intro L2 cl2 w hL2 hM2 hS) | fail)) | ((first | (refine oC ?_; first | refine sC0 hS rfl ?_ | refine sC1 hS rfl rfl ?_ | refine sC2 hS rfl rfl ?_ | refine sC3 hS rfl rfl rfl ?_ | refine sC4 hS rfl rfl rfl ?_) | refine sM1 hS rfl rfl rfl ?_); clear hS; first | ((fail_if_success guard_hyp g1); intro g1 w hS) | ((fail_if_success guard_hyp g2); intro g2 w hS) | ((fail_if_success guard_hyp g3); intro g3 w hS) | fail) | fail)
          obtain ⟨T2, hS2, hi2, hr2⟩ := St.rowInN hS HW.out.1 rfl hcc
          go_roundw
          case measure => simp [intOf]; omega
          rw [show vs1 ++ Value.slice L ys.length c :: List.replicate (ls.length - (q + 1)) nilS = (vs1 ++ [.slice L ys.length c]) ++ List.replicate (ls.length - (q + 1)) nilS by simp] at hS2
          exact ⟨q + 1, vs1 ++ [.slice L ys.length c], T2, _, by omega, by go_num, Lib.hid ⟨by rw [HTK.out, ← HE2.out]; exact hr2, by simp [HW.out.2]⟩, hS2⟩
    · have HE := Lib.hid (show q = ls.length by omega)
      have hql' : ¬ (q : Int) < ls.length := by omega
      go_wp2_with (first | (refine oL ?_; (first | refine sL1 hS rfl rfl rfl ?_ | refine sL2 hS rfl rfl rfl ?_ | refine sL3 hS rfl rfl ?_ | refine sL4 hS rfl rfl ?_ | refine sL5 hS rfl rfl ?_ | refine sL6 hS rfl rfl ?_ | refine sL7 hS rfl rfl ?_)) | (refine oS ?_; ((first | refine sS1 hS rfl rfl rfl ?_ | refine sS2 hS rfl rfl rfl ?_ | refine sS3 hS rfl rfl rfl ?_ | refine sS4 hS rfl rfl rfl ?_ | refine sS5 hS rfl rfl rfl ?_); clear hS; intro w hS)) | (refine oP ?_; ((first | refine sP1 hS rfl rfl rfl ?_ | refine sP2 hS rfl rfl rfl ?_ | refine sP3 hS rfl rfl rfl ?_); clear hS; first | ((fail_if_success guard_hyp L1); intro L1 cl1 w hL1 hM1 hS) | ((fail_if_success guard_hyp L2); intro L2 cl2 w hL2 hM2 hS) | fail)) | ((first | (refine oC ?_; first | refine sC0 hS rfl ?_ | refine sC1 hS rfl rfl ?_ | refine sC2 hS rfl rfl ?_ | refine sC3 hS rfl rfl rfl ?_ | refine sC4 hS rfl rfl rfl ?_) | refine sM1 hS rfl rfl rfl ?_); clear hS; first | ((fail_if_success guard_hyp g1); intro g1 w hS) | ((fail_if_success guard_hyp g2); intro g2 w hS) | ((fail_if_success guard_hyp g3); intro g3 w hS) | fail) | fail)
      go_ret
      rw [show ls.length - q = 0 by omega, List.replicate_zero, List.append_nil] at hS
      have hr := HW.out.1
      rw [List.take_of_length_le (by rw [keepL_len]; omega)] at hr
      have hrr : RR (Orn (fun _ => False) w0) wr (some ⟨g4, 0, none⟩) (keepL ls b) := ⟨vs1, hS.rvNew, hr.mono (repRow.into hS.frozOrn)⟩
      exact ⟨_, ls.length, by rw [keepL_len]; rfl, by rw [keepL_len]; omega, by omega, hrr, hS.toExt⟩
end Go.Proofs.Ytombhhhaidmpeaa
