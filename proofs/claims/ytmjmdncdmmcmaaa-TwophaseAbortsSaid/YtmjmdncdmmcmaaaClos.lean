/- rollbacknetref24.closure, Least. Conditions: the pattern is good and lies in memory. -/
import Derived.Test.YtmjmdncdmmcmaaaClosP
import Derived.Test.YtmjmdncdmmcmaaaTwR
import Derived.Test.YtmjmdncdmmcmaaaRChk
namespace Go.Proofs.Ytmjmdncdmmcmaaa
open Go.RowKit Tph
set_option linter.unusedVariables false
set_option linter.unusedSimpArgs false
set_option linter.unusedSectionVars false

/-- between two rounds -/
def ClO (p : Pat) (r : Nat) (l : List Bool) (m : Bool) (kk : Nat) : Prop := ClI p r l ∧ 2 * falN l + bN m = kk ∧ (m = false → ∀ q, opOf l q = true ↔ Rch (srcL p) r q)
set_option maxRecDepth 100000 in
set_option maxHeartbeats 6400000 in
theorem closure_any {S : Nat → Prop} (A1 : Option Addr) (c1 : Nat) (A2 : Option Addr) (c2 : Nat) (A3 : Option Addr) (c3 : Nat) (p : Pat) (r : Nat) (w0 : World) (hp : PatAt S w0 ⟨A1, c1, A2, c2, A3, c3⟩ p) (hg : Good p) (hr : r < p.len.length) :
    Calls Try.prog 78 #[.agg #[.slice A1 p.len.length c1, .slice A2 p.ck.length c2, .slice A3 p.arcs.length c3], .int .i64 (r : Int), .bool false] w0 (fun e w' => ∃ m, IsRch (srcL p) r m ∧ RetRow w0 3 1 m.length (ints (nats m)) e w') := by
  have hS := St.start w0 NoM
  have HP := Lib.hid (And.intro hp hg)
  have hn5 := hg.n5
  have hr' : (r : Int) < p.len.length := by omega
  have d0 : decide ((r : Int) < 0) = false := decide_eq_false (by omega)
  have d1 : decide ((p.len.length : Int) ≤ (r : Int)) = false := decide_eq_false (by omega)
  have d1n : decide (p.len.length ≤ r) = false := decide_eq_false (by omega)
  clear hp hg
  go_enter Try.func78, Try.ntmps78
  go_upto_region 1 with (first | (refine oL ?_; (first | refine sL1 hS rfl rfl rfl ?_ | refine sL2 hS rfl rfl rfl ?_ | refine sL3 hS rfl rfl ?_ | refine sL4 hS rfl rfl ?_ | refine sL5 hS rfl rfl ?_ | refine sL6 hS rfl rfl ?_ | refine sL7 hS rfl rfl ?_)) | (refine oS ?_; ((first | refine sS1 hS rfl rfl rfl ?_ | refine sS2 hS rfl rfl rfl ?_ | refine sS3 hS rfl rfl rfl ?_ | refine sS4 hS rfl rfl rfl ?_ | refine sS5 hS rfl rfl rfl ?_); clear hS; intro w hS)) | (refine oP ?_; ((first | refine sP1 hS rfl rfl rfl ?_ | refine sP2 hS rfl rfl rfl ?_ | refine sP3 hS rfl rfl rfl ?_); clear hS; first | ((fail_if_success guard_hyp L1); intro L1 cl1 w hL1 hM1 hS) | ((fail_if_success guard_hyp L2); intro L2 cl2 w hL2 hM2 hS) | fail)) | ((first | (refine oB ?_; first | refine sB1 hS rfl rfl ?_ | refine sB2 hS rfl rfl ?_) | (refine oC ?_; first | refine sC0 hS rfl ?_ | refine sC1 hS rfl rfl ?_ | refine sC2 hS rfl rfl ?_ | refine sC3 hS rfl rfl rfl ?_ | refine sC4 hS rfl rfl rfl ?_) | refine sM1 hS rfl rfl rfl ?_); clear hS; first | ((fail_if_success guard_hyp g1); intro g1 w hS) | ((fail_if_success guard_hyp g2); intro g2 w hS) | ((fail_if_success guard_hyp g3); intro g3 w hS) | ((fail_if_success guard_hyp g4); intro g4 w hS) | fail) | fail)
  refine lR ?_
  (refine ⟨?_⟩; ((first | refine sL1 hS rfl rfl rfl ?_ | refine sL2 hS rfl rfl rfl ?_ | refine sL3 hS rfl rfl ?_ | refine sL4 hS rfl rfl ?_ | refine sL5 hS rfl rfl ?_ | refine sL6 hS rfl rfl ?_ | refine sL7 hS rfl rfl ?_)); refine WL.h ?_)
  (try simp only [Act.put, nA, nB, nC])
  (refine ⟨?_⟩; (refine st_call rfl (by kernel_rfl) rfl ?_; go_at_call 41; refine (rcheck_any A1 c1 A2 c2 A3 c3 p _ (HP.out.1.ext hS.toExt) HP.out.2).mono ?_; rintro e w ⟨rfl, hx1⟩; replace hS := hS.ext hx1; clear hx1); refine WL.h ?_)
  (try simp only [Act.put, nA, nB, nC])
  refine lP rfl ?_
  (try simp only [Act.put, nA, nB, nC])
  refine lM rfl rfl ?_
  (try simp only [Act.put, nA, nB, nC])
  first | refine lQ rfl ?_ | refine lM rfl rfl ?_ | fail
  (try simp only [Act.put, nA, nB, nC])
  first | refine lQ rfl ?_ | refine lP rfl ?_ | fail
  (try simp only [Act.put, nA, nB, nC])
  refine lP rfl ?_
  (try simp only [Act.put, nA, nB, nC])
  refine lM rfl rfl ?_
  (try simp only [Act.put, nA, nB, nC])
  first | refine lQ rfl ?_ | refine lM rfl rfl ?_ | fail
  (try simp only [Act.put, nA, nB, nC])
  first | refine lQ rfl ?_ | refine lP rfl ?_ | fail
  (try simp only [Act.put, nA, nB, nC])
  first | refine lQ rfl ?_ | (refine ⟨?_⟩; ((first | refine sL1 hS rfl rfl rfl ?_ | refine sL2 hS rfl rfl rfl ?_ | refine sL3 hS rfl rfl ?_ | refine sL4 hS rfl rfl ?_ | refine sL5 hS rfl rfl ?_ | refine sL6 hS rfl rfl ?_ | refine sL7 hS rfl rfl ?_)); refine WL.h ?_) | fail
  (try simp only [Act.put, nA, nB, nC])
  first | refine lQ rfl ?_ | refine lP rfl ?_ | fail
  (try simp only [Act.put, nA, nB, nC])
  first | refine lQ rfl ?_ | refine lP rfl ?_ | fail
  (try simp only [Act.put, nA, nB, nC])
  refine lP rfl ?_
  (try simp only [Act.put, nA, nB, nC])
  refine lZ ?_
  clear d0 d1 d1n
  have hrl : r < (List.replicate p.len.length false).length := by rw [List.length_replicate]; exact hr
  go_wp2_with (first | (refine oM ?_; refine sMW hS rfl rfl rfl rfl rfl (by omega) ?_; clear hS; intro g2 w hS; rw [← boolsR] at hS) | (refine oS ?_; refine sS6 hS rfl rfl rfl hrl ?_; clear hS; intro w hS) | (refine oL ?_; (first | refine sL1 hS rfl rfl rfl ?_ | refine sL2 hS rfl rfl rfl ?_ | refine sL3 hS rfl rfl ?_ | refine sL4 hS rfl rfl ?_ | refine sL5 hS rfl rfl ?_ | refine sL6 hS rfl rfl ?_ | refine sL7 hS rfl rfl ?_)) | (refine oS ?_; ((first | refine sS1 hS rfl rfl rfl ?_ | refine sS2 hS rfl rfl rfl ?_ | refine sS3 hS rfl rfl rfl ?_ | refine sS4 hS rfl rfl rfl ?_ | refine sS5 hS rfl rfl rfl ?_); clear hS; intro w hS)) | (refine oP ?_; ((first | refine sP1 hS rfl rfl rfl ?_ | refine sP2 hS rfl rfl rfl ?_ | refine sP3 hS rfl rfl rfl ?_); clear hS; first | ((fail_if_success guard_hyp L1); intro L1 cl1 w hL1 hM1 hS) | ((fail_if_success guard_hyp L2); intro L2 cl2 w hL2 hM2 hS) | fail)) | ((first | (refine oB ?_; first | refine sB1 hS rfl rfl ?_ | refine sB2 hS rfl rfl ?_) | (refine oC ?_; first | refine sC0 hS rfl ?_ | refine sC1 hS rfl rfl ?_ | refine sC2 hS rfl rfl ?_ | refine sC3 hS rfl rfl rfl ?_ | refine sC4 hS rfl rfl rfl ?_) | refine sM1 hS rfl rfl rfl ?_); clear hS; first | ((fail_if_success guard_hyp g1); intro g1 w hS) | ((fail_if_success guard_hyp g2); intro g2 w hS) | ((fail_if_success guard_hyp g3); intro g3 w hS) | ((fail_if_success guard_hyp g4); intro g4 w hS) | fail) | fail)
  have HST := Lib.hid (show ClI p r ((List.replicate p.len.length false).set r true) from by
    have hu : ∀ z, opOf ((List.replicate p.len.length false).set r true) z = if z = r then true else opOf (List.replicate p.len.length false) z := fun z => getD_setF _ hrl true false z
    have hz : ∀ z, opOf (List.replicate p.len.length false) z = false := fun z => by
      simp only [opOf, List.getD_eq_getElem?_getD, List.getElem?_replicate]
      split <;> rfl
    refine ⟨by simp, by rw [hu, if_pos rfl], fun q hq => ?_⟩
    rw [hu] at hq
    by_cases e : q = r
    · subst e; exact .here
    · rw [if_neg e, hz] at hq; cases hq)
  clear hrl
  generalize (List.replicate p.len.length false).set r true = l0 at *
  obtain ⟨kk0, hkk⟩ : ∃ kk0, 2 * falN l0 + 1 = kk0 := ⟨_, rfl⟩
  go_loopg [8, 9, 10] (kk0) (fun kk s8 s9 s10 wr => ∃ (l : List Bool) (m : Bool), s8 = .bool m ∧ Hid (ClO p r l m kk) ∧ St w0 NoM [row (.slice (some ⟨g2, 0, none⟩) p.len.length p.len.length) 4 1 p.len.length (bools l), blk g1 [.slice A1 p.len.length c1, .slice A2 p.ck.length c2, .slice A3 p.arcs.length c3] 44] wr)
  case atStart => exact ⟨l0, true, rfl, Lib.hid ⟨HST.out, by rw [← hkk]; rfl, fun h => (by cases h)⟩, hS.re⟩
  case round =>
    clear hS
    obtain ⟨l, m, rfl, HO, hS⟩ := hrel
    have hll : l.length = p.len.length := HO.out.1.n
    cases m with
    | false =>
      have HF := Lib.hid (HO.out.2.2 rfl)
      go_wp2_with (first | (refine oL ?_; (first | refine sL1 hS rfl rfl rfl ?_ | refine sL2 hS rfl rfl rfl ?_ | refine sL3 hS rfl rfl ?_ | refine sL4 hS rfl rfl ?_ | refine sL5 hS rfl rfl ?_ | refine sL6 hS rfl rfl ?_ | refine sL7 hS rfl rfl ?_)) | (refine oS ?_; ((first | refine sS1 hS rfl rfl rfl ?_ | refine sS2 hS rfl rfl rfl ?_ | refine sS3 hS rfl rfl rfl ?_ | refine sS4 hS rfl rfl rfl ?_ | refine sS5 hS rfl rfl rfl ?_); clear hS; intro w hS)) | (refine oP ?_; ((first | refine sP1 hS rfl rfl rfl ?_ | refine sP2 hS rfl rfl rfl ?_ | refine sP3 hS rfl rfl rfl ?_); clear hS; first | ((fail_if_success guard_hyp L1); intro L1 cl1 w hL1 hM1 hS) | ((fail_if_success guard_hyp L2); intro L2 cl2 w hL2 hM2 hS) | fail)) | ((first | (refine oB ?_; first | refine sB1 hS rfl rfl ?_ | refine sB2 hS rfl rfl ?_) | (refine oC ?_; first | refine sC0 hS rfl ?_ | refine sC1 hS rfl rfl ?_ | refine sC2 hS rfl rfl ?_ | refine sC3 hS rfl rfl rfl ?_ | refine sC4 hS rfl rfl rfl ?_) | refine sM1 hS rfl rfl rfl ?_); clear hS; first | ((fail_if_success guard_hyp g1); intro g1 w hS) | ((fail_if_success guard_hyp g2); intro g2 w hS) | ((fail_if_success guard_hyp g3); intro g3 w hS) | ((fail_if_success guard_hyp g4); intro g4 w hS) | fail) | fail)
      go_loopw [11, 12] (fun s11 s12 wr => ∃ (q : Nat) (L : Option Addr) (cL k : Nat), q ≤ p.len.length ∧ k ≤ q ∧ s12 = .int .i64 q ∧ s11 = .slice L k cL ∧ Hid (((List.range q).filter (opOf l)).length = k) ∧ St w0 NoM [row (.slice L k cL) 3 1 k (ints (nats ((List.range q).filter (opOf l)))), row (.slice (some ⟨g2, 0, none⟩) p.len.length p.len.length) 4 1 p.len.length (bools l), blk g1 [.slice A1 p.len.length c1, .slice A2 p.ck.length c2, .slice A3 p.arcs.length c3] 44] wr) (fun _ s12 _ => p.len.length - (intOf s12).toNat)
      case atStart =>
        have hz : St w0 NoM (row (.slice none 0 0) 3 1 0 (ints (nats ((List.range 0).filter (opOf l)))) :: _) _ := hS.addNil 3 1
        exact ⟨0, none, 0, 0, by omega, by omega, rfl, rfl, Lib.hid rfl, hz.re⟩
      case round =>
        clear hS
        obtain ⟨q, L, cL, k, hq, hkq, rfl, rfl, HK, hS⟩ := hrel
        by_cases hlt : q < p.len.length
        · have hlt' : (q : Int) < p.len.length := by omega
          have hrow := opOf_at (l := l) (q := q) (by omega)
          have HFS := Lib.hid (filter_range_succ (opOf l) q)
          generalize hb : opOf l q = b at *
          cases b with
          | false =>
            go_wp2_with (first | (refine oL ?_; (first | refine sL1 hS rfl rfl rfl ?_ | refine sL2 hS rfl rfl rfl ?_ | refine sL3 hS rfl rfl ?_ | refine sL4 hS rfl rfl ?_ | refine sL5 hS rfl rfl ?_ | refine sL6 hS rfl rfl ?_ | refine sL7 hS rfl rfl ?_)) | (refine oS ?_; ((first | refine sS1 hS rfl rfl rfl ?_ | refine sS2 hS rfl rfl rfl ?_ | refine sS3 hS rfl rfl rfl ?_ | refine sS4 hS rfl rfl rfl ?_ | refine sS5 hS rfl rfl rfl ?_); clear hS; intro w hS)) | (refine oP ?_; ((first | refine sP1 hS rfl rfl rfl ?_ | refine sP2 hS rfl rfl rfl ?_ | refine sP3 hS rfl rfl rfl ?_); clear hS; first | ((fail_if_success guard_hyp L1); intro L1 cl1 w hL1 hM1 hS) | ((fail_if_success guard_hyp L2); intro L2 cl2 w hL2 hM2 hS) | fail)) | ((first | (refine oB ?_; first | refine sB1 hS rfl rfl ?_ | refine sB2 hS rfl rfl ?_) | (refine oC ?_; first | refine sC0 hS rfl ?_ | refine sC1 hS rfl rfl ?_ | refine sC2 hS rfl rfl ?_ | refine sC3 hS rfl rfl rfl ?_ | refine sC4 hS rfl rfl rfl ?_) | refine sM1 hS rfl rfl rfl ?_); clear hS; first | ((fail_if_success guard_hyp g1); intro g1 w hS) | ((fail_if_success guard_hyp g2); intro g2 w hS) | ((fail_if_success guard_hyp g3); intro g3 w hS) | ((fail_if_success guard_hyp g4); intro g4 w hS) | fail) | fail)
            go_roundw
            case measure => simp [intOf]; try omega
            exact ⟨q + 1, L, cL, k, by omega, by omega, by go_num, rfl, Lib.hid (by rw [HFS.out]; simp [HK.out]), by rw [HFS.out]; simp only [Bool.false_eq_true, if_false, List.append_nil]; exact hS⟩
          | true =>
            go_wp2_with (first | (refine oL ?_; (first | refine sL1 hS rfl rfl rfl ?_ | refine sL2 hS rfl rfl rfl ?_ | refine sL3 hS rfl rfl ?_ | refine sL4 hS rfl rfl ?_ | refine sL5 hS rfl rfl ?_ | refine sL6 hS rfl rfl ?_ | refine sL7 hS rfl rfl ?_)) | (refine oS ?_; ((first | refine sS1 hS rfl rfl rfl ?_ | refine sS2 hS rfl rfl rfl ?_ | refine sS3 hS rfl rfl rfl ?_ | refine sS4 hS rfl rfl rfl ?_ | refine sS5 hS rfl rfl rfl ?_); clear hS; intro w hS)) | (refine oP ?_; ((first | refine sP1 hS rfl rfl rfl ?_ | refine sP2 hS rfl rfl rfl ?_ | refine sP3 hS rfl rfl rfl ?_); clear hS; first | ((fail_if_success guard_hyp L1); intro L1 cl1 w hL1 hM1 hS) | ((fail_if_success guard_hyp L2); intro L2 cl2 w hL2 hM2 hS) | fail)) | ((first | (refine oB ?_; first | refine sB1 hS rfl rfl ?_ | refine sB2 hS rfl rfl ?_) | (refine oC ?_; first | refine sC0 hS rfl ?_ | refine sC1 hS rfl rfl ?_ | refine sC2 hS rfl rfl ?_ | refine sC3 hS rfl rfl rfl ?_ | refine sC4 hS rfl rfl rfl ?_) | refine sM1 hS rfl rfl rfl ?_); clear hS; first | ((fail_if_success guard_hyp g1); intro g1 w hS) | ((fail_if_success guard_hyp g2); intro g2 w hS) | ((fail_if_success guard_hyp g3); intro g3 w hS) | ((fail_if_success guard_hyp g4); intro g4 w hS) | fail) | fail)
            go_roundw
            case measure => simp [intOf]; try omega
            refine ⟨q + 1, L1, cl1, k + 1, by omega, by omega, by go_num, rfl, Lib.hid ?_, ?_⟩
            · rw [HFS.out]; simp [HK.out]
            · have e : ints (nats ((List.range (q + 1)).filter (opOf l))) = ints (nats ((List.range q).filter (opOf l))) ++ [.int .i64 (q : Int)] := by rw [HFS.out]; simp [ints, nats]
              rw [e]
              exact hS.re
        · have hlt' : ¬ (q : Int) < p.len.length := by omega
          have HE := Lib.hid (show q = p.len.length by omega)
          go_wp2_with (first | (refine oL ?_; (first | refine sL1 hS rfl rfl rfl ?_ | refine sL2 hS rfl rfl rfl ?_ | refine sL3 hS rfl rfl ?_ | refine sL4 hS rfl rfl ?_ | refine sL5 hS rfl rfl ?_ | refine sL6 hS rfl rfl ?_ | refine sL7 hS rfl rfl ?_)) | (refine oS ?_; ((first | refine sS1 hS rfl rfl rfl ?_ | refine sS2 hS rfl rfl rfl ?_ | refine sS3 hS rfl rfl rfl ?_ | refine sS4 hS rfl rfl rfl ?_ | refine sS5 hS rfl rfl rfl ?_); clear hS; intro w hS)) | (refine oP ?_; ((first | refine sP1 hS rfl rfl rfl ?_ | refine sP2 hS rfl rfl rfl ?_ | refine sP3 hS rfl rfl rfl ?_); clear hS; first | ((fail_if_success guard_hyp L1); intro L1 cl1 w hL1 hM1 hS) | ((fail_if_success guard_hyp L2); intro L2 cl2 w hL2 hM2 hS) | fail)) | ((first | (refine oB ?_; first | refine sB1 hS rfl rfl ?_ | refine sB2 hS rfl rfl ?_) | (refine oC ?_; first | refine sC0 hS rfl ?_ | refine sC1 hS rfl rfl ?_ | refine sC2 hS rfl rfl ?_ | refine sC3 hS rfl rfl rfl ?_ | refine sC4 hS rfl rfl rfl ?_) | refine sM1 hS rfl rfl rfl ?_); clear hS; first | ((fail_if_success guard_hyp g1); intro g1 w hS) | ((fail_if_success guard_hyp g2); intro g2 w hS) | ((fail_if_success guard_hyp g3); intro g3 w hS) | ((fail_if_success guard_hyp g4); intro g4 w hS) | fail) | fail)
          go_ret
          rw [HE.out] at HK hS
          refine ⟨(List.range p.len.length).filter (opOf l), ⟨List.Pairwise.filter _ List.pairwise_lt_range, fun z => ?_⟩, ?_⟩
          · rw [List.mem_filter, List.mem_range, ← HF.out z]
            refine ⟨fun h => h.2, fun h => ⟨Classical.byContradiction fun hn => ?_, h⟩⟩
            have h0 : opOf l z = false := by
              unfold opOf
              rw [List.getD_eq_getElem?_getD, List.getElem?_eq_none (by omega)]
              rfl
            rw [h0] at h
            cases h
          · have h9 := hS.ret (L := L) (c := cL) (k := k) rfl
            rw [HK.out]
            (try simp only [ints, nats, List.map_map] at h9 ⊢)
            exact h9
    | true =>
      go_wp2_with (first | (refine oL ?_; (first | refine sL1 hS rfl rfl rfl ?_ | refine sL2 hS rfl rfl rfl ?_ | refine sL3 hS rfl rfl ?_ | refine sL4 hS rfl rfl ?_ | refine sL5 hS rfl rfl ?_ | refine sL6 hS rfl rfl ?_ | refine sL7 hS rfl rfl ?_)) | (refine oS ?_; ((first | refine sS1 hS rfl rfl rfl ?_ | refine sS2 hS rfl rfl rfl ?_ | refine sS3 hS rfl rfl rfl ?_ | refine sS4 hS rfl rfl rfl ?_ | refine sS5 hS rfl rfl rfl ?_); clear hS; intro w hS)) | (refine oP ?_; ((first | refine sP1 hS rfl rfl rfl ?_ | refine sP2 hS rfl rfl rfl ?_ | refine sP3 hS rfl rfl rfl ?_); clear hS; first | ((fail_if_success guard_hyp L1); intro L1 cl1 w hL1 hM1 hS) | ((fail_if_success guard_hyp L2); intro L2 cl2 w hL2 hM2 hS) | fail)) | ((first | (refine oB ?_; first | refine sB1 hS rfl rfl ?_ | refine sB2 hS rfl rfl ?_) | (refine oC ?_; first | refine sC0 hS rfl ?_ | refine sC1 hS rfl rfl ?_ | refine sC2 hS rfl rfl ?_ | refine sC3 hS rfl rfl rfl ?_ | refine sC4 hS rfl rfl rfl ?_) | refine sM1 hS rfl rfl rfl ?_); clear hS; first | ((fail_if_success guard_hyp g1); intro g1 w hS) | ((fail_if_success guard_hyp g2); intro g2 w hS) | ((fail_if_success guard_hyp g3); intro g3 w hS) | ((fail_if_success guard_hyp g4); intro g4 w hS) | fail) | fail)
      go_loopw [8, 9, 10] (fun s8 s9 s10 wr => ∃ (q : Nat) (l2 : List Bool) (m2 : Bool), q ≤ p.len.length ∧ s9 = .int .i64 q ∧ s8 = .bool m2 ∧ Hid (ClM p r l q 0 l2 m2) ∧ St w0 NoM [row (.slice (some ⟨g2, 0, none⟩) p.len.length p.len.length) 4 1 p.len.length (bools l2), blk g1 [.slice A1 p.len.length c1, .slice A2 p.ck.length c2, .slice A3 p.arcs.length c3] 44] wr) (fun _ s9 _ _ => p.len.length - (intOf s9).toNat)
      case atStart => exact ⟨0, l, false, by omega, rfl, rfl, Lib.hid (ClM.start HO.out.1), hS⟩
      case round =>
        clear hS
        obtain ⟨q, l2, m2, hq, rfl, rfl, HM, hS⟩ := hrel
        by_cases hlt : q < p.len.length
        · have hlt' : (q : Int) < p.len.length := by omega
          go_wp2_with (first | (refine oL ?_; (first | refine sL1 hS rfl rfl rfl ?_ | refine sL2 hS rfl rfl rfl ?_ | refine sL3 hS rfl rfl ?_ | refine sL4 hS rfl rfl ?_ | refine sL5 hS rfl rfl ?_ | refine sL6 hS rfl rfl ?_ | refine sL7 hS rfl rfl ?_)) | (refine oS ?_; ((first | refine sS1 hS rfl rfl rfl ?_ | refine sS2 hS rfl rfl rfl ?_ | refine sS3 hS rfl rfl rfl ?_ | refine sS4 hS rfl rfl rfl ?_ | refine sS5 hS rfl rfl rfl ?_); clear hS; intro w hS)) | (refine oP ?_; ((first | refine sP1 hS rfl rfl rfl ?_ | refine sP2 hS rfl rfl rfl ?_ | refine sP3 hS rfl rfl rfl ?_); clear hS; first | ((fail_if_success guard_hyp L1); intro L1 cl1 w hL1 hM1 hS) | ((fail_if_success guard_hyp L2); intro L2 cl2 w hL2 hM2 hS) | fail)) | ((first | (refine oB ?_; first | refine sB1 hS rfl rfl ?_ | refine sB2 hS rfl rfl ?_) | (refine oC ?_; first | refine sC0 hS rfl ?_ | refine sC1 hS rfl rfl ?_ | refine sC2 hS rfl rfl ?_ | refine sC3 hS rfl rfl rfl ?_ | refine sC4 hS rfl rfl rfl ?_) | refine sM1 hS rfl rfl rfl ?_); clear hS; first | ((fail_if_success guard_hyp g1); intro g1 w hS) | ((fail_if_success guard_hyp g2); intro g2 w hS) | ((fail_if_success guard_hyp g3); intro g3 w hS) | ((fail_if_success guard_hyp g4); intro g4 w hS) | fail) | fail)
          go_loopw [8, 10] (fun s8 s10 wr => ∃ (s : Nat) (l3 : List Bool) (m3 : Bool), s ≤ p.len.length ∧ s10 = .int .i64 s ∧ s8 = .bool m3 ∧ Hid (ClM p r l q s l3 m3) ∧ St w0 NoM [row (.slice (some ⟨g2, 0, none⟩) p.len.length p.len.length) 4 1 p.len.length (bools l3), blk g1 [.slice A1 p.len.length c1, .slice A2 p.ck.length c2, .slice A3 p.arcs.length c3] 44] wr) (fun _ s10 _ => p.len.length - (intOf s10).toNat)
          case atStart => exact ⟨0, l2, m2, by omega, rfl, rfl, HM, hS⟩
          case round =>
            clear hS HM
            obtain ⟨s, l3, m3, hs, rfl, rfl, HM, hS⟩ := hrel
            have hl3 : l3.length = p.len.length := HM.out.c.n
            by_cases hsl : s < p.len.length
            · have hsl' : (s : Int) < p.len.length := by omega
              have hr1 := opOf_at (l := l3) (q := q) (by omega)
              have hr2 := opOf_at (l := l3) (q := s) (by omega)
              have hs3 : s < l3.length := by omega
              have HKP := Lib.hid (fun h => HM.out.keep h)
              have HAD := Lib.hid (fun h1 h2 h3 => HM.out.add hsl h1 h2 h3)
              generalize opOf l3 q = b1 at *
              generalize opOf l3 s = b2 at *
              generalize hsr : isSrc p s q = b3 at *
              have HSR := Lib.hid hsr
              clear hsr
              cases b1 with
              | false =>
                have HN := Lib.hid (HKP.out (by simp))
                go_upto_region 14 with (first | (refine oL ?_; (first | refine sL1 hS rfl rfl rfl ?_ | refine sL2 hS rfl rfl rfl ?_ | refine sL3 hS rfl rfl ?_ | refine sL4 hS rfl rfl ?_ | refine sL5 hS rfl rfl ?_ | refine sL6 hS rfl rfl ?_ | refine sL7 hS rfl rfl ?_)) | (refine oS ?_; ((first | refine sS1 hS rfl rfl rfl ?_ | refine sS2 hS rfl rfl rfl ?_ | refine sS3 hS rfl rfl rfl ?_ | refine sS4 hS rfl rfl rfl ?_ | refine sS5 hS rfl rfl rfl ?_); clear hS; intro w hS)) | (refine oP ?_; ((first | refine sP1 hS rfl rfl rfl ?_ | refine sP2 hS rfl rfl rfl ?_ | refine sP3 hS rfl rfl rfl ?_); clear hS; first | ((fail_if_success guard_hyp L1); intro L1 cl1 w hL1 hM1 hS) | ((fail_if_success guard_hyp L2); intro L2 cl2 w hL2 hM2 hS) | fail)) | ((first | (refine oB ?_; first | refine sB1 hS rfl rfl ?_ | refine sB2 hS rfl rfl ?_) | (refine oC ?_; first | refine sC0 hS rfl ?_ | refine sC1 hS rfl rfl ?_ | refine sC2 hS rfl rfl ?_ | refine sC3 hS rfl rfl rfl ?_ | refine sC4 hS rfl rfl rfl ?_) | refine sM1 hS rfl rfl rfl ?_); clear hS; first | ((fail_if_success guard_hyp g1); intro g1 w hS) | ((fail_if_success guard_hyp g2); intro g2 w hS) | ((fail_if_success guard_hyp g3); intro g3 w hS) | ((fail_if_success guard_hyp g4); intro g4 w hS) | fail) | fail)
                refine lR ?_
                refine lM rfl rfl ?_
                (try simp only [Act.put, nA, nB, nC])
                refine lM rfl rfl ?_
                (try simp only [Act.put, nA, nB, nC])
                refine lP rfl ?_
                (try simp only [Act.put, nA, nB, nC])
                (refine ⟨?_⟩; ((first | refine sL1 hS rfl rfl rfl ?_ | refine sL2 hS rfl rfl rfl ?_ | refine sL3 hS rfl rfl ?_ | refine sL4 hS rfl rfl ?_ | refine sL5 hS rfl rfl ?_ | refine sL6 hS rfl rfl ?_ | refine sL7 hS rfl rfl ?_)); refine WL.h ?_)
                (try simp only [Act.put, nA, nB, nC])
                refine lM rfl rfl ?_
                (try simp only [Act.put, nA, nB, nC])
                first | refine lQ rfl ?_ | refine lM rfl rfl ?_ | fail
                (try simp only [Act.put, nA, nB, nC])
                first | refine lQ rfl ?_ | refine lM rfl rfl ?_ | fail
                (try simp only [Act.put, nA, nB, nC])
                first | refine lQ rfl ?_ | refine lP rfl ?_ | fail
                (try simp only [Act.put, nA, nB, nC])
                first | refine lQ rfl ?_ | (refine ⟨?_⟩; ((first | refine sL1 hS rfl rfl rfl ?_ | refine sL2 hS rfl rfl rfl ?_ | refine sL3 hS rfl rfl ?_ | refine sL4 hS rfl rfl ?_ | refine sL5 hS rfl rfl ?_ | refine sL6 hS rfl rfl ?_ | refine sL7 hS rfl rfl ?_)); refine WL.h ?_) | fail
                (try simp only [Act.put, nA, nB, nC])
                first | refine lQ rfl ?_ | refine lP rfl ?_ | fail
                (try simp only [Act.put, nA, nB, nC])
                refine lP rfl ?_
                (try simp only [Act.put, nA, nB, nC])
                refine lM rfl rfl ?_
                (try simp only [Act.put, nA, nB, nC])
                first | refine lQ rfl ?_ | refine lM rfl rfl ?_ | fail
                (try simp only [Act.put, nA, nB, nC])
                first | refine lQ rfl ?_ | refine lP rfl ?_ | fail
                (try simp only [Act.put, nA, nB, nC])
                first | refine lQ rfl ?_ | refine lM rfl rfl ?_ | fail
                (try simp only [Act.put, nA, nB, nC])
                first | refine lQ rfl ?_ | (refine ⟨?_⟩; ((first | refine sL1 hS rfl rfl rfl ?_ | refine sL2 hS rfl rfl rfl ?_ | refine sL3 hS rfl rfl ?_ | refine sL4 hS rfl rfl ?_ | refine sL5 hS rfl rfl ?_ | refine sL6 hS rfl rfl ?_ | refine sL7 hS rfl rfl ?_)); refine WL.h ?_) | fail
                (try simp only [Act.put, nA, nB, nC])
                first | refine lQ rfl ?_ | refine lM rfl rfl ?_ | fail
                (try simp only [Act.put, nA, nB, nC])
                first | refine lQ rfl ?_ | refine lM rfl rfl ?_ | fail
                (try simp only [Act.put, nA, nB, nC])
                refine lQ rfl ?_
                (try simp only [Act.put, nA, nB, nC])
                first | refine lQ rfl ?_ | refine lP rfl ?_ | fail
                (try simp only [Act.put, nA, nB, nC])
                first | refine lQ rfl ?_ | refine lM rfl rfl ?_ | fail
                (try simp only [Act.put, nA, nB, nC])
                first | refine lQ rfl ?_ | refine lM rfl rfl ?_ | fail
                (try simp only [Act.put, nA, nB, nC])
                first | refine lQ rfl ?_ | refine lM rfl rfl ?_ | fail
                (try simp only [Act.put, nA, nB, nC])
                first | refine lQ rfl ?_ | (refine ⟨?_⟩; ((first | refine sL1 hS rfl rfl rfl ?_ | refine sL2 hS rfl rfl rfl ?_ | refine sL3 hS rfl rfl ?_ | refine sL4 hS rfl rfl ?_ | refine sL5 hS rfl rfl ?_ | refine sL6 hS rfl rfl ?_ | refine sL7 hS rfl rfl ?_)); refine WL.h ?_) | fail
                (try simp only [Act.put, nA, nB, nC])
                first | refine lQ rfl ?_ | refine lM rfl rfl ?_ | fail
                (try simp only [Act.put, nA, nB, nC])
                first | refine lQ rfl ?_ | refine lM rfl rfl ?_ | fail
                (try simp only [Act.put, nA, nB, nC])
                refine lQ rfl ?_
                (try simp only [Act.put, nA, nB, nC])
                first | refine lQ rfl ?_ | refine lP rfl ?_ | fail
                (try simp only [Act.put, nA, nB, nC])
                first | refine lQ rfl ?_ | refine lP rfl ?_ | fail
                (try simp only [Act.put, nA, nB, nC])
                refine lP rfl ?_
                (try simp only [Act.put, nA, nB, nC])
                refine lZ ?_
                go_wp2_with (first | (refine oL ?_; (first | refine sL1 hS rfl rfl rfl ?_ | refine sL2 hS rfl rfl rfl ?_ | refine sL3 hS rfl rfl ?_ | refine sL4 hS rfl rfl ?_ | refine sL5 hS rfl rfl ?_ | refine sL6 hS rfl rfl ?_ | refine sL7 hS rfl rfl ?_)) | (refine oS ?_; ((first | refine sS1 hS rfl rfl rfl ?_ | refine sS2 hS rfl rfl rfl ?_ | refine sS3 hS rfl rfl rfl ?_ | refine sS4 hS rfl rfl rfl ?_ | refine sS5 hS rfl rfl rfl ?_); clear hS; intro w hS)) | (refine oP ?_; ((first | refine sP1 hS rfl rfl rfl ?_ | refine sP2 hS rfl rfl rfl ?_ | refine sP3 hS rfl rfl rfl ?_); clear hS; first | ((fail_if_success guard_hyp L1); intro L1 cl1 w hL1 hM1 hS) | ((fail_if_success guard_hyp L2); intro L2 cl2 w hL2 hM2 hS) | fail)) | ((first | (refine oB ?_; first | refine sB1 hS rfl rfl ?_ | refine sB2 hS rfl rfl ?_) | (refine oC ?_; first | refine sC0 hS rfl ?_ | refine sC1 hS rfl rfl ?_ | refine sC2 hS rfl rfl ?_ | refine sC3 hS rfl rfl rfl ?_ | refine sC4 hS rfl rfl rfl ?_) | refine sM1 hS rfl rfl rfl ?_); clear hS; first | ((fail_if_success guard_hyp g1); intro g1 w hS) | ((fail_if_success guard_hyp g2); intro g2 w hS) | ((fail_if_success guard_hyp g3); intro g3 w hS) | ((fail_if_success guard_hyp g4); intro g4 w hS) | fail) | fail)
                go_roundw
                case measure => simp [intOf]; try omega
                exact ⟨s + 1, l3, m3, by omega, by go_num, rfl, HN, hS⟩
              | true =>
                cases b2 with
                | true =>
                  have HN := Lib.hid (HKP.out (by simp))
                  go_upto_region 14 with (first | (refine oL ?_; (first | refine sL1 hS rfl rfl rfl ?_ | refine sL2 hS rfl rfl rfl ?_ | refine sL3 hS rfl rfl ?_ | refine sL4 hS rfl rfl ?_ | refine sL5 hS rfl rfl ?_ | refine sL6 hS rfl rfl ?_ | refine sL7 hS rfl rfl ?_)) | (refine oS ?_; ((first | refine sS1 hS rfl rfl rfl ?_ | refine sS2 hS rfl rfl rfl ?_ | refine sS3 hS rfl rfl rfl ?_ | refine sS4 hS rfl rfl rfl ?_ | refine sS5 hS rfl rfl rfl ?_); clear hS; intro w hS)) | (refine oP ?_; ((first | refine sP1 hS rfl rfl rfl ?_ | refine sP2 hS rfl rfl rfl ?_ | refine sP3 hS rfl rfl rfl ?_); clear hS; first | ((fail_if_success guard_hyp L1); intro L1 cl1 w hL1 hM1 hS) | ((fail_if_success guard_hyp L2); intro L2 cl2 w hL2 hM2 hS) | fail)) | ((first | (refine oB ?_; first | refine sB1 hS rfl rfl ?_ | refine sB2 hS rfl rfl ?_) | (refine oC ?_; first | refine sC0 hS rfl ?_ | refine sC1 hS rfl rfl ?_ | refine sC2 hS rfl rfl ?_ | refine sC3 hS rfl rfl rfl ?_ | refine sC4 hS rfl rfl rfl ?_) | refine sM1 hS rfl rfl rfl ?_); clear hS; first | ((fail_if_success guard_hyp g1); intro g1 w hS) | ((fail_if_success guard_hyp g2); intro g2 w hS) | ((fail_if_success guard_hyp g3); intro g3 w hS) | ((fail_if_success guard_hyp g4); intro g4 w hS) | fail) | fail)
                  refine lR ?_
                  refine lM rfl rfl ?_
                  (try simp only [Act.put, nA, nB, nC])
                  refine lM rfl rfl ?_
                  (try simp only [Act.put, nA, nB, nC])
                  refine lP rfl ?_
                  (try simp only [Act.put, nA, nB, nC])
                  (refine ⟨?_⟩; ((first | refine sL1 hS rfl rfl rfl ?_ | refine sL2 hS rfl rfl rfl ?_ | refine sL3 hS rfl rfl ?_ | refine sL4 hS rfl rfl ?_ | refine sL5 hS rfl rfl ?_ | refine sL6 hS rfl rfl ?_ | refine sL7 hS rfl rfl ?_)); refine WL.h ?_)
                  (try simp only [Act.put, nA, nB, nC])
                  refine lM rfl rfl ?_
                  (try simp only [Act.put, nA, nB, nC])
                  first | refine lQ rfl ?_ | refine lM rfl rfl ?_ | fail
                  (try simp only [Act.put, nA, nB, nC])
                  first | refine lQ rfl ?_ | refine lM rfl rfl ?_ | fail
                  (try simp only [Act.put, nA, nB, nC])
                  first | refine lQ rfl ?_ | refine lP rfl ?_ | fail
                  (try simp only [Act.put, nA, nB, nC])
                  first | refine lQ rfl ?_ | (refine ⟨?_⟩; ((first | refine sL1 hS rfl rfl rfl ?_ | refine sL2 hS rfl rfl rfl ?_ | refine sL3 hS rfl rfl ?_ | refine sL4 hS rfl rfl ?_ | refine sL5 hS rfl rfl ?_ | refine sL6 hS rfl rfl ?_ | refine sL7 hS rfl rfl ?_)); refine WL.h ?_) | fail
                  (try simp only [Act.put, nA, nB, nC])
                  first | refine lQ rfl ?_ | refine lP rfl ?_ | fail
                  (try simp only [Act.put, nA, nB, nC])
                  refine lP rfl ?_
                  (try simp only [Act.put, nA, nB, nC])
                  refine lM rfl rfl ?_
                  (try simp only [Act.put, nA, nB, nC])
                  first | refine lQ rfl ?_ | refine lM rfl rfl ?_ | fail
                  (try simp only [Act.put, nA, nB, nC])
                  first | refine lQ rfl ?_ | refine lP rfl ?_ | fail
                  (try simp only [Act.put, nA, nB, nC])
                  first | refine lQ rfl ?_ | refine lM rfl rfl ?_ | fail
                  (try simp only [Act.put, nA, nB, nC])
                  first | refine lQ rfl ?_ | (refine ⟨?_⟩; ((first | refine sL1 hS rfl rfl rfl ?_ | refine sL2 hS rfl rfl rfl ?_ | refine sL3 hS rfl rfl ?_ | refine sL4 hS rfl rfl ?_ | refine sL5 hS rfl rfl ?_ | refine sL6 hS rfl rfl ?_ | refine sL7 hS rfl rfl ?_)); refine WL.h ?_) | fail
                  (try simp only [Act.put, nA, nB, nC])
                  first | refine lQ rfl ?_ | refine lM rfl rfl ?_ | fail
                  (try simp only [Act.put, nA, nB, nC])
                  first | refine lQ rfl ?_ | refine lM rfl rfl ?_ | fail
                  (try simp only [Act.put, nA, nB, nC])
                  refine lQ rfl ?_
                  (try simp only [Act.put, nA, nB, nC])
                  first | refine lQ rfl ?_ | refine lP rfl ?_ | fail
                  (try simp only [Act.put, nA, nB, nC])
                  first | refine lQ rfl ?_ | refine lM rfl rfl ?_ | fail
                  (try simp only [Act.put, nA, nB, nC])
                  first | refine lQ rfl ?_ | refine lM rfl rfl ?_ | fail
                  (try simp only [Act.put, nA, nB, nC])
                  first | refine lQ rfl ?_ | refine lM rfl rfl ?_ | fail
                  (try simp only [Act.put, nA, nB, nC])
                  first | refine lQ rfl ?_ | (refine ⟨?_⟩; ((first | refine sL1 hS rfl rfl rfl ?_ | refine sL2 hS rfl rfl rfl ?_ | refine sL3 hS rfl rfl ?_ | refine sL4 hS rfl rfl ?_ | refine sL5 hS rfl rfl ?_ | refine sL6 hS rfl rfl ?_ | refine sL7 hS rfl rfl ?_)); refine WL.h ?_) | fail
                  (try simp only [Act.put, nA, nB, nC])
                  first | refine lQ rfl ?_ | refine lM rfl rfl ?_ | fail
                  (try simp only [Act.put, nA, nB, nC])
                  first | refine lQ rfl ?_ | refine lM rfl rfl ?_ | fail
                  (try simp only [Act.put, nA, nB, nC])
                  refine lQ rfl ?_
                  (try simp only [Act.put, nA, nB, nC])
                  first | refine lQ rfl ?_ | refine lP rfl ?_ | fail
                  (try simp only [Act.put, nA, nB, nC])
                  first | refine lQ rfl ?_ | refine lP rfl ?_ | fail
                  (try simp only [Act.put, nA, nB, nC])
                  refine lP rfl ?_
                  (try simp only [Act.put, nA, nB, nC])
                  refine lZ ?_
                  go_wp2_with (first | (refine oL ?_; (first | refine sL1 hS rfl rfl rfl ?_ | refine sL2 hS rfl rfl rfl ?_ | refine sL3 hS rfl rfl ?_ | refine sL4 hS rfl rfl ?_ | refine sL5 hS rfl rfl ?_ | refine sL6 hS rfl rfl ?_ | refine sL7 hS rfl rfl ?_)) | (refine oS ?_; ((first | refine sS1 hS rfl rfl rfl ?_ | refine sS2 hS rfl rfl rfl ?_ | refine sS3 hS rfl rfl rfl ?_ | refine sS4 hS rfl rfl rfl ?_ | refine sS5 hS rfl rfl rfl ?_); clear hS; intro w hS)) | (refine oP ?_; ((first | refine sP1 hS rfl rfl rfl ?_ | refine sP2 hS rfl rfl rfl ?_ | refine sP3 hS rfl rfl rfl ?_); clear hS; first | ((fail_if_success guard_hyp L1); intro L1 cl1 w hL1 hM1 hS) | ((fail_if_success guard_hyp L2); intro L2 cl2 w hL2 hM2 hS) | fail)) | ((first | (refine oB ?_; first | refine sB1 hS rfl rfl ?_ | refine sB2 hS rfl rfl ?_) | (refine oC ?_; first | refine sC0 hS rfl ?_ | refine sC1 hS rfl rfl ?_ | refine sC2 hS rfl rfl ?_ | refine sC3 hS rfl rfl rfl ?_ | refine sC4 hS rfl rfl rfl ?_) | refine sM1 hS rfl rfl rfl ?_); clear hS; first | ((fail_if_success guard_hyp g1); intro g1 w hS) | ((fail_if_success guard_hyp g2); intro g2 w hS) | ((fail_if_success guard_hyp g3); intro g3 w hS) | ((fail_if_success guard_hyp g4); intro g4 w hS) | fail) | fail)
                  go_roundw
                  case measure => simp [intOf]; try omega
                  exact ⟨s + 1, l3, m3, by omega, by go_num, rfl, HN, hS⟩
                | false =>
                  cases b3 with
                  | false =>
                    have HN := Lib.hid (HKP.out (by simp))
                    go_upto_region 14 with (first | (refine oL ?_; (first | refine sL1 hS rfl rfl rfl ?_ | refine sL2 hS rfl rfl rfl ?_ | refine sL3 hS rfl rfl ?_ | refine sL4 hS rfl rfl ?_ | refine sL5 hS rfl rfl ?_ | refine sL6 hS rfl rfl ?_ | refine sL7 hS rfl rfl ?_)) | (refine oS ?_; ((first | refine sS1 hS rfl rfl rfl ?_ | refine sS2 hS rfl rfl rfl ?_ | refine sS3 hS rfl rfl rfl ?_ | refine sS4 hS rfl rfl rfl ?_ | refine sS5 hS rfl rfl rfl ?_); clear hS; intro w hS)) | (refine oP ?_; ((first | refine sP1 hS rfl rfl rfl ?_ | refine sP2 hS rfl rfl rfl ?_ | refine sP3 hS rfl rfl rfl ?_); clear hS; first | ((fail_if_success guard_hyp L1); intro L1 cl1 w hL1 hM1 hS) | ((fail_if_success guard_hyp L2); intro L2 cl2 w hL2 hM2 hS) | fail)) | ((first | (refine oB ?_; first | refine sB1 hS rfl rfl ?_ | refine sB2 hS rfl rfl ?_) | (refine oC ?_; first | refine sC0 hS rfl ?_ | refine sC1 hS rfl rfl ?_ | refine sC2 hS rfl rfl ?_ | refine sC3 hS rfl rfl rfl ?_ | refine sC4 hS rfl rfl rfl ?_) | refine sM1 hS rfl rfl rfl ?_); clear hS; first | ((fail_if_success guard_hyp g1); intro g1 w hS) | ((fail_if_success guard_hyp g2); intro g2 w hS) | ((fail_if_success guard_hyp g3); intro g3 w hS) | ((fail_if_success guard_hyp g4); intro g4 w hS) | fail) | fail)
                    refine lR ?_
                    refine lM rfl rfl ?_
                    (try simp only [Act.put, nA, nB, nC])
                    refine lM rfl rfl ?_
                    (try simp only [Act.put, nA, nB, nC])
                    refine lP rfl ?_
                    (try simp only [Act.put, nA, nB, nC])
                    (refine ⟨?_⟩; ((first | refine sL1 hS rfl rfl rfl ?_ | refine sL2 hS rfl rfl rfl ?_ | refine sL3 hS rfl rfl ?_ | refine sL4 hS rfl rfl ?_ | refine sL5 hS rfl rfl ?_ | refine sL6 hS rfl rfl ?_ | refine sL7 hS rfl rfl ?_)); refine WL.h ?_)
                    (try simp only [Act.put, nA, nB, nC])
                    refine lM rfl rfl ?_
                    (try simp only [Act.put, nA, nB, nC])
                    first | refine lQ rfl ?_ | refine lM rfl rfl ?_ | fail
                    (try simp only [Act.put, nA, nB, nC])
                    first | refine lQ rfl ?_ | refine lM rfl rfl ?_ | fail
                    (try simp only [Act.put, nA, nB, nC])
                    first | refine lQ rfl ?_ | refine lP rfl ?_ | fail
                    (try simp only [Act.put, nA, nB, nC])
                    first | refine lQ rfl ?_ | (refine ⟨?_⟩; ((first | refine sL1 hS rfl rfl rfl ?_ | refine sL2 hS rfl rfl rfl ?_ | refine sL3 hS rfl rfl ?_ | refine sL4 hS rfl rfl ?_ | refine sL5 hS rfl rfl ?_ | refine sL6 hS rfl rfl ?_ | refine sL7 hS rfl rfl ?_)); refine WL.h ?_) | fail
                    (try simp only [Act.put, nA, nB, nC])
                    first | refine lQ rfl ?_ | refine lP rfl ?_ | fail
                    (try simp only [Act.put, nA, nB, nC])
                    refine lP rfl ?_
                    (try simp only [Act.put, nA, nB, nC])
                    refine lM rfl rfl ?_
                    (try simp only [Act.put, nA, nB, nC])
                    first | refine lQ rfl ?_ | refine lM rfl rfl ?_ | fail
                    (try simp only [Act.put, nA, nB, nC])
                    first | refine lQ rfl ?_ | refine lP rfl ?_ | fail
                    (try simp only [Act.put, nA, nB, nC])
                    first | refine lQ rfl ?_ | refine lM rfl rfl ?_ | fail
                    (try simp only [Act.put, nA, nB, nC])
                    first | refine lQ rfl ?_ | (refine ⟨?_⟩; ((first | refine sL1 hS rfl rfl rfl ?_ | refine sL2 hS rfl rfl rfl ?_ | refine sL3 hS rfl rfl ?_ | refine sL4 hS rfl rfl ?_ | refine sL5 hS rfl rfl ?_ | refine sL6 hS rfl rfl ?_ | refine sL7 hS rfl rfl ?_)); refine WL.h ?_) | fail
                    (try simp only [Act.put, nA, nB, nC])
                    first | refine lQ rfl ?_ | refine lM rfl rfl ?_ | fail
                    (try simp only [Act.put, nA, nB, nC])
                    first | refine lQ rfl ?_ | refine lM rfl rfl ?_ | fail
                    (try simp only [Act.put, nA, nB, nC])
                    first | refine lQ rfl ?_ | (refine ⟨?_⟩; (refine st_call rfl (by kernel_rfl) rfl ?_; go_at_call 97; refine (source_any ⟨A1, c1, A2, c2, A3, c3⟩ p s q _ (HP.out.1.ext hS.toExt) HP.out.2 hsl hlt).mono ?_; rintro e w ⟨rfl, hx1⟩; rw [HSR.out]; replace hS := hS.ext hx1; clear hx1); refine WL.h ?_) | fail
                    (try simp only [Act.put, nA, nB, nC])
                    first | refine lQ rfl ?_ | refine lP rfl ?_ | fail
                    (try simp only [Act.put, nA, nB, nC])
                    first | refine lQ rfl ?_ | refine lM rfl rfl ?_ | fail
                    (try simp only [Act.put, nA, nB, nC])
                    first | refine lQ rfl ?_ | refine lM rfl rfl ?_ | fail
                    (try simp only [Act.put, nA, nB, nC])
                    first | refine lQ rfl ?_ | refine lM rfl rfl ?_ | fail
                    (try simp only [Act.put, nA, nB, nC])
                    first | refine lQ rfl ?_ | (refine ⟨?_⟩; ((first | refine sL1 hS rfl rfl rfl ?_ | refine sL2 hS rfl rfl rfl ?_ | refine sL3 hS rfl rfl ?_ | refine sL4 hS rfl rfl ?_ | refine sL5 hS rfl rfl ?_ | refine sL6 hS rfl rfl ?_ | refine sL7 hS rfl rfl ?_)); refine WL.h ?_) | fail
                    (try simp only [Act.put, nA, nB, nC])
                    first | refine lQ rfl ?_ | refine lM rfl rfl ?_ | fail
                    (try simp only [Act.put, nA, nB, nC])
                    first | refine lQ rfl ?_ | refine lM rfl rfl ?_ | fail
                    (try simp only [Act.put, nA, nB, nC])
                    first | refine lQ rfl ?_ | (refine ⟨?_⟩; (refine st_call rfl (by kernel_rfl) rfl ?_; go_at_call 97; refine (source_any ⟨A1, c1, A2, c2, A3, c3⟩ p s q _ (HP.out.1.ext hS.toExt) HP.out.2 hsl hlt).mono ?_; rintro e w ⟨rfl, hx1⟩; rw [HSR.out]; replace hS := hS.ext hx1; clear hx1); refine WL.h ?_) | fail
                    (try simp only [Act.put, nA, nB, nC])
                    first | refine lQ rfl ?_ | refine lP rfl ?_ | fail
                    (try simp only [Act.put, nA, nB, nC])
                    first | refine lQ rfl ?_ | refine lP rfl ?_ | fail
                    (try simp only [Act.put, nA, nB, nC])
                    refine lP rfl ?_
                    (try simp only [Act.put, nA, nB, nC])
                    refine lZ ?_
                    go_wp2_with (first | (refine oL ?_; (first | refine sL1 hS rfl rfl rfl ?_ | refine sL2 hS rfl rfl rfl ?_ | refine sL3 hS rfl rfl ?_ | refine sL4 hS rfl rfl ?_ | refine sL5 hS rfl rfl ?_ | refine sL6 hS rfl rfl ?_ | refine sL7 hS rfl rfl ?_)) | (refine oS ?_; ((first | refine sS1 hS rfl rfl rfl ?_ | refine sS2 hS rfl rfl rfl ?_ | refine sS3 hS rfl rfl rfl ?_ | refine sS4 hS rfl rfl rfl ?_ | refine sS5 hS rfl rfl rfl ?_); clear hS; intro w hS)) | (refine oP ?_; ((first | refine sP1 hS rfl rfl rfl ?_ | refine sP2 hS rfl rfl rfl ?_ | refine sP3 hS rfl rfl rfl ?_); clear hS; first | ((fail_if_success guard_hyp L1); intro L1 cl1 w hL1 hM1 hS) | ((fail_if_success guard_hyp L2); intro L2 cl2 w hL2 hM2 hS) | fail)) | ((first | (refine oB ?_; first | refine sB1 hS rfl rfl ?_ | refine sB2 hS rfl rfl ?_) | (refine oC ?_; first | refine sC0 hS rfl ?_ | refine sC1 hS rfl rfl ?_ | refine sC2 hS rfl rfl ?_ | refine sC3 hS rfl rfl rfl ?_ | refine sC4 hS rfl rfl rfl ?_) | refine sM1 hS rfl rfl rfl ?_); clear hS; first | ((fail_if_success guard_hyp g1); intro g1 w hS) | ((fail_if_success guard_hyp g2); intro g2 w hS) | ((fail_if_success guard_hyp g3); intro g3 w hS) | ((fail_if_success guard_hyp g4); intro g4 w hS) | fail) | fail)
                    go_roundw
                    case measure => simp [intOf]; try omega
                    exact ⟨s + 1, l3, m3, by omega, by go_num, rfl, HN, hS⟩
                  | true =>
                    have HN := Lib.hid (HAD.out rfl rfl rfl)
                    go_upto_region 14 with (first | (refine oL ?_; (first | refine sL1 hS rfl rfl rfl ?_ | refine sL2 hS rfl rfl rfl ?_ | refine sL3 hS rfl rfl ?_ | refine sL4 hS rfl rfl ?_ | refine sL5 hS rfl rfl ?_ | refine sL6 hS rfl rfl ?_ | refine sL7 hS rfl rfl ?_)) | (refine oS ?_; ((first | refine sS1 hS rfl rfl rfl ?_ | refine sS2 hS rfl rfl rfl ?_ | refine sS3 hS rfl rfl rfl ?_ | refine sS4 hS rfl rfl rfl ?_ | refine sS5 hS rfl rfl rfl ?_); clear hS; intro w hS)) | (refine oP ?_; ((first | refine sP1 hS rfl rfl rfl ?_ | refine sP2 hS rfl rfl rfl ?_ | refine sP3 hS rfl rfl rfl ?_); clear hS; first | ((fail_if_success guard_hyp L1); intro L1 cl1 w hL1 hM1 hS) | ((fail_if_success guard_hyp L2); intro L2 cl2 w hL2 hM2 hS) | fail)) | ((first | (refine oB ?_; first | refine sB1 hS rfl rfl ?_ | refine sB2 hS rfl rfl ?_) | (refine oC ?_; first | refine sC0 hS rfl ?_ | refine sC1 hS rfl rfl ?_ | refine sC2 hS rfl rfl ?_ | refine sC3 hS rfl rfl rfl ?_ | refine sC4 hS rfl rfl rfl ?_) | refine sM1 hS rfl rfl rfl ?_); clear hS; first | ((fail_if_success guard_hyp g1); intro g1 w hS) | ((fail_if_success guard_hyp g2); intro g2 w hS) | ((fail_if_success guard_hyp g3); intro g3 w hS) | ((fail_if_success guard_hyp g4); intro g4 w hS) | fail) | fail)
                    refine lR ?_
                    refine lM rfl rfl ?_
                    (try simp only [Act.put, nA, nB, nC])
                    refine lM rfl rfl ?_
                    (try simp only [Act.put, nA, nB, nC])
                    refine lP rfl ?_
                    (try simp only [Act.put, nA, nB, nC])
                    (refine ⟨?_⟩; ((first | refine sL1 hS rfl rfl rfl ?_ | refine sL2 hS rfl rfl rfl ?_ | refine sL3 hS rfl rfl ?_ | refine sL4 hS rfl rfl ?_ | refine sL5 hS rfl rfl ?_ | refine sL6 hS rfl rfl ?_ | refine sL7 hS rfl rfl ?_)); refine WL.h ?_)
                    (try simp only [Act.put, nA, nB, nC])
                    refine lM rfl rfl ?_
                    (try simp only [Act.put, nA, nB, nC])
                    first | refine lQ rfl ?_ | refine lM rfl rfl ?_ | fail
                    (try simp only [Act.put, nA, nB, nC])
                    first | refine lQ rfl ?_ | refine lM rfl rfl ?_ | fail
                    (try simp only [Act.put, nA, nB, nC])
                    first | refine lQ rfl ?_ | refine lP rfl ?_ | fail
                    (try simp only [Act.put, nA, nB, nC])
                    first | refine lQ rfl ?_ | (refine ⟨?_⟩; ((first | refine sL1 hS rfl rfl rfl ?_ | refine sL2 hS rfl rfl rfl ?_ | refine sL3 hS rfl rfl ?_ | refine sL4 hS rfl rfl ?_ | refine sL5 hS rfl rfl ?_ | refine sL6 hS rfl rfl ?_ | refine sL7 hS rfl rfl ?_)); refine WL.h ?_) | fail
                    (try simp only [Act.put, nA, nB, nC])
                    first | refine lQ rfl ?_ | refine lP rfl ?_ | fail
                    (try simp only [Act.put, nA, nB, nC])
                    refine lP rfl ?_
                    (try simp only [Act.put, nA, nB, nC])
                    refine lM rfl rfl ?_
                    (try simp only [Act.put, nA, nB, nC])
                    first | refine lQ rfl ?_ | refine lM rfl rfl ?_ | fail
                    (try simp only [Act.put, nA, nB, nC])
                    first | refine lQ rfl ?_ | refine lP rfl ?_ | fail
                    (try simp only [Act.put, nA, nB, nC])
                    first | refine lQ rfl ?_ | refine lM rfl rfl ?_ | fail
                    (try simp only [Act.put, nA, nB, nC])
                    first | refine lQ rfl ?_ | (refine ⟨?_⟩; ((first | refine sL1 hS rfl rfl rfl ?_ | refine sL2 hS rfl rfl rfl ?_ | refine sL3 hS rfl rfl ?_ | refine sL4 hS rfl rfl ?_ | refine sL5 hS rfl rfl ?_ | refine sL6 hS rfl rfl ?_ | refine sL7 hS rfl rfl ?_)); refine WL.h ?_) | fail
                    (try simp only [Act.put, nA, nB, nC])
                    first | refine lQ rfl ?_ | refine lM rfl rfl ?_ | fail
                    (try simp only [Act.put, nA, nB, nC])
                    first | refine lQ rfl ?_ | refine lM rfl rfl ?_ | fail
                    (try simp only [Act.put, nA, nB, nC])
                    first | refine lQ rfl ?_ | (refine ⟨?_⟩; (refine st_call rfl (by kernel_rfl) rfl ?_; go_at_call 97; refine (source_any ⟨A1, c1, A2, c2, A3, c3⟩ p s q _ (HP.out.1.ext hS.toExt) HP.out.2 hsl hlt).mono ?_; rintro e w ⟨rfl, hx1⟩; rw [HSR.out]; replace hS := hS.ext hx1; clear hx1); refine WL.h ?_) | fail
                    (try simp only [Act.put, nA, nB, nC])
                    first | refine lQ rfl ?_ | refine lP rfl ?_ | fail
                    (try simp only [Act.put, nA, nB, nC])
                    first | refine lQ rfl ?_ | refine lM rfl rfl ?_ | fail
                    (try simp only [Act.put, nA, nB, nC])
                    first | refine lQ rfl ?_ | refine lM rfl rfl ?_ | fail
                    (try simp only [Act.put, nA, nB, nC])
                    first | refine lQ rfl ?_ | refine lM rfl rfl ?_ | fail
                    (try simp only [Act.put, nA, nB, nC])
                    first | refine lQ rfl ?_ | (refine ⟨?_⟩; ((first | refine sL1 hS rfl rfl rfl ?_ | refine sL2 hS rfl rfl rfl ?_ | refine sL3 hS rfl rfl ?_ | refine sL4 hS rfl rfl ?_ | refine sL5 hS rfl rfl ?_ | refine sL6 hS rfl rfl ?_ | refine sL7 hS rfl rfl ?_)); refine WL.h ?_) | fail
                    (try simp only [Act.put, nA, nB, nC])
                    first | refine lQ rfl ?_ | refine lM rfl rfl ?_ | fail
                    (try simp only [Act.put, nA, nB, nC])
                    first | refine lQ rfl ?_ | refine lM rfl rfl ?_ | fail
                    (try simp only [Act.put, nA, nB, nC])
                    first | refine lQ rfl ?_ | (refine ⟨?_⟩; (refine st_call rfl (by kernel_rfl) rfl ?_; go_at_call 97; refine (source_any ⟨A1, c1, A2, c2, A3, c3⟩ p s q _ (HP.out.1.ext hS.toExt) HP.out.2 hsl hlt).mono ?_; rintro e w ⟨rfl, hx1⟩; rw [HSR.out]; replace hS := hS.ext hx1; clear hx1); refine WL.h ?_) | fail
                    (try simp only [Act.put, nA, nB, nC])
                    first | refine lQ rfl ?_ | refine lP rfl ?_ | fail
                    (try simp only [Act.put, nA, nB, nC])
                    first | refine lQ rfl ?_ | refine lP rfl ?_ | fail
                    (try simp only [Act.put, nA, nB, nC])
                    refine lP rfl ?_
                    (try simp only [Act.put, nA, nB, nC])
                    refine lZ ?_
                    go_wp2_with (first | (refine oS ?_; refine sS6 hS rfl rfl rfl hs3 ?_; clear hS; intro w hS) | (refine oL ?_; (first | refine sL1 hS rfl rfl rfl ?_ | refine sL2 hS rfl rfl rfl ?_ | refine sL3 hS rfl rfl ?_ | refine sL4 hS rfl rfl ?_ | refine sL5 hS rfl rfl ?_ | refine sL6 hS rfl rfl ?_ | refine sL7 hS rfl rfl ?_)) | (refine oS ?_; ((first | refine sS1 hS rfl rfl rfl ?_ | refine sS2 hS rfl rfl rfl ?_ | refine sS3 hS rfl rfl rfl ?_ | refine sS4 hS rfl rfl rfl ?_ | refine sS5 hS rfl rfl rfl ?_); clear hS; intro w hS)) | (refine oP ?_; ((first | refine sP1 hS rfl rfl rfl ?_ | refine sP2 hS rfl rfl rfl ?_ | refine sP3 hS rfl rfl rfl ?_); clear hS; first | ((fail_if_success guard_hyp L1); intro L1 cl1 w hL1 hM1 hS) | ((fail_if_success guard_hyp L2); intro L2 cl2 w hL2 hM2 hS) | fail)) | ((first | (refine oB ?_; first | refine sB1 hS rfl rfl ?_ | refine sB2 hS rfl rfl ?_) | (refine oC ?_; first | refine sC0 hS rfl ?_ | refine sC1 hS rfl rfl ?_ | refine sC2 hS rfl rfl ?_ | refine sC3 hS rfl rfl rfl ?_ | refine sC4 hS rfl rfl rfl ?_) | refine sM1 hS rfl rfl rfl ?_); clear hS; first | ((fail_if_success guard_hyp g1); intro g1 w hS) | ((fail_if_success guard_hyp g2); intro g2 w hS) | ((fail_if_success guard_hyp g3); intro g3 w hS) | ((fail_if_success guard_hyp g4); intro g4 w hS) | fail) | fail)
                    go_roundw
                    case measure => simp [intOf]; try omega
                    exact ⟨s + 1, l3.set s true, true, by omega, by go_num, rfl, HN, hS⟩
            · have hsl' : ¬ (s : Int) < p.len.length := by omega
              have HN := Lib.hid (show ClM p r l (q + 1) 0 l3 m3 from by have := HM.out; rw [show s = p.len.length by omega] at this; exact this.row)
              go_wp2_with (first | (refine oL ?_; (first | refine sL1 hS rfl rfl rfl ?_ | refine sL2 hS rfl rfl rfl ?_ | refine sL3 hS rfl rfl ?_ | refine sL4 hS rfl rfl ?_ | refine sL5 hS rfl rfl ?_ | refine sL6 hS rfl rfl ?_ | refine sL7 hS rfl rfl ?_)) | (refine oS ?_; ((first | refine sS1 hS rfl rfl rfl ?_ | refine sS2 hS rfl rfl rfl ?_ | refine sS3 hS rfl rfl rfl ?_ | refine sS4 hS rfl rfl rfl ?_ | refine sS5 hS rfl rfl rfl ?_); clear hS; intro w hS)) | (refine oP ?_; ((first | refine sP1 hS rfl rfl rfl ?_ | refine sP2 hS rfl rfl rfl ?_ | refine sP3 hS rfl rfl rfl ?_); clear hS; first | ((fail_if_success guard_hyp L1); intro L1 cl1 w hL1 hM1 hS) | ((fail_if_success guard_hyp L2); intro L2 cl2 w hL2 hM2 hS) | fail)) | ((first | (refine oB ?_; first | refine sB1 hS rfl rfl ?_ | refine sB2 hS rfl rfl ?_) | (refine oC ?_; first | refine sC0 hS rfl ?_ | refine sC1 hS rfl rfl ?_ | refine sC2 hS rfl rfl ?_ | refine sC3 hS rfl rfl rfl ?_ | refine sC4 hS rfl rfl rfl ?_) | refine sM1 hS rfl rfl rfl ?_); clear hS; first | ((fail_if_success guard_hyp g1); intro g1 w hS) | ((fail_if_success guard_hyp g2); intro g2 w hS) | ((fail_if_success guard_hyp g3); intro g3 w hS) | ((fail_if_success guard_hyp g4); intro g4 w hS) | fail) | fail)
              go_roundw
              case measure => simp [intOf]; try omega
              exact ⟨q + 1, l3, m3, by omega, by go_num, rfl, HN, hS⟩
        · have hlt' : ¬ (q : Int) < p.len.length := by omega
          have HE := Lib.hid (show ClM p r l p.len.length 0 l2 m2 by have := HM.out; rwa [show q = p.len.length by omega] at this)
          clear HM
          go_wp2_with (first | (refine oL ?_; (first | refine sL1 hS rfl rfl rfl ?_ | refine sL2 hS rfl rfl rfl ?_ | refine sL3 hS rfl rfl ?_ | refine sL4 hS rfl rfl ?_ | refine sL5 hS rfl rfl ?_ | refine sL6 hS rfl rfl ?_ | refine sL7 hS rfl rfl ?_)) | (refine oS ?_; ((first | refine sS1 hS rfl rfl rfl ?_ | refine sS2 hS rfl rfl rfl ?_ | refine sS3 hS rfl rfl rfl ?_ | refine sS4 hS rfl rfl rfl ?_ | refine sS5 hS rfl rfl rfl ?_); clear hS; intro w hS)) | (refine oP ?_; ((first | refine sP1 hS rfl rfl rfl ?_ | refine sP2 hS rfl rfl rfl ?_ | refine sP3 hS rfl rfl rfl ?_); clear hS; first | ((fail_if_success guard_hyp L1); intro L1 cl1 w hL1 hM1 hS) | ((fail_if_success guard_hyp L2); intro L2 cl2 w hL2 hM2 hS) | fail)) | ((first | (refine oB ?_; first | refine sB1 hS rfl rfl ?_ | refine sB2 hS rfl rfl ?_) | (refine oC ?_; first | refine sC0 hS rfl ?_ | refine sC1 hS rfl rfl ?_ | refine sC2 hS rfl rfl ?_ | refine sC3 hS rfl rfl rfl ?_ | refine sC4 hS rfl rfl rfl ?_) | refine sM1 hS rfl rfl rfl ?_); clear hS; first | ((fail_if_success guard_hyp g1); intro g1 w hS) | ((fail_if_success guard_hyp g2); intro g2 w hS) | ((fail_if_success guard_hyp g3); intro g3 w hS) | ((fail_if_success guard_hyp g4); intro g4 w hS) | fail) | fail)
          go_roundg (2 * falN l2 + bN m2)
          case measure =>
            have h2 := HO.out.2.1
            simp only [bN, if_true] at h2
            cases m2 with
            | true => have := HE.out.t rfl; simp only [bN, if_true]; omega
            | false => rw [(HE.out.f rfl).1]; simp [bN]; omega
          case rel => exact ⟨l2, m2, rfl, Lib.hid ⟨HE.out.c, rfl, fun hm => by subst hm; exact HE.out.fin hr⟩, hS⟩
end Go.Proofs.Ytmjmdncdmmcmaaa
