/- Needed checkpoints: the reference. Conditions: the pattern is good and lies in memory. -/
import Derived.Test.YtombhhhaidmpeaaRef22
import Derived.Test.YtombhhhaidmpeaaNeed
namespace Go.Proofs.Ytombhhhaidmpeaa
open Go.RowKit
set_option linter.unusedVariables false
set_option linter.unusedSimpArgs false
set_option linter.unusedSectionVars false

theorem needB_true {p : Pat} {q r : Nat} {k : Int} (hr : r < p.len.length) (h : nth (lineOf p [r]) q = k) : needB p q k = true := List.any_eq_true.2 ⟨r, List.mem_range.2 hr, by simp [h]⟩
theorem needB_false {p : Pat} {q : Nat} {k : Int} (h : ∀ r, r < p.len.length → ¬ nth (lineOf p [r]) q = k) : needB p q k = false := by
  rw [← Bool.not_eq_true]
  intro hb
  obtain ⟨r, hr, h1⟩ := List.any_eq_true.1 hb
  exact h r (List.mem_range.1 hr) (by simpa using h1)
set_option maxRecDepth 100000 in
set_option maxHeartbeats 6400000 in
theorem rneeded_any {S : Nat → Prop} (v : PV) (p : Pat) (w0 : World) (hp : PatAt S w0 v p) (hg : Good p) :
    Calls Try.prog 16 #[v.val p] w0 (RetRR S w0 (needL p)) := by
  have hS := St.start w0 NoM
  have hn5 := hg.n5
  have hn2 := hg.n2
  have HCKL := Lib.hid hg.ckl
  have hck1 : p.ck.length ≤ p.len.length := by have := HCKL.out; omega
  have hck2 : p.len.length ≤ p.ck.length := by have := HCKL.out; omega
  have HP := Lib.hid (And.intro hp hg)
  have hck := hp.ck
  clear hp hg
  obtain ⟨A1, c1, A2, c2, A3, c3⟩ := v
  simp only [PV.val] at *
  go_enter Try.func16, Try.ntmps16
  go_wp2_with (first | (refine oL ?_; (first | refine sL1 hS rfl rfl rfl ?_ | refine sL2 hS rfl rfl rfl ?_ | refine sL3 hS rfl rfl ?_ | refine sL4 hS rfl rfl ?_ | refine sL5 hS rfl rfl ?_ | refine sL6 hS rfl rfl ?_ | refine sL7 hS rfl rfl ?_)) | (refine oP ?_; ((first | refine sP1 hS rfl rfl rfl ?_ | refine sP2 hS rfl rfl rfl ?_ | refine sP3 hS rfl rfl rfl ?_); clear hS; first | ((fail_if_success guard_hyp L1); intro L1 cl1 w hL1 hM1 hS) | ((fail_if_success guard_hyp L2); intro L2 cl2 w hL2 hM2 hS) | ((fail_if_success guard_hyp L3); intro L3 cl3 w hL3 hM3 hS) | fail)) | ((first | (refine oB ?_; first | refine sB1 hS rfl rfl ?_ | refine sB2 hS rfl rfl ?_) | (refine oC ?_; first | refine sC0 hS rfl ?_ | refine sC1 hS rfl rfl ?_ | refine sC2 hS rfl rfl ?_ | refine sC3 hS rfl rfl rfl ?_ | refine sC4 hS rfl rfl rfl ?_)); clear hS; first | ((fail_if_success guard_hyp g1); intro g1 w hS) | ((fail_if_success guard_hyp g2); intro g2 w hS) | ((fail_if_success guard_hyp g3); intro g3 w hS) | ((fail_if_success guard_hyp g4); intro g4 w hS) | ((fail_if_success guard_hyp g5); intro g5 w hS) | fail) | fail)
  replace hS := (hS.addNil 24 1).frozNil
  go_loopw [3, 4, 5, 6, 7] (fun s3 s4 s5 s6 s7 wr => ∃ (q k : Nat) (L : Option Addr) (vs : List Value) (T1 : Nat → Prop) (u : World), q ≤ p.len.length ∧ capOk q k ∧ s4 = .int .i64 q ∧ s3 = .slice L q k ∧ Hid (Reps (repRow T1 u) 1 vs ((needL p).take q)) ∧ St w0 NoM [froz T1 u, row (.slice L q k) 24 1 q vs, blk g1 [.slice A1 p.len.length c1, .slice A2 p.ck.length c2, .slice A3 p.arcs.length c3] 28] wr) (fun _ s4 _ _ _ _ => p.len.length - (intOf s4).toNat)
  case atStart => exact ⟨0, 0, none, [], _, _, by omega, by simp [capOk], rfl, rfl, Lib.hid rfl, hS⟩
  case round =>
    clear hS
    obtain ⟨q, k, L, vs, T1, u1, hq, hk, rfl, rfl, HV, hS⟩ := hrel
    by_cases hlt : q < p.len.length
    · have hlt' : (q : Int) < p.ck.length := by omega
      have hlt2 : (q : Int) < p.len.length := by omega
      have hq2 : q < p.ck.length := by omega
      obtain ⟨b2, o2, B, cB, rfl, hfc2, hB, hcB, hcB'⟩ := hck.fc hq2
      have hcc := hfc2.c
      have hrl := HP.out.2.rowLen hlt
      have HTK := Lib.hid (needL_take (p := p) hlt)
      have HNR := Lib.hid (show needRow p q = (rowOf p.ck q).filter (needB p q) from rfl)
      clear hfc2
      generalize rowOf p.ck q = l at *
      go_wp2_with (first | (refine oL ?_; (first | refine sL1 hS rfl rfl rfl ?_ | refine sL2 hS rfl rfl rfl ?_ | refine sL3 hS rfl rfl ?_ | refine sL4 hS rfl rfl ?_ | refine sL5 hS rfl rfl ?_ | refine sL6 hS rfl rfl ?_ | refine sL7 hS rfl rfl ?_)) | (refine oP ?_; ((first | refine sP1 hS rfl rfl rfl ?_ | refine sP2 hS rfl rfl rfl ?_ | refine sP3 hS rfl rfl rfl ?_); clear hS; first | ((fail_if_success guard_hyp L1); intro L1 cl1 w hL1 hM1 hS) | ((fail_if_success guard_hyp L2); intro L2 cl2 w hL2 hM2 hS) | ((fail_if_success guard_hyp L3); intro L3 cl3 w hL3 hM3 hS) | fail)) | ((first | (refine oB ?_; first | refine sB1 hS rfl rfl ?_ | refine sB2 hS rfl rfl ?_) | (refine oC ?_; first | refine sC0 hS rfl ?_ | refine sC1 hS rfl rfl ?_ | refine sC2 hS rfl rfl ?_ | refine sC3 hS rfl rfl rfl ?_ | refine sC4 hS rfl rfl rfl ?_)); clear hS; first | ((fail_if_success guard_hyp g1); intro g1 w hS) | ((fail_if_success guard_hyp g2); intro g2 w hS) | ((fail_if_success guard_hyp g3); intro g3 w hS) | ((fail_if_success guard_hyp g4); intro g4 w hS) | ((fail_if_success guard_hyp g5); intro g5 w hS) | fail) | fail)
      replace hS := hS.addNil 3 1
      go_loopw [5, 6, 7] (fun s5 s6 s7 wr => ∃ (j c : Nat) (Ll : Option Addr) (ys : List Int), j ≤ l.length ∧ ys.length ≤ j ∧ capOk ys.length c ∧ s6 = .int .i64 j ∧ s5 = .slice Ll ys.length c ∧ Hid (ys = (l.take j).filter (needB p q)) ∧ St w0 NoM [irow 3 Ll c ys, froz T1 u1, row (.slice L q k) 24 1 q vs, blk g1 [.slice A1 p.len.length c1, .slice (some ⟨b2, o2, none⟩) p.ck.length c2, .slice A3 p.arcs.length c3] 28] wr) (fun _ s6 _ _ => l.length - (intOf s6).toNat)
      case atStart => exact ⟨0, 0, none, [], by omega, by simp, by simp [capOk], rfl, rfl, Lib.hid (by simp), hS⟩
      case round =>
        clear hS
        obtain ⟨j, c, Ll, ys, hj, hyl, hcy, rfl, rfl, HY, hS⟩ := hrel
        by_cases hjl : j < l.length
        · have hjl' : (j : Int) < l.length := by omega
          obtain ⟨b4, o4, rfl, hf4⟩ := hB.fc hjl
          have hc4 := hf4.c
          have HF := Lib.hid (needRow_take (p := p) (q := q) hjl)
          clear hf4
          generalize nth l j = y at *
          go_wp2_with (first | (refine oL ?_; (first | refine sL1 hS rfl rfl rfl ?_ | refine sL2 hS rfl rfl rfl ?_ | refine sL3 hS rfl rfl ?_ | refine sL4 hS rfl rfl ?_ | refine sL5 hS rfl rfl ?_ | refine sL6 hS rfl rfl ?_ | refine sL7 hS rfl rfl ?_)) | (refine oP ?_; ((first | refine sP1 hS rfl rfl rfl ?_ | refine sP2 hS rfl rfl rfl ?_ | refine sP3 hS rfl rfl rfl ?_); clear hS; first | ((fail_if_success guard_hyp L1); intro L1 cl1 w hL1 hM1 hS) | ((fail_if_success guard_hyp L2); intro L2 cl2 w hL2 hM2 hS) | ((fail_if_success guard_hyp L3); intro L3 cl3 w hL3 hM3 hS) | fail)) | ((first | (refine oB ?_; first | refine sB1 hS rfl rfl ?_ | refine sB2 hS rfl rfl ?_) | (refine oC ?_; first | refine sC0 hS rfl ?_ | refine sC1 hS rfl rfl ?_ | refine sC2 hS rfl rfl ?_ | refine sC3 hS rfl rfl rfl ?_ | refine sC4 hS rfl rfl rfl ?_)); clear hS; first | ((fail_if_success guard_hyp g1); intro g1 w hS) | ((fail_if_success guard_hyp g2); intro g2 w hS) | ((fail_if_success guard_hyp g3); intro g3 w hS) | ((fail_if_success guard_hyp g4); intro g4 w hS) | ((fail_if_success guard_hyp g5); intro g5 w hS) | fail) | fail)
          go_loopw [5, 7] (fun s5 s7 wr => ∃ (r : Nat), r ≤ p.len.length ∧ s7 = .int .i64 r ∧ s5 = .slice Ll ys.length c ∧ Hid (∀ r', r' < r → ¬ nth (lineOf p [r']) q = y) ∧ St w0 NoM [irow 3 Ll c ys, froz T1 u1, row (.slice L q k) 24 1 q vs, blk g1 [.slice A1 p.len.length c1, .slice (some ⟨b2, o2, none⟩) p.ck.length c2, .slice A3 p.arcs.length c3] 28] wr) (fun _ s7 _ => p.len.length - (intOf s7).toNat)
          case atStart => exact ⟨0, by omega, rfl, rfl, Lib.hid (by omega), hS⟩
          case round =>
            clear hS
            obtain ⟨r, hr, rfl, rfl, HN, hS⟩ := hrel
            by_cases hrl2 : r < p.len.length
            · have hrl' : (r : Int) < p.len.length := by omega
              have HLL := Lib.hid (lineOf_len HP.out.2 [r])
              by_cases hey : nth (lineOf p [r]) q = y
              · have de : (nth (lineOf p [r]) q == y) = true := by simp [hey]
                have HNB := Lib.hid (needB_true hrl2 hey)
                clear hey
                go_wp2_with (first | (refine oL ?_; (first | refine sL1 hS rfl rfl rfl ?_ | refine sL2 hS rfl rfl rfl ?_ | refine sL3 hS rfl rfl ?_ | refine sL4 hS rfl rfl ?_ | refine sL5 hS rfl rfl ?_ | refine sL6 hS rfl rfl ?_ | refine sL7 hS rfl rfl ?_)) | (refine oP ?_; ((first | refine sP1 hS rfl rfl rfl ?_ | refine sP2 hS rfl rfl rfl ?_ | refine sP3 hS rfl rfl rfl ?_); clear hS; first | ((fail_if_success guard_hyp L1); intro L1 cl1 w hL1 hM1 hS) | ((fail_if_success guard_hyp L2); intro L2 cl2 w hL2 hM2 hS) | ((fail_if_success guard_hyp L3); intro L3 cl3 w hL3 hM3 hS) | fail)) | ((first | (refine oB ?_; first | refine sB1 hS rfl rfl ?_ | refine sB2 hS rfl rfl ?_) | (refine oC ?_; first | refine sC0 hS rfl ?_ | refine sC1 hS rfl rfl ?_ | refine sC2 hS rfl rfl ?_ | refine sC3 hS rfl rfl rfl ?_ | refine sC4 hS rfl rfl rfl ?_)); clear hS; first | ((fail_if_success guard_hyp g1); intro g1 w hS) | ((fail_if_success guard_hyp g2); intro g2 w hS) | ((fail_if_success guard_hyp g3); intro g3 w hS) | ((fail_if_success guard_hyp g4); intro g4 w hS) | ((fail_if_success guard_hyp g5); intro g5 w hS) | fail) | fail)
                refine dr_start0 []  hS (by kernel_rfl) rfl ?_; clear hS; intro w hS
                first | refine dL1 hS 0 rfl rfl rfl rfl ?_ | refine dL2 hS 0 rfl rfl rfl rfl ?_ | refine dL3 hS 0 rfl rfl rfl ?_ | refine dL4 hS 0 rfl rfl rfl ?_ | refine dL5 hS 0 rfl rfl rfl ?_ | refine dL6 hS 0 rfl rfl rfl ?_ | refine dL7 hS 0 rfl rfl rfl ?_
                (try simp only [Act.put, nA, nB, nC])
                refine dM hS 1 rfl rfl rfl ?_
                (try simp only [Act.put, nA, nB, nC])
                refine dM hS 4 rfl rfl rfl ?_
                (try simp only [Act.put, nA, nB, nC])
                refine dP hS 7 rfl rfl ?_
                (try simp only [Act.put, nA, nB, nC])
                first | refine dL1 hS 8 rfl rfl rfl rfl ?_ | refine dL2 hS 8 rfl rfl rfl rfl ?_ | refine dL3 hS 8 rfl rfl rfl ?_ | refine dL4 hS 8 rfl rfl rfl ?_ | refine dL5 hS 8 rfl rfl rfl ?_ | refine dL6 hS 8 rfl rfl rfl ?_ | refine dL7 hS 8 rfl rfl rfl ?_
                (try simp only [Act.put, nA, nB, nC])
                refine dM hS 9 rfl rfl rfl ?_
                (try simp only [Act.put, nA, nB, nC])
                refine dP hS 10 rfl rfl ?_
                (try simp only [Act.put, nA, nB, nC])
                first | refine dL1 hS 11 rfl rfl rfl rfl ?_ | refine dL2 hS 11 rfl rfl rfl rfl ?_ | refine dL3 hS 11 rfl rfl rfl ?_ | refine dL4 hS 11 rfl rfl rfl ?_ | refine dL5 hS 11 rfl rfl rfl ?_ | refine dL6 hS 11 rfl rfl rfl ?_ | refine dL7 hS 11 rfl rfl rfl ?_
                (try simp only [Act.put, nA, nB, nC])
                refine dM hS 12 rfl rfl rfl ?_
                (try simp only [Act.put, nA, nB, nC])
                refine dP hS 13 rfl rfl ?_
                (try simp only [Act.put, nA, nB, nC])
                first | refine dL1 hS 14 rfl rfl rfl rfl ?_ | refine dL2 hS 14 rfl rfl rfl rfl ?_ | refine dL3 hS 14 rfl rfl rfl ?_ | refine dL4 hS 14 rfl rfl rfl ?_ | refine dL5 hS 14 rfl rfl rfl ?_ | refine dL6 hS 14 rfl rfl rfl ?_ | refine dL7 hS 14 rfl rfl rfl ?_
                (try simp only [Act.put, nA, nB, nC])
                refine dr_one 2 (by kernel_rfl) rfl ?_
                ((first | refine sC0 hS rfl ?_ | refine sC1 hS rfl rfl ?_ | refine sC2 hS rfl rfl ?_ | refine sC3 hS rfl rfl rfl ?_ | refine sC4 hS rfl rfl rfl ?_); clear hS; first | ((fail_if_success guard_hyp g1); intro g1 w hS) | ((fail_if_success guard_hyp g2); intro g2 w hS) | ((fail_if_success guard_hyp g3); intro g3 w hS) | ((fail_if_success guard_hyp g4); intro g4 w hS) | ((fail_if_success guard_hyp g5); intro g5 w hS) | fail)
                (try simp only [Act.put, nA, nB, nC])
                refine dr_end hS ?_
                refine dr_one 3 (by kernel_rfl) rfl ?_
                (refine st_call rfl (by kernel_rfl) rfl ?_; go_at_call 45; refine (rfailure_any (T := All) ⟨A1, c1, some ⟨b2, o2, none⟩, c2, A3, c3⟩ _ _ 1 p [r] _ (HP.out.1.ext hS.toExt) HP.out.2 (hS.riB g2 [(r : Int)] rfl) rfl (by omega)).mono ?_; rintro e w2 ⟨LG, cG, rfl, hcG, hcG', hri, hx1⟩; replace hS := hS.frozNew hx1; replace hri := hri.into (Into.subLt (S' := fun k => w.heap.size ≤ k ∧ k < w2.heap.size) w2 (fun k hk hl => ⟨hk.resolve_left id, hl⟩)); obtain ⟨bL, ofL, rfl, hfL⟩ := hri.fc (k := q) (by rw [HLL.out]; exact hlt))
                (try simp only [Act.put, nA, nB, nC])
                refine dr_end hS ?_
                refine dP hS 5 rfl rfl ?_
                (try simp only [Act.put, nA, nB, nC])
                refine dr_one 6 (by kernel_rfl) rfl ?_
                (first | refine sL1 hS rfl rfl rfl ?_ | refine sL2 hS rfl rfl rfl ?_ | refine sL3 hS rfl rfl ?_ | refine sL4 hS rfl rfl ?_ | refine sL5 hS rfl rfl ?_ | refine sL6 hS rfl rfl ?_ | refine sL7 hS rfl rfl ?_)
                (try simp only [Act.put, nA, nB, nC])
                refine dr_end hS ?_
                refine dP hS 15 rfl rfl ?_
                (try simp only [Act.put, nA, nB, nC])
                refine dr_done (by kernel_rfl) ?_
                go_wp2_with (first | (refine oL ?_; (first | refine sL1 hS rfl rfl rfl ?_ | refine sL2 hS rfl rfl rfl ?_ | refine sL3 hS rfl rfl ?_ | refine sL4 hS rfl rfl ?_ | refine sL5 hS rfl rfl ?_ | refine sL6 hS rfl rfl ?_ | refine sL7 hS rfl rfl ?_)) | (refine oP ?_; ((first | refine sP1 hS rfl rfl rfl ?_ | refine sP2 hS rfl rfl rfl ?_ | refine sP3 hS rfl rfl rfl ?_); clear hS; first | ((fail_if_success guard_hyp L1); intro L1 cl1 w hL1 hM1 hS) | ((fail_if_success guard_hyp L2); intro L2 cl2 w hL2 hM2 hS) | ((fail_if_success guard_hyp L3); intro L3 cl3 w hL3 hM3 hS) | fail)) | ((first | (refine oB ?_; first | refine sB1 hS rfl rfl ?_ | refine sB2 hS rfl rfl ?_) | (refine oC ?_; first | refine sC0 hS rfl ?_ | refine sC1 hS rfl rfl ?_ | refine sC2 hS rfl rfl ?_ | refine sC3 hS rfl rfl rfl ?_ | refine sC4 hS rfl rfl rfl ?_)); clear hS; first | ((fail_if_success guard_hyp g1); intro g1 w hS) | ((fail_if_success guard_hyp g2); intro g2 w hS) | ((fail_if_success guard_hyp g3); intro g3 w hS) | ((fail_if_success guard_hyp g4); intro g4 w hS) | ((fail_if_success guard_hyp g5); intro g5 w hS) | fail) | fail)
                rw [HNB.out, if_pos rfl] at HF
                go_roundw
                case measure => simp [intOf]; omega
                exact ⟨j + 1, cl1, L1, ys ++ [y], by omega, by simp; omega, ⟨by simpa using hL1, hM1⟩, by go_num, by first | rfl | simp, Lib.hid (by rw [HF.out, HY.out]), hS.re⟩
              · have de : (nth (lineOf p [r]) q == y) = false := by simp [hey]
                have HN2 := Lib.hid (show ∀ r', r' < r + 1 → ¬ nth (lineOf p [r']) q = y from fun r' h => by
                  by_cases e : r' = r
                  · rw [e]; exact hey
                  · exact HN.out r' (by omega))
                clear hey
                go_wp2_with (first | (refine oL ?_; (first | refine sL1 hS rfl rfl rfl ?_ | refine sL2 hS rfl rfl rfl ?_ | refine sL3 hS rfl rfl ?_ | refine sL4 hS rfl rfl ?_ | refine sL5 hS rfl rfl ?_ | refine sL6 hS rfl rfl ?_ | refine sL7 hS rfl rfl ?_)) | (refine oP ?_; ((first | refine sP1 hS rfl rfl rfl ?_ | refine sP2 hS rfl rfl rfl ?_ | refine sP3 hS rfl rfl rfl ?_); clear hS; first | ((fail_if_success guard_hyp L1); intro L1 cl1 w hL1 hM1 hS) | ((fail_if_success guard_hyp L2); intro L2 cl2 w hL2 hM2 hS) | ((fail_if_success guard_hyp L3); intro L3 cl3 w hL3 hM3 hS) | fail)) | ((first | (refine oB ?_; first | refine sB1 hS rfl rfl ?_ | refine sB2 hS rfl rfl ?_) | (refine oC ?_; first | refine sC0 hS rfl ?_ | refine sC1 hS rfl rfl ?_ | refine sC2 hS rfl rfl ?_ | refine sC3 hS rfl rfl rfl ?_ | refine sC4 hS rfl rfl rfl ?_)); clear hS; first | ((fail_if_success guard_hyp g1); intro g1 w hS) | ((fail_if_success guard_hyp g2); intro g2 w hS) | ((fail_if_success guard_hyp g3); intro g3 w hS) | ((fail_if_success guard_hyp g4); intro g4 w hS) | ((fail_if_success guard_hyp g5); intro g5 w hS) | fail) | fail)
                refine dr_start0 []  hS (by kernel_rfl) rfl ?_; clear hS; intro w hS
                first | refine dL1 hS 0 rfl rfl rfl rfl ?_ | refine dL2 hS 0 rfl rfl rfl rfl ?_ | refine dL3 hS 0 rfl rfl rfl ?_ | refine dL4 hS 0 rfl rfl rfl ?_ | refine dL5 hS 0 rfl rfl rfl ?_ | refine dL6 hS 0 rfl rfl rfl ?_ | refine dL7 hS 0 rfl rfl rfl ?_
                (try simp only [Act.put, nA, nB, nC])
                refine dM hS 1 rfl rfl rfl ?_
                (try simp only [Act.put, nA, nB, nC])
                refine dM hS 4 rfl rfl rfl ?_
                (try simp only [Act.put, nA, nB, nC])
                refine dP hS 7 rfl rfl ?_
                (try simp only [Act.put, nA, nB, nC])
                first | refine dL1 hS 8 rfl rfl rfl rfl ?_ | refine dL2 hS 8 rfl rfl rfl rfl ?_ | refine dL3 hS 8 rfl rfl rfl ?_ | refine dL4 hS 8 rfl rfl rfl ?_ | refine dL5 hS 8 rfl rfl rfl ?_ | refine dL6 hS 8 rfl rfl rfl ?_ | refine dL7 hS 8 rfl rfl rfl ?_
                (try simp only [Act.put, nA, nB, nC])
                refine dM hS 9 rfl rfl rfl ?_
                (try simp only [Act.put, nA, nB, nC])
                refine dP hS 10 rfl rfl ?_
                (try simp only [Act.put, nA, nB, nC])
                first | refine dL1 hS 11 rfl rfl rfl rfl ?_ | refine dL2 hS 11 rfl rfl rfl rfl ?_ | refine dL3 hS 11 rfl rfl rfl ?_ | refine dL4 hS 11 rfl rfl rfl ?_ | refine dL5 hS 11 rfl rfl rfl ?_ | refine dL6 hS 11 rfl rfl rfl ?_ | refine dL7 hS 11 rfl rfl rfl ?_
                (try simp only [Act.put, nA, nB, nC])
                refine dM hS 12 rfl rfl rfl ?_
                (try simp only [Act.put, nA, nB, nC])
                refine dP hS 13 rfl rfl ?_
                (try simp only [Act.put, nA, nB, nC])
                first | refine dL1 hS 14 rfl rfl rfl rfl ?_ | refine dL2 hS 14 rfl rfl rfl rfl ?_ | refine dL3 hS 14 rfl rfl rfl ?_ | refine dL4 hS 14 rfl rfl rfl ?_ | refine dL5 hS 14 rfl rfl rfl ?_ | refine dL6 hS 14 rfl rfl rfl ?_ | refine dL7 hS 14 rfl rfl rfl ?_
                (try simp only [Act.put, nA, nB, nC])
                refine dr_one 2 (by kernel_rfl) rfl ?_
                ((first | refine sC0 hS rfl ?_ | refine sC1 hS rfl rfl ?_ | refine sC2 hS rfl rfl ?_ | refine sC3 hS rfl rfl rfl ?_ | refine sC4 hS rfl rfl rfl ?_); clear hS; first | ((fail_if_success guard_hyp g1); intro g1 w hS) | ((fail_if_success guard_hyp g2); intro g2 w hS) | ((fail_if_success guard_hyp g3); intro g3 w hS) | ((fail_if_success guard_hyp g4); intro g4 w hS) | ((fail_if_success guard_hyp g5); intro g5 w hS) | fail)
                (try simp only [Act.put, nA, nB, nC])
                refine dr_end hS ?_
                refine dr_one 3 (by kernel_rfl) rfl ?_
                (refine st_call rfl (by kernel_rfl) rfl ?_; go_at_call 45; refine (rfailure_any (T := All) ⟨A1, c1, some ⟨b2, o2, none⟩, c2, A3, c3⟩ _ _ 1 p [r] _ (HP.out.1.ext hS.toExt) HP.out.2 (hS.riB g2 [(r : Int)] rfl) rfl (by omega)).mono ?_; rintro e w2 ⟨LG, cG, rfl, hcG, hcG', hri, hx1⟩; replace hS := hS.frozNew hx1; replace hri := hri.into (Into.subLt (S' := fun k => w.heap.size ≤ k ∧ k < w2.heap.size) w2 (fun k hk hl => ⟨hk.resolve_left id, hl⟩)); obtain ⟨bL, ofL, rfl, hfL⟩ := hri.fc (k := q) (by rw [HLL.out]; exact hlt))
                (try simp only [Act.put, nA, nB, nC])
                refine dr_end hS ?_
                refine dP hS 5 rfl rfl ?_
                (try simp only [Act.put, nA, nB, nC])
                refine dr_one 6 (by kernel_rfl) rfl ?_
                (first | refine sL1 hS rfl rfl rfl ?_ | refine sL2 hS rfl rfl rfl ?_ | refine sL3 hS rfl rfl ?_ | refine sL4 hS rfl rfl ?_ | refine sL5 hS rfl rfl ?_ | refine sL6 hS rfl rfl ?_ | refine sL7 hS rfl rfl ?_)
                (try simp only [Act.put, nA, nB, nC])
                refine dr_end hS ?_
                refine dP hS 15 rfl rfl ?_
                (try simp only [Act.put, nA, nB, nC])
                refine dr_done (by kernel_rfl) ?_
                go_wp2_with (first | (refine oL ?_; (first | refine sL1 hS rfl rfl rfl ?_ | refine sL2 hS rfl rfl rfl ?_ | refine sL3 hS rfl rfl ?_ | refine sL4 hS rfl rfl ?_ | refine sL5 hS rfl rfl ?_ | refine sL6 hS rfl rfl ?_ | refine sL7 hS rfl rfl ?_)) | (refine oP ?_; ((first | refine sP1 hS rfl rfl rfl ?_ | refine sP2 hS rfl rfl rfl ?_ | refine sP3 hS rfl rfl rfl ?_); clear hS; first | ((fail_if_success guard_hyp L1); intro L1 cl1 w hL1 hM1 hS) | ((fail_if_success guard_hyp L2); intro L2 cl2 w hL2 hM2 hS) | ((fail_if_success guard_hyp L3); intro L3 cl3 w hL3 hM3 hS) | fail)) | ((first | (refine oB ?_; first | refine sB1 hS rfl rfl ?_ | refine sB2 hS rfl rfl ?_) | (refine oC ?_; first | refine sC0 hS rfl ?_ | refine sC1 hS rfl rfl ?_ | refine sC2 hS rfl rfl ?_ | refine sC3 hS rfl rfl rfl ?_ | refine sC4 hS rfl rfl rfl ?_)); clear hS; first | ((fail_if_success guard_hyp g1); intro g1 w hS) | ((fail_if_success guard_hyp g2); intro g2 w hS) | ((fail_if_success guard_hyp g3); intro g3 w hS) | ((fail_if_success guard_hyp g4); intro g4 w hS) | ((fail_if_success guard_hyp g5); intro g5 w hS) | fail) | fail)
                go_roundw
                case measure => simp [intOf]; omega
                exact ⟨r + 1, by omega, by go_num, rfl, HN2, hS.re⟩
            · have hrl' : ¬ (r : Int) < p.len.length := by omega
              have HNB := Lib.hid (needB_false (p := p) (q := q) (k := y) (fun r' hr' => HN.out r' (by omega)))
              go_wp2_with (first | (refine oL ?_; (first | refine sL1 hS rfl rfl rfl ?_ | refine sL2 hS rfl rfl rfl ?_ | refine sL3 hS rfl rfl ?_ | refine sL4 hS rfl rfl ?_ | refine sL5 hS rfl rfl ?_ | refine sL6 hS rfl rfl ?_ | refine sL7 hS rfl rfl ?_)) | (refine oP ?_; ((first | refine sP1 hS rfl rfl rfl ?_ | refine sP2 hS rfl rfl rfl ?_ | refine sP3 hS rfl rfl rfl ?_); clear hS; first | ((fail_if_success guard_hyp L1); intro L1 cl1 w hL1 hM1 hS) | ((fail_if_success guard_hyp L2); intro L2 cl2 w hL2 hM2 hS) | ((fail_if_success guard_hyp L3); intro L3 cl3 w hL3 hM3 hS) | fail)) | ((first | (refine oB ?_; first | refine sB1 hS rfl rfl ?_ | refine sB2 hS rfl rfl ?_) | (refine oC ?_; first | refine sC0 hS rfl ?_ | refine sC1 hS rfl rfl ?_ | refine sC2 hS rfl rfl ?_ | refine sC3 hS rfl rfl rfl ?_ | refine sC4 hS rfl rfl rfl ?_)); clear hS; first | ((fail_if_success guard_hyp g1); intro g1 w hS) | ((fail_if_success guard_hyp g2); intro g2 w hS) | ((fail_if_success guard_hyp g3); intro g3 w hS) | ((fail_if_success guard_hyp g4); intro g4 w hS) | ((fail_if_success guard_hyp g5); intro g5 w hS) | fail) | fail)
              rw [HNB.out, if_neg (by simp), List.append_nil] at HF
              go_roundw
              case measure => simp [intOf]; omega
              exact ⟨j + 1, c, Ll, ys, by omega, by omega, hcy, by go_num, rfl, Lib.hid (by rw [HF.out, HY.out]), hS.re⟩
        · have hjl' : ¬ (j : Int) < l.length := by omega
          have HE2 := Lib.hid (show ys = needRow p q by
            have h1 := HY.out
            rw [List.take_of_length_le (by omega)] at h1
            rw [h1, HNR.out])
          go_wp2_with (first | (refine oP ?_; refine st_app hS rfl rfl rfl rfl (by simp [Value.oneCell']) (by omega) ?_; clear hS; intro L9 cl9 w hL9 hM9 hS) | (refine oL ?_; (first | refine sL1 hS rfl rfl rfl ?_ | refine sL2 hS rfl rfl rfl ?_ | refine sL3 hS rfl rfl ?_ | refine sL4 hS rfl rfl ?_ | refine sL5 hS rfl rfl ?_ | refine sL6 hS rfl rfl ?_ | refine sL7 hS rfl rfl ?_)) | (refine oP ?_; ((first | refine sP1 hS rfl rfl rfl ?_ | refine sP2 hS rfl rfl rfl ?_ | refine sP3 hS rfl rfl rfl ?_); clear hS; first | ((fail_if_success guard_hyp L1); intro L1 cl1 w hL1 hM1 hS) | ((fail_if_success guard_hyp L2); intro L2 cl2 w hL2 hM2 hS) | ((fail_if_success guard_hyp L3); intro L3 cl3 w hL3 hM3 hS) | fail)) | ((first | (refine oB ?_; first | refine sB1 hS rfl rfl ?_ | refine sB2 hS rfl rfl ?_) | (refine oC ?_; first | refine sC0 hS rfl ?_ | refine sC1 hS rfl rfl ?_ | refine sC2 hS rfl rfl ?_ | refine sC3 hS rfl rfl rfl ?_ | refine sC4 hS rfl rfl rfl ?_)); clear hS; first | ((fail_if_success guard_hyp g1); intro g1 w hS) | ((fail_if_success guard_hyp g2); intro g2 w hS) | ((fail_if_success guard_hyp g3); intro g3 w hS) | ((fail_if_success guard_hyp g4); intro g4 w hS) | ((fail_if_success guard_hyp g5); intro g5 w hS) | fail) | fail)
          obtain ⟨T2, hS2, hi2, hr2⟩ := St.rowInN hS HV.out rfl hcy
          go_roundw
          case measure => simp [intOf]; omega
          exact ⟨q + 1, cl9, L9, _, T2, _, by omega, ⟨hL9, hM9⟩, by go_num, by first | rfl | simp, Lib.hid (by rw [HTK.out, ← HE2.out]; exact hr2), hS2.re⟩
    · have HE := Lib.hid (show q = p.len.length by omega)
      have hlt' : ¬ (q : Int) < p.len.length := by omega
      go_wp2_with (first | (refine oL ?_; (first | refine sL1 hS rfl rfl rfl ?_ | refine sL2 hS rfl rfl rfl ?_ | refine sL3 hS rfl rfl ?_ | refine sL4 hS rfl rfl ?_ | refine sL5 hS rfl rfl ?_ | refine sL6 hS rfl rfl ?_ | refine sL7 hS rfl rfl ?_)) | (refine oP ?_; ((first | refine sP1 hS rfl rfl rfl ?_ | refine sP2 hS rfl rfl rfl ?_ | refine sP3 hS rfl rfl rfl ?_); clear hS; first | ((fail_if_success guard_hyp L1); intro L1 cl1 w hL1 hM1 hS) | ((fail_if_success guard_hyp L2); intro L2 cl2 w hL2 hM2 hS) | ((fail_if_success guard_hyp L3); intro L3 cl3 w hL3 hM3 hS) | fail)) | ((first | (refine oB ?_; first | refine sB1 hS rfl rfl ?_ | refine sB2 hS rfl rfl ?_) | (refine oC ?_; first | refine sC0 hS rfl ?_ | refine sC1 hS rfl rfl ?_ | refine sC2 hS rfl rfl ?_ | refine sC3 hS rfl rfl rfl ?_ | refine sC4 hS rfl rfl rfl ?_)); clear hS; first | ((fail_if_success guard_hyp g1); intro g1 w hS) | ((fail_if_success guard_hyp g2); intro g2 w hS) | ((fail_if_success guard_hyp g3); intro g3 w hS) | ((fail_if_success guard_hyp g4); intro g4 w hS) | ((fail_if_success guard_hyp g5); intro g5 w hS) | fail) | fail)
      go_ret
      have hr := HV.out
      rw [List.take_of_length_le (by rw [needL_len]; omega)] at hr
      have hrr : RR (Orn S w0) wr L (needL p) := ⟨vs, hS.rvNew, hr.mono (repRow.into hS.frozOrn)⟩
      exact ⟨L, k, by rw [needL_len, ← HE.out]; rfl, by rw [needL_len]; have := hk.1; omega, hk.2, hrr, hS.toExt⟩
end Go.Proofs.Ytombhhhaidmpeaa
