/- rollbacknetref17.Before. Conditions: the pattern is good and lies in memory, the points are points of it. -/
import Derived.Test.YtkflmichekpfbaaClk17
import Derived.Test.YtkflmichekpfbaaBefB
namespace Go.Proofs.Ytkflmichekpfbaa
open Go.RowKit
set_option linter.unusedVariables false
set_option linter.unusedSimpArgs false
set_option linter.unusedSectionVars false

theorem bef_own {p : Pat} (hg : Good p) {q : Nat} {a b : Int} (ha : PtOk p (q, a)) (hb : PtOk p (q, b)) (hne : a ≠ b) : decide (a < b) = true ↔ (q, a) ≠ (q, b) ∧ Reach p (q, b) (q, a) := by
  rw [decide_eq_true_eq]
  constructor
  · intro h
    exact ⟨fun e => hne (by injection e), Reach.refl.downTo ha.2.1 (by omega)⟩
  · rintro ⟨_, h⟩
    by_cases hlt : a < b
    · exact hlt
    · have h2 : Reach p (q, a) (q, b) := Reach.refl.downTo hb.2.1 (by omega)
      have := h.anti hg hb h2
      injection this with _ e
      exact absurd e.symm hne
theorem bef_zero {p : Pat} (hg : Good p) {qa qb : Nat} {kb : Int} (ha : PtOk p (qa, 0)) (hb : PtOk p (qb, kb)) (hne : qa ≠ qb) {c : List Int} (hc : IsClk p qb kb c) : (∃ r ∈ p.arcs, r.fr = qa ∧ 0 < r.at_ ∧ r.at_ ≤ nth c r.to) ↔ (qa, (0 : Int)) ≠ (qb, kb) ∧ Reach p (qb, kb) (qa, 0) := by
  rw [reach_zero hg hb (c := c) hc ha.1 hne]
  exact ⟨fun h => ⟨fun e => hne (by injection e), h⟩, fun h => h.2⟩
theorem take_none {az : List Arc} {P : Arc → Prop} {i : Nat} (hi : i < az.length) (h : ∀ r ∈ az.take i, ¬ P r) (h' : ¬ P az[i]) : ∀ r ∈ az.take (i + 1), ¬ P r := by
  intro r hr
  rw [List.take_succ_eq_append_getElem hi] at hr
  rcases List.mem_append.1 hr with hr | hr
  · exact h r hr
  · rw [List.mem_singleton.1 hr]; exact h'
def SentP (c : List Int) (qa : Nat) (r : Arc) : Prop := r.fr = qa ∧ 0 < r.at_ ∧ r.at_ ≤ nth c r.to
set_option maxRecDepth 100000 in
set_option maxHeartbeats 6400000 in
theorem rbefore_any {S : Nat → Prop} (v : PV) (p : Pat) (qa qb : Nat) (ka kb : Int) (w0 : World) (hp : PatAt S w0 v p) (hg : Good p) (ha : PtOk p (qa, ka)) (hb : PtOk p (qb, kb)) :
    Calls Try.prog 23 #[v.val p, .agg #[.int .i64 (qa : Int), .int .i64 ka], .agg #[.int .i64 (qb : Int), .int .i64 kb]] w0 (BefRes p (qa, ka) (qb, kb) w0) := by
  have hS := St.start w0 NoM
  have hn5 := hg.n5
  have hfew := hg.few
  have HP := Lib.hid (And.intro hp (And.intro hg (And.intro ha hb)))
  have hqa := ha.1
  have hqb := hb.1
  have hka := ha.2.1
  simp only at hqa hqb hka
  clear hp hg ha hb
  obtain ⟨A1, c1, A2, c2, A3, c3⟩ := v
  simp only [PV.val] at *
  by_cases hq : qa = qb
  · subst hq
    by_cases hk : ka = kb
    · subst hk
      go_enter Try.func23, Try.ntmps23
      go_wp2_with (first | (refine oL ?_; (first | refine sL1 hS rfl rfl rfl ?_ | refine sL2 hS rfl rfl rfl ?_ | refine sL3 hS rfl rfl ?_ | refine sL4 hS rfl rfl ?_ | refine sL5 hS rfl rfl ?_ | refine sL6 hS rfl rfl ?_ | refine sL7 hS rfl rfl ?_)) | (refine oS ?_; ((first | refine sS1 hS rfl rfl rfl ?_ | refine sS2 hS rfl rfl rfl ?_ | refine sS3 hS rfl rfl rfl ?_ | refine sS4 hS rfl rfl rfl ?_ | refine sS5 hS rfl rfl rfl ?_); clear hS; intro w hS)) | ((first | (refine oB ?_; first | refine sB1 hS rfl rfl ?_ | refine sB2 hS rfl rfl ?_) | refine sN1 hS rfl ?_); clear hS; first | ((fail_if_success guard_hyp g1); intro g1 w hS) | ((fail_if_success guard_hyp g2); intro g2 w hS) | ((fail_if_success guard_hyp g3); intro g3 w hS) | ((fail_if_success guard_hyp g4); intro g4 w hS) | ((fail_if_success guard_hyp g5); intro g5 w hS) | fail) | fail)
      go_ret
      exact ⟨false, ⟨fun h => (by cases h), fun h => absurd rfl h.1⟩, rfl, hS.toExt⟩
    · have HK := Lib.hid hk
      have e2 : (ka == kb) = false := by simp [hk]
      clear hk
      go_enter Try.func23, Try.ntmps23
      go_wp2_with (first | (refine oL ?_; (first | refine sL1 hS rfl rfl rfl ?_ | refine sL2 hS rfl rfl rfl ?_ | refine sL3 hS rfl rfl ?_ | refine sL4 hS rfl rfl ?_ | refine sL5 hS rfl rfl ?_ | refine sL6 hS rfl rfl ?_ | refine sL7 hS rfl rfl ?_)) | (refine oS ?_; ((first | refine sS1 hS rfl rfl rfl ?_ | refine sS2 hS rfl rfl rfl ?_ | refine sS3 hS rfl rfl rfl ?_ | refine sS4 hS rfl rfl rfl ?_ | refine sS5 hS rfl rfl rfl ?_); clear hS; intro w hS)) | ((first | (refine oB ?_; first | refine sB1 hS rfl rfl ?_ | refine sB2 hS rfl rfl ?_) | refine sN1 hS rfl ?_); clear hS; first | ((fail_if_success guard_hyp g1); intro g1 w hS) | ((fail_if_success guard_hyp g2); intro g2 w hS) | ((fail_if_success guard_hyp g3); intro g3 w hS) | ((fail_if_success guard_hyp g4); intro g4 w hS) | ((fail_if_success guard_hyp g5); intro g5 w hS) | fail) | fail)
      go_ret
      exact ⟨decide (ka < kb), bef_own HP.out.2.1 HP.out.2.2.1 HP.out.2.2.2 HK.out, rfl, hS.toExt⟩
  · have HQ := Lib.hid hq
    have e2 : ((qa : Int) == (qb : Int)) = false := by simp; omega
    have hqa' : (qa : Int) < p.len.length := by omega
    have hqb' : (qb : Int) < p.len.length := by omega
    clear hq
    by_cases hk0 : 0 < ka
    · have d1 : decide (0 < ka) = true := decide_eq_true hk0
      go_enter Try.func23, Try.ntmps23
      go_wp2_with (first | (refine oL ?_; (first | refine sL1 hS rfl rfl rfl ?_ | refine sL2 hS rfl rfl rfl ?_ | refine sL3 hS rfl rfl ?_ | refine sL4 hS rfl rfl ?_ | refine sL5 hS rfl rfl ?_ | refine sL6 hS rfl rfl ?_ | refine sL7 hS rfl rfl ?_)) | (refine oS ?_; ((first | refine sS1 hS rfl rfl rfl ?_ | refine sS2 hS rfl rfl rfl ?_ | refine sS3 hS rfl rfl rfl ?_ | refine sS4 hS rfl rfl rfl ?_ | refine sS5 hS rfl rfl rfl ?_); clear hS; intro w hS)) | ((first | (refine oB ?_; first | refine sB1 hS rfl rfl ?_ | refine sB2 hS rfl rfl ?_) | refine sN1 hS rfl ?_); clear hS; first | ((fail_if_success guard_hyp g1); intro g1 w hS) | ((fail_if_success guard_hyp g2); intro g2 w hS) | ((fail_if_success guard_hyp g3); intro g3 w hS) | ((fail_if_success guard_hyp g4); intro g4 w hS) | ((fail_if_success guard_hyp g5); intro g5 w hS) | fail) | fail)
      refine dr_start0 []  hS (by kernel_rfl) rfl ?_; clear hS; intro w hS
      first | refine dL1 hS 0 rfl rfl rfl rfl ?_ | refine dL2 hS 0 rfl rfl rfl rfl ?_ | refine dL3 hS 0 rfl rfl rfl ?_ | refine dL4 hS 0 rfl rfl rfl ?_ | refine dL5 hS 0 rfl rfl rfl ?_ | refine dL6 hS 0 rfl rfl rfl ?_ | refine dL7 hS 0 rfl rfl rfl ?_
      (try simp only [Act.put, nA, nB, nC])
      refine dP hS 1 rfl rfl ?_
      (try simp only [Act.put, nA, nB, nC])
      first | refine dL1 hS 2 rfl rfl rfl rfl ?_ | refine dL2 hS 2 rfl rfl rfl rfl ?_ | refine dL3 hS 2 rfl rfl rfl ?_ | refine dL4 hS 2 rfl rfl rfl ?_ | refine dL5 hS 2 rfl rfl rfl ?_ | refine dL6 hS 2 rfl rfl rfl ?_ | refine dL7 hS 2 rfl rfl rfl ?_
      (try simp only [Act.put, nA, nB, nC])
      refine dP hS 3 rfl rfl ?_
      (try simp only [Act.put, nA, nB, nC])
      first | refine dL1 hS 4 rfl rfl rfl rfl ?_ | refine dL2 hS 4 rfl rfl rfl rfl ?_ | refine dL3 hS 4 rfl rfl rfl ?_ | refine dL4 hS 4 rfl rfl rfl ?_ | refine dL5 hS 4 rfl rfl rfl ?_ | refine dL6 hS 4 rfl rfl rfl ?_ | refine dL7 hS 4 rfl rfl rfl ?_
      (try simp only [Act.put, nA, nB, nC])
      refine dP hS 6 rfl rfl ?_
      (try simp only [Act.put, nA, nB, nC])
      first | refine dL1 hS 7 rfl rfl rfl rfl ?_ | refine dL2 hS 7 rfl rfl rfl rfl ?_ | refine dL3 hS 7 rfl rfl rfl ?_ | refine dL4 hS 7 rfl rfl rfl ?_ | refine dL5 hS 7 rfl rfl rfl ?_ | refine dL6 hS 7 rfl rfl rfl ?_ | refine dL7 hS 7 rfl rfl rfl ?_
      (try simp only [Act.put, nA, nB, nC])
      refine dP hS 10 rfl rfl ?_
      (try simp only [Act.put, nA, nB, nC])
      first | refine dL1 hS 11 rfl rfl rfl rfl ?_ | refine dL2 hS 11 rfl rfl rfl rfl ?_ | refine dL3 hS 11 rfl rfl rfl ?_ | refine dL4 hS 11 rfl rfl rfl ?_ | refine dL5 hS 11 rfl rfl rfl ?_ | refine dL6 hS 11 rfl rfl rfl ?_ | refine dL7 hS 11 rfl rfl rfl ?_
      (try simp only [Act.put, nA, nB, nC])
      refine dr_one 5 (by kernel_rfl) rfl ?_
      (refine st_call rfl (by kernel_rfl) rfl ?_; go_at_call 21; refine (rclock_n rfl rfl rfl rfl (HP.out.1.ext hS.toExt) HP.out.2.1 HP.out.2.2.2).mono ?_; rintro e u2 ⟨L2, cap2, c, rfl, hclk, hcl, hri, hx1⟩; replace hS := hS.frozNew hx1; have HC := Lib.hid hclk; have HCL := Lib.hid hcl; clear hclk hcl; obtain ⟨bc, oc, rfl, hfc⟩ := hri.fc (k := qa) (by rw [HCL.out]; exact hqa); generalize hcq : nth c qa = cq at *)
      (try simp only [Act.put, nA, nB, nC])
      refine dr_end hS ?_
      refine dP hS 8 rfl rfl ?_
      (try simp only [Act.put, nA, nB, nC])
      refine dr_one 9 (by kernel_rfl) rfl ?_
      (first | refine sL1 hS rfl rfl rfl ?_ | refine sL2 hS rfl rfl rfl ?_ | refine sL3 hS rfl rfl ?_ | refine sL4 hS rfl rfl ?_ | refine sL5 hS rfl rfl ?_ | refine sL6 hS rfl rfl ?_ | refine sL7 hS rfl rfl ?_)
      (try simp only [Act.put, nA, nB, nC])
      refine dr_end hS ?_
      refine dP hS 12 rfl rfl ?_
      (try simp only [Act.put, nA, nB, nC])
      refine dA hS 13 rfl rfl rfl ?_
      (try simp only [Act.put, nA, nB, nC])
      refine dr_done (by kernel_rfl) ?_
      go_wp2_with (first | (refine oL ?_; (first | refine sL1 hS rfl rfl rfl ?_ | refine sL2 hS rfl rfl rfl ?_ | refine sL3 hS rfl rfl ?_ | refine sL4 hS rfl rfl ?_ | refine sL5 hS rfl rfl ?_ | refine sL6 hS rfl rfl ?_ | refine sL7 hS rfl rfl ?_)) | (refine oS ?_; ((first | refine sS1 hS rfl rfl rfl ?_ | refine sS2 hS rfl rfl rfl ?_ | refine sS3 hS rfl rfl rfl ?_ | refine sS4 hS rfl rfl rfl ?_ | refine sS5 hS rfl rfl rfl ?_); clear hS; intro w hS)) | ((first | (refine oB ?_; first | refine sB1 hS rfl rfl ?_ | refine sB2 hS rfl rfl ?_) | refine sN1 hS rfl ?_); clear hS; first | ((fail_if_success guard_hyp g1); intro g1 w hS) | ((fail_if_success guard_hyp g2); intro g2 w hS) | ((fail_if_success guard_hyp g3); intro g3 w hS) | ((fail_if_success guard_hyp g4); intro g4 w hS) | ((fail_if_success guard_hyp g5); intro g5 w hS) | fail) | fail)
      go_ret
      refine ⟨decide (ka ≤ cq), ?_, rfl, hS.toExt⟩
      rw [decide_eq_true_eq, ← hcq, ← reach_iff HP.out.2.1 HP.out.2.2.2 (c := c) HC.out HP.out.2.2.1 hk0]
      exact ⟨fun h => ⟨fun e => HQ.out (by injection e), h⟩, fun h => h.2⟩
    · have hka0 : ka = 0 := by omega
      subst hka0
      clear hk0
      have hkb := HP.out.2.2.2.2.1
      have hkb1 := HP.out.2.2.2.2.2
      simp only at hkb hkb1
      obtain ⟨kn, rfl⟩ : ∃ kn : Nat, kb = kn := ⟨kb.toNat, by omega⟩
      go_enter Try.func23, Try.ntmps23
      go_wp2_with (first | (refine oL ?_; (first | refine sL1 hS rfl rfl rfl ?_ | refine sL2 hS rfl rfl rfl ?_ | refine sL3 hS rfl rfl ?_ | refine sL4 hS rfl rfl ?_ | refine sL5 hS rfl rfl ?_ | refine sL6 hS rfl rfl ?_ | refine sL7 hS rfl rfl ?_)) | (refine oS ?_; ((first | refine sS1 hS rfl rfl rfl ?_ | refine sS2 hS rfl rfl rfl ?_ | refine sS3 hS rfl rfl rfl ?_ | refine sS4 hS rfl rfl rfl ?_ | refine sS5 hS rfl rfl rfl ?_); clear hS; intro w hS)) | ((first | (refine oB ?_; first | refine sB1 hS rfl rfl ?_ | refine sB2 hS rfl rfl ?_) | refine sN1 hS rfl ?_); clear hS; first | ((fail_if_success guard_hyp g1); intro g1 w hS) | ((fail_if_success guard_hyp g2); intro g2 w hS) | ((fail_if_success guard_hyp g3); intro g3 w hS) | ((fail_if_success guard_hyp g4); intro g4 w hS) | ((fail_if_success guard_hyp g5); intro g5 w hS) | fail) | fail)
      refine (clocks_n rfl rfl rfl (HP.out.1.ext hS.toExt) HP.out.2.1).mono ?_
      rintro e u ⟨L, c, rs, rfl, hx1, hD⟩
      replace hS := hS.frozNew hx1
      obtain ⟨b, o, b', o', m, cm, L', cap, cl, rfl, hf1, hkm, hm, hf2, hclk, hri⟩ := hD.at_ HP.out.2.1 hqb hkb1
      have hkm' : (kn : Int) < m := by omega
      have hcl := hclk.len
      have HRI := Lib.hid (fun (k : Nat) (hk : k < p.len.length) => RV.fcNew hri (k := k) (v := .int .i64 (nth cl k)) (by rw [ints_get (by rw [hcl]; exact hk), nth_eq (by rw [hcl]; exact hk)]))
      have HE := Lib.hid (show nth cl qb = (kn : Int) from hclk.e)
      have HZ := Lib.hid (bef_zero HP.out.2.1 HP.out.2.2.1 HP.out.2.2.2 HQ.out hclk)
      obtain ⟨N1, hN1⟩ : ∃ N : Nat → Prop, N = fun k => w.heap.size ≤ k ∧ k < u.heap.size := ⟨_, rfl⟩
      rw [← hN1] at hS hf1 hf2 HRI
      clear hD hclk hri hcl hN1
      go_wp2_with (first | (refine oL ?_; (first | refine sL1 hS rfl rfl rfl ?_ | refine sL2 hS rfl rfl rfl ?_ | refine sL3 hS rfl rfl ?_ | refine sL4 hS rfl rfl ?_ | refine sL5 hS rfl rfl ?_ | refine sL6 hS rfl rfl ?_ | refine sL7 hS rfl rfl ?_)) | (refine oS ?_; ((first | refine sS1 hS rfl rfl rfl ?_ | refine sS2 hS rfl rfl rfl ?_ | refine sS3 hS rfl rfl rfl ?_ | refine sS4 hS rfl rfl rfl ?_ | refine sS5 hS rfl rfl rfl ?_); clear hS; intro w hS)) | ((first | (refine oB ?_; first | refine sB1 hS rfl rfl ?_ | refine sB2 hS rfl rfl ?_) | refine sN1 hS rfl ?_); clear hS; first | ((fail_if_success guard_hyp g1); intro g1 w hS) | ((fail_if_success guard_hyp g2); intro g2 w hS) | ((fail_if_success guard_hyp g3); intro g3 w hS) | ((fail_if_success guard_hyp g4); intro g4 w hS) | ((fail_if_success guard_hyp g5); intro g5 w hS) | fail) | fail)
      go_loopw [8] (fun s8 wr => ∃ (i : Nat), i ≤ p.arcs.length ∧ s8 = .int .i64 i ∧ Hid (∀ r ∈ p.arcs.take i, ¬ SentP cl qa r) ∧ St w0 NoM [froz N1 u, blk g3 [.int .i64 (qb : Int), .int .i64 (kn : Int)] 37, blk g2 [.int .i64 (qa : Int), .int .i64 0] 37, blk g1 [.slice A1 p.len.length c1, .slice A2 p.ck.length c2, .slice A3 p.arcs.length c3] 28] wr) (fun s8 _ => p.arcs.length - (intOf s8).toNat)
      case atStart => exact ⟨0, by omega, rfl, Lib.hid (by simp), hS.re⟩
      case round =>
        clear hS
        obtain ⟨i, hi, rfl, HI, hS⟩ := hrel
        by_cases hlt : i < p.arcs.length
        · have hlt' : (i : Int) < p.arcs.length := by omega
          obtain ⟨b3, o3, hA3, _, hcs⟩ := HP.out.1.arcs.cells hlt
          simp only at hA3
          subst hA3
          have hoa := HP.out.2.1.arc _ (List.getElem_mem hlt)
          have HNX := Lib.hid (take_none (P := SentP cl qa) hlt HI.out)
          have HMEM := Lib.hid (List.getElem_mem hlt)
          generalize p.arcs[i] = ar at *
          simp only [arcCells] at hcs
          have hto : ar.to < p.len.length := hoa.to
          have hto' : (ar.to : Int) < p.len.length := by omega
          obtain ⟨b4, o4, e4, hf4⟩ := HRI.out ar.to hto
          subst e4
          generalize hcq : nth cl ar.to = cq at *
          have HCQ := Lib.hid hcq
          clear hcq hoa
          by_cases hfr : ar.fr = qa
          · have e3 : ((ar.fr : Int) == (qa : Int)) = true := by simp; omega
            by_cases hat : 0 < ar.at_
            · have d3 : decide (0 < ar.at_) = true := decide_eq_true hat
              by_cases htq : ar.to = qb
              · have e4 : ((ar.to : Int) == (qb : Int)) = true := by simp; omega
                have e5 : ((ar.to : Int) != (qb : Int)) = false := by simp; omega
                have hcqk : cq = (kn : Int) := by rw [← HCQ.out, htq]; exact HE.out
                by_cases hle : ar.at_ ≤ (kn : Int)
                · have d5 : decide (ar.at_ ≤ (kn : Int)) = true := decide_eq_true hle
                  have HY := Lib.hid (show SentP cl qa ar from ⟨hfr, hat, by rw [HCQ.out, hcqk]; exact hle⟩)
                  clear hfr hat htq hcqk hle
                  go_upto_region 12 with (first | (refine oL ?_; (first | refine sL1 hS rfl rfl rfl ?_ | refine sL2 hS rfl rfl rfl ?_ | refine sL3 hS rfl rfl ?_ | refine sL4 hS rfl rfl ?_ | refine sL5 hS rfl rfl ?_ | refine sL6 hS rfl rfl ?_ | refine sL7 hS rfl rfl ?_)) | (refine oS ?_; ((first | refine sS1 hS rfl rfl rfl ?_ | refine sS2 hS rfl rfl rfl ?_ | refine sS3 hS rfl rfl rfl ?_ | refine sS4 hS rfl rfl rfl ?_ | refine sS5 hS rfl rfl rfl ?_); clear hS; intro w hS)) | ((first | (refine oB ?_; first | refine sB1 hS rfl rfl ?_ | refine sB2 hS rfl rfl ?_) | refine sN1 hS rfl ?_); clear hS; first | ((fail_if_success guard_hyp g1); intro g1 w hS) | ((fail_if_success guard_hyp g2); intro g2 w hS) | ((fail_if_success guard_hyp g3); intro g3 w hS) | ((fail_if_success guard_hyp g4); intro g4 w hS) | ((fail_if_success guard_hyp g5); intro g5 w hS) | fail) | fail)
                  refine dr_start0 []  hS (by kernel_rfl) rfl ?_; clear hS; intro w hS
                  refine dP hS 0 rfl rfl ?_
                  (try simp only [Act.put, nA, nB, nC])
                  first | refine dL1 hS 1 rfl rfl rfl rfl ?_ | refine dL2 hS 1 rfl rfl rfl rfl ?_ | refine dL3 hS 1 rfl rfl rfl ?_ | refine dL4 hS 1 rfl rfl rfl ?_ | refine dL5 hS 1 rfl rfl rfl ?_ | refine dL6 hS 1 rfl rfl rfl ?_ | refine dL7 hS 1 rfl rfl rfl ?_
                  (try simp only [Act.put, nA, nB, nC])
                  refine dP hS 2 rfl rfl ?_
                  (try simp only [Act.put, nA, nB, nC])
                  first | refine dL1 hS 3 rfl rfl rfl rfl ?_ | refine dL2 hS 3 rfl rfl rfl rfl ?_ | refine dL3 hS 3 rfl rfl rfl ?_ | refine dL4 hS 3 rfl rfl rfl ?_ | refine dL5 hS 3 rfl rfl rfl ?_ | refine dL6 hS 3 rfl rfl rfl ?_ | refine dL7 hS 3 rfl rfl rfl ?_
                  (try simp only [Act.put, nA, nB, nC])
                  refine dP hS 4 rfl rfl ?_
                  (try simp only [Act.put, nA, nB, nC])
                  refine dM hS 5 rfl rfl rfl ?_
                  (try simp only [Act.put, nA, nB, nC])
                  first | refine dP hS 6 rfl rfl ?_ | refine dQ hS 6 rfl rfl ?_
                  (try simp only [Act.put, nA, nB, nC])
                  first | refine dL1 hS 7 rfl rfl rfl rfl ?_ | refine dL2 hS 7 rfl rfl rfl rfl ?_ | refine dL3 hS 7 rfl rfl rfl ?_ | refine dL4 hS 7 rfl rfl rfl ?_ | refine dL5 hS 7 rfl rfl rfl ?_ | refine dL6 hS 7 rfl rfl rfl ?_ | refine dL7 hS 7 rfl rfl rfl ?_ | refine dQ hS 7 rfl rfl ?_
                  (try simp only [Act.put, nA, nB, nC])
                  first | refine dP hS 8 rfl rfl ?_ | refine dQ hS 8 rfl rfl ?_
                  (try simp only [Act.put, nA, nB, nC])
                  refine dP hS 9 rfl rfl ?_
                  (try simp only [Act.put, nA, nB, nC])
                  refine dM hS 10 rfl rfl rfl ?_
                  (try simp only [Act.put, nA, nB, nC])
                  first | refine dP hS 11 rfl rfl ?_ | refine dQ hS 11 rfl rfl ?_
                  (try simp only [Act.put, nA, nB, nC])
                  first | refine dL1 hS 12 rfl rfl rfl rfl ?_ | refine dL2 hS 12 rfl rfl rfl rfl ?_ | refine dL3 hS 12 rfl rfl rfl ?_ | refine dL4 hS 12 rfl rfl rfl ?_ | refine dL5 hS 12 rfl rfl rfl ?_ | refine dL6 hS 12 rfl rfl rfl ?_ | refine dL7 hS 12 rfl rfl rfl ?_ | refine dQ hS 12 rfl rfl ?_
                  (try simp only [Act.put, nA, nB, nC])
                  first | refine dP hS 13 rfl rfl ?_ | refine dQ hS 13 rfl rfl ?_
                  (try simp only [Act.put, nA, nB, nC])
                  first | refine dL1 hS 14 rfl rfl rfl rfl ?_ | refine dL2 hS 14 rfl rfl rfl rfl ?_ | refine dL3 hS 14 rfl rfl rfl ?_ | refine dL4 hS 14 rfl rfl rfl ?_ | refine dL5 hS 14 rfl rfl rfl ?_ | refine dL6 hS 14 rfl rfl rfl ?_ | refine dL7 hS 14 rfl rfl rfl ?_ | refine dQ hS 14 rfl rfl ?_
                  (try simp only [Act.put, nA, nB, nC])
                  first | refine dP hS 15 rfl rfl ?_ | refine dQ hS 15 rfl rfl ?_
                  (try simp only [Act.put, nA, nB, nC])
                  first | refine dM hS 16 rfl rfl rfl ?_ | refine dQ hS 16 rfl rfl ?_
                  (try simp only [Act.put, nA, nB, nC])
                  first | refine dP hS 17 rfl rfl ?_ | refine dQ hS 17 rfl rfl ?_
                  (try simp only [Act.put, nA, nB, nC])
                  first | refine dL1 hS 18 rfl rfl rfl rfl ?_ | refine dL2 hS 18 rfl rfl rfl rfl ?_ | refine dL3 hS 18 rfl rfl rfl ?_ | refine dL4 hS 18 rfl rfl rfl ?_ | refine dL5 hS 18 rfl rfl rfl ?_ | refine dL6 hS 18 rfl rfl rfl ?_ | refine dL7 hS 18 rfl rfl rfl ?_ | refine dQ hS 18 rfl rfl ?_
                  (try simp only [Act.put, nA, nB, nC])
                  first | refine dP hS 19 rfl rfl ?_ | refine dQ hS 19 rfl rfl ?_
                  (try simp only [Act.put, nA, nB, nC])
                  first | refine dL1 hS 20 rfl rfl rfl rfl ?_ | refine dL2 hS 20 rfl rfl rfl rfl ?_ | refine dL3 hS 20 rfl rfl rfl ?_ | refine dL4 hS 20 rfl rfl rfl ?_ | refine dL5 hS 20 rfl rfl rfl ?_ | refine dL6 hS 20 rfl rfl rfl ?_ | refine dL7 hS 20 rfl rfl rfl ?_ | refine dQ hS 20 rfl rfl ?_
                  (try simp only [Act.put, nA, nB, nC])
                  first | refine dP hS 21 rfl rfl ?_ | refine dQ hS 21 rfl rfl ?_
                  (try simp only [Act.put, nA, nB, nC])
                  first | refine dP hS 22 rfl rfl ?_ | refine dQ hS 22 rfl rfl ?_
                  (try simp only [Act.put, nA, nB, nC])
                  first | refine dM hS 23 rfl rfl rfl ?_ | refine dQ hS 23 rfl rfl ?_
                  (try simp only [Act.put, nA, nB, nC])
                  first | refine dP hS 24 rfl rfl ?_ | refine dQ hS 24 rfl rfl ?_
                  (try simp only [Act.put, nA, nB, nC])
                  first | refine dL1 hS 25 rfl rfl rfl rfl ?_ | refine dL2 hS 25 rfl rfl rfl rfl ?_ | refine dL3 hS 25 rfl rfl rfl ?_ | refine dL4 hS 25 rfl rfl rfl ?_ | refine dL5 hS 25 rfl rfl rfl ?_ | refine dL6 hS 25 rfl rfl rfl ?_ | refine dL7 hS 25 rfl rfl rfl ?_ | refine dQ hS 25 rfl rfl ?_
                  (try simp only [Act.put, nA, nB, nC])
                  first | refine dP hS 26 rfl rfl ?_ | refine dQ hS 26 rfl rfl ?_
                  (try simp only [Act.put, nA, nB, nC])
                  first | refine dL1 hS 27 rfl rfl rfl rfl ?_ | refine dL2 hS 27 rfl rfl rfl rfl ?_ | refine dL3 hS 27 rfl rfl rfl ?_ | refine dL4 hS 27 rfl rfl rfl ?_ | refine dL5 hS 27 rfl rfl rfl ?_ | refine dL6 hS 27 rfl rfl rfl ?_ | refine dL7 hS 27 rfl rfl rfl ?_ | refine dQ hS 27 rfl rfl ?_
                  (try simp only [Act.put, nA, nB, nC])
                  first | refine dP hS 28 rfl rfl ?_ | refine dQ hS 28 rfl rfl ?_
                  (try simp only [Act.put, nA, nB, nC])
                  first | refine dM hS 29 rfl rfl rfl ?_ | refine dQ hS 29 rfl rfl ?_
                  (try simp only [Act.put, nA, nB, nC])
                  first | refine dM hS 30 rfl rfl rfl ?_ | refine dQ hS 30 rfl rfl ?_
                  (try simp only [Act.put, nA, nB, nC])
                  first | refine dP hS 31 rfl rfl ?_ | refine dQ hS 31 rfl rfl ?_
                  (try simp only [Act.put, nA, nB, nC])
                  first | refine dL1 hS 32 rfl rfl rfl rfl ?_ | refine dL2 hS 32 rfl rfl rfl rfl ?_ | refine dL3 hS 32 rfl rfl rfl ?_ | refine dL4 hS 32 rfl rfl rfl ?_ | refine dL5 hS 32 rfl rfl rfl ?_ | refine dL6 hS 32 rfl rfl rfl ?_ | refine dL7 hS 32 rfl rfl rfl ?_ | refine dQ hS 32 rfl rfl ?_
                  (try simp only [Act.put, nA, nB, nC])
                  first | refine dP hS 33 rfl rfl ?_ | refine dQ hS 33 rfl rfl ?_
                  (try simp only [Act.put, nA, nB, nC])
                  first | refine dL1 hS 34 rfl rfl rfl rfl ?_ | refine dL2 hS 34 rfl rfl rfl rfl ?_ | refine dL3 hS 34 rfl rfl rfl ?_ | refine dL4 hS 34 rfl rfl rfl ?_ | refine dL5 hS 34 rfl rfl rfl ?_ | refine dL6 hS 34 rfl rfl rfl ?_ | refine dL7 hS 34 rfl rfl rfl ?_ | refine dQ hS 34 rfl rfl ?_
                  (try simp only [Act.put, nA, nB, nC])
                  first | refine dP hS 35 rfl rfl ?_ | refine dQ hS 35 rfl rfl ?_
                  (try simp only [Act.put, nA, nB, nC])
                  first | refine dL1 hS 36 rfl rfl rfl rfl ?_ | refine dL2 hS 36 rfl rfl rfl rfl ?_ | refine dL3 hS 36 rfl rfl rfl ?_ | refine dL4 hS 36 rfl rfl rfl ?_ | refine dL5 hS 36 rfl rfl rfl ?_ | refine dL6 hS 36 rfl rfl rfl ?_ | refine dL7 hS 36 rfl rfl rfl ?_ | refine dQ hS 36 rfl rfl ?_
                  (try simp only [Act.put, nA, nB, nC])
                  first | refine dP hS 37 rfl rfl ?_ | refine dQ hS 37 rfl rfl ?_
                  (try simp only [Act.put, nA, nB, nC])
                  first | refine dL1 hS 38 rfl rfl rfl rfl ?_ | refine dL2 hS 38 rfl rfl rfl rfl ?_ | refine dL3 hS 38 rfl rfl rfl ?_ | refine dL4 hS 38 rfl rfl rfl ?_ | refine dL5 hS 38 rfl rfl rfl ?_ | refine dL6 hS 38 rfl rfl rfl ?_ | refine dL7 hS 38 rfl rfl rfl ?_ | refine dQ hS 38 rfl rfl ?_
                  (try simp only [Act.put, nA, nB, nC])
                  first | refine dP hS 39 rfl rfl ?_ | refine dQ hS 39 rfl rfl ?_
                  (try simp only [Act.put, nA, nB, nC])
                  first | refine dL1 hS 40 rfl rfl rfl rfl ?_ | refine dL2 hS 40 rfl rfl rfl rfl ?_ | refine dL3 hS 40 rfl rfl rfl ?_ | refine dL4 hS 40 rfl rfl rfl ?_ | refine dL5 hS 40 rfl rfl rfl ?_ | refine dL6 hS 40 rfl rfl rfl ?_ | refine dL7 hS 40 rfl rfl rfl ?_ | refine dQ hS 40 rfl rfl ?_
                  (try simp only [Act.put, nA, nB, nC])
                  first | refine dP hS 41 rfl rfl ?_ | refine dQ hS 41 rfl rfl ?_
                  (try simp only [Act.put, nA, nB, nC])
                  first | refine dL1 hS 42 rfl rfl rfl rfl ?_ | refine dL2 hS 42 rfl rfl rfl rfl ?_ | refine dL3 hS 42 rfl rfl rfl ?_ | refine dL4 hS 42 rfl rfl rfl ?_ | refine dL5 hS 42 rfl rfl rfl ?_ | refine dL6 hS 42 rfl rfl rfl ?_ | refine dL7 hS 42 rfl rfl rfl ?_ | refine dQ hS 42 rfl rfl ?_
                  (try simp only [Act.put, nA, nB, nC])
                  first | refine dP hS 43 rfl rfl ?_ | refine dQ hS 43 rfl rfl ?_
                  (try simp only [Act.put, nA, nB, nC])
                  first | refine dL1 hS 44 rfl rfl rfl rfl ?_ | refine dL2 hS 44 rfl rfl rfl rfl ?_ | refine dL3 hS 44 rfl rfl rfl ?_ | refine dL4 hS 44 rfl rfl rfl ?_ | refine dL5 hS 44 rfl rfl rfl ?_ | refine dL6 hS 44 rfl rfl rfl ?_ | refine dL7 hS 44 rfl rfl rfl ?_ | refine dQ hS 44 rfl rfl ?_
                  (try simp only [Act.put, nA, nB, nC])
                  first | refine dP hS 45 rfl rfl ?_ | refine dQ hS 45 rfl rfl ?_
                  (try simp only [Act.put, nA, nB, nC])
                  first | refine dP hS 46 rfl rfl ?_ | refine dQ hS 46 rfl rfl ?_
                  (try simp only [Act.put, nA, nB, nC])
                  first | refine dP hS 47 rfl rfl ?_ | refine dQ hS 47 rfl rfl ?_
                  (try simp only [Act.put, nA, nB, nC])
                  refine dP hS 48 rfl rfl ?_
                  (try simp only [Act.put, nA, nB, nC])
                  refine dr_done (by kernel_rfl) ?_
                  go_wp2_with (first | (refine oL ?_; (first | refine sL1 hS rfl rfl rfl ?_ | refine sL2 hS rfl rfl rfl ?_ | refine sL3 hS rfl rfl ?_ | refine sL4 hS rfl rfl ?_ | refine sL5 hS rfl rfl ?_ | refine sL6 hS rfl rfl ?_ | refine sL7 hS rfl rfl ?_)) | (refine oS ?_; ((first | refine sS1 hS rfl rfl rfl ?_ | refine sS2 hS rfl rfl rfl ?_ | refine sS3 hS rfl rfl rfl ?_ | refine sS4 hS rfl rfl rfl ?_ | refine sS5 hS rfl rfl rfl ?_); clear hS; intro w hS)) | ((first | (refine oB ?_; first | refine sB1 hS rfl rfl ?_ | refine sB2 hS rfl rfl ?_) | refine sN1 hS rfl ?_); clear hS; first | ((fail_if_success guard_hyp g1); intro g1 w hS) | ((fail_if_success guard_hyp g2); intro g2 w hS) | ((fail_if_success guard_hyp g3); intro g3 w hS) | ((fail_if_success guard_hyp g4); intro g4 w hS) | ((fail_if_success guard_hyp g5); intro g5 w hS) | fail) | fail)
                  go_ret
                  exact ⟨true, ⟨fun _ => HZ.out.1 ⟨ar, HMEM.out, HY.out⟩, fun _ => rfl⟩, rfl, hS.toExt⟩
                · have d5 : decide (ar.at_ ≤ (kn : Int)) = false := decide_eq_false hle
                  have HY := Lib.hid (show ¬ SentP cl qa ar from fun h => by have := h.2.2; rw [HCQ.out, hcqk] at this; exact hle this)
                  clear hfr hat htq hcqk hle
                  go_upto_region 12 with (first | (refine oL ?_; (first | refine sL1 hS rfl rfl rfl ?_ | refine sL2 hS rfl rfl rfl ?_ | refine sL3 hS rfl rfl ?_ | refine sL4 hS rfl rfl ?_ | refine sL5 hS rfl rfl ?_ | refine sL6 hS rfl rfl ?_ | refine sL7 hS rfl rfl ?_)) | (refine oS ?_; ((first | refine sS1 hS rfl rfl rfl ?_ | refine sS2 hS rfl rfl rfl ?_ | refine sS3 hS rfl rfl rfl ?_ | refine sS4 hS rfl rfl rfl ?_ | refine sS5 hS rfl rfl rfl ?_); clear hS; intro w hS)) | ((first | (refine oB ?_; first | refine sB1 hS rfl rfl ?_ | refine sB2 hS rfl rfl ?_) | refine sN1 hS rfl ?_); clear hS; first | ((fail_if_success guard_hyp g1); intro g1 w hS) | ((fail_if_success guard_hyp g2); intro g2 w hS) | ((fail_if_success guard_hyp g3); intro g3 w hS) | ((fail_if_success guard_hyp g4); intro g4 w hS) | ((fail_if_success guard_hyp g5); intro g5 w hS) | fail) | fail)
                  refine dr_start0 []  hS (by kernel_rfl) rfl ?_; clear hS; intro w hS
                  refine dP hS 0 rfl rfl ?_
                  (try simp only [Act.put, nA, nB, nC])
                  first | refine dL1 hS 1 rfl rfl rfl rfl ?_ | refine dL2 hS 1 rfl rfl rfl rfl ?_ | refine dL3 hS 1 rfl rfl rfl ?_ | refine dL4 hS 1 rfl rfl rfl ?_ | refine dL5 hS 1 rfl rfl rfl ?_ | refine dL6 hS 1 rfl rfl rfl ?_ | refine dL7 hS 1 rfl rfl rfl ?_
                  (try simp only [Act.put, nA, nB, nC])
                  refine dP hS 2 rfl rfl ?_
                  (try simp only [Act.put, nA, nB, nC])
                  first | refine dL1 hS 3 rfl rfl rfl rfl ?_ | refine dL2 hS 3 rfl rfl rfl rfl ?_ | refine dL3 hS 3 rfl rfl rfl ?_ | refine dL4 hS 3 rfl rfl rfl ?_ | refine dL5 hS 3 rfl rfl rfl ?_ | refine dL6 hS 3 rfl rfl rfl ?_ | refine dL7 hS 3 rfl rfl rfl ?_
                  (try simp only [Act.put, nA, nB, nC])
                  refine dP hS 4 rfl rfl ?_
                  (try simp only [Act.put, nA, nB, nC])
                  refine dM hS 5 rfl rfl rfl ?_
                  (try simp only [Act.put, nA, nB, nC])
                  first | refine dP hS 6 rfl rfl ?_ | refine dQ hS 6 rfl rfl ?_
                  (try simp only [Act.put, nA, nB, nC])
                  first | refine dL1 hS 7 rfl rfl rfl rfl ?_ | refine dL2 hS 7 rfl rfl rfl rfl ?_ | refine dL3 hS 7 rfl rfl rfl ?_ | refine dL4 hS 7 rfl rfl rfl ?_ | refine dL5 hS 7 rfl rfl rfl ?_ | refine dL6 hS 7 rfl rfl rfl ?_ | refine dL7 hS 7 rfl rfl rfl ?_ | refine dQ hS 7 rfl rfl ?_
                  (try simp only [Act.put, nA, nB, nC])
                  first | refine dP hS 8 rfl rfl ?_ | refine dQ hS 8 rfl rfl ?_
                  (try simp only [Act.put, nA, nB, nC])
                  refine dP hS 9 rfl rfl ?_
                  (try simp only [Act.put, nA, nB, nC])
                  refine dM hS 10 rfl rfl rfl ?_
                  (try simp only [Act.put, nA, nB, nC])
                  first | refine dP hS 11 rfl rfl ?_ | refine dQ hS 11 rfl rfl ?_
                  (try simp only [Act.put, nA, nB, nC])
                  first | refine dL1 hS 12 rfl rfl rfl rfl ?_ | refine dL2 hS 12 rfl rfl rfl rfl ?_ | refine dL3 hS 12 rfl rfl rfl ?_ | refine dL4 hS 12 rfl rfl rfl ?_ | refine dL5 hS 12 rfl rfl rfl ?_ | refine dL6 hS 12 rfl rfl rfl ?_ | refine dL7 hS 12 rfl rfl rfl ?_ | refine dQ hS 12 rfl rfl ?_
                  (try simp only [Act.put, nA, nB, nC])
                  first | refine dP hS 13 rfl rfl ?_ | refine dQ hS 13 rfl rfl ?_
                  (try simp only [Act.put, nA, nB, nC])
                  first | refine dL1 hS 14 rfl rfl rfl rfl ?_ | refine dL2 hS 14 rfl rfl rfl rfl ?_ | refine dL3 hS 14 rfl rfl rfl ?_ | refine dL4 hS 14 rfl rfl rfl ?_ | refine dL5 hS 14 rfl rfl rfl ?_ | refine dL6 hS 14 rfl rfl rfl ?_ | refine dL7 hS 14 rfl rfl rfl ?_ | refine dQ hS 14 rfl rfl ?_
                  (try simp only [Act.put, nA, nB, nC])
                  first | refine dP hS 15 rfl rfl ?_ | refine dQ hS 15 rfl rfl ?_
                  (try simp only [Act.put, nA, nB, nC])
                  first | refine dM hS 16 rfl rfl rfl ?_ | refine dQ hS 16 rfl rfl ?_
                  (try simp only [Act.put, nA, nB, nC])
                  first | refine dP hS 17 rfl rfl ?_ | refine dQ hS 17 rfl rfl ?_
                  (try simp only [Act.put, nA, nB, nC])
                  first | refine dL1 hS 18 rfl rfl rfl rfl ?_ | refine dL2 hS 18 rfl rfl rfl rfl ?_ | refine dL3 hS 18 rfl rfl rfl ?_ | refine dL4 hS 18 rfl rfl rfl ?_ | refine dL5 hS 18 rfl rfl rfl ?_ | refine dL6 hS 18 rfl rfl rfl ?_ | refine dL7 hS 18 rfl rfl rfl ?_ | refine dQ hS 18 rfl rfl ?_
                  (try simp only [Act.put, nA, nB, nC])
                  first | refine dP hS 19 rfl rfl ?_ | refine dQ hS 19 rfl rfl ?_
                  (try simp only [Act.put, nA, nB, nC])
                  first | refine dL1 hS 20 rfl rfl rfl rfl ?_ | refine dL2 hS 20 rfl rfl rfl rfl ?_ | refine dL3 hS 20 rfl rfl rfl ?_ | refine dL4 hS 20 rfl rfl rfl ?_ | refine dL5 hS 20 rfl rfl rfl ?_ | refine dL6 hS 20 rfl rfl rfl ?_ | refine dL7 hS 20 rfl rfl rfl ?_ | refine dQ hS 20 rfl rfl ?_
                  (try simp only [Act.put, nA, nB, nC])
                  first | refine dP hS 21 rfl rfl ?_ | refine dQ hS 21 rfl rfl ?_
                  (try simp only [Act.put, nA, nB, nC])
                  first | refine dP hS 22 rfl rfl ?_ | refine dQ hS 22 rfl rfl ?_
                  (try simp only [Act.put, nA, nB, nC])
                  first | refine dM hS 23 rfl rfl rfl ?_ | refine dQ hS 23 rfl rfl ?_
                  (try simp only [Act.put, nA, nB, nC])
                  first | refine dP hS 24 rfl rfl ?_ | refine dQ hS 24 rfl rfl ?_
                  (try simp only [Act.put, nA, nB, nC])
                  first | refine dL1 hS 25 rfl rfl rfl rfl ?_ | refine dL2 hS 25 rfl rfl rfl rfl ?_ | refine dL3 hS 25 rfl rfl rfl ?_ | refine dL4 hS 25 rfl rfl rfl ?_ | refine dL5 hS 25 rfl rfl rfl ?_ | refine dL6 hS 25 rfl rfl rfl ?_ | refine dL7 hS 25 rfl rfl rfl ?_ | refine dQ hS 25 rfl rfl ?_
                  (try simp only [Act.put, nA, nB, nC])
                  first | refine dP hS 26 rfl rfl ?_ | refine dQ hS 26 rfl rfl ?_
                  (try simp only [Act.put, nA, nB, nC])
                  first | refine dL1 hS 27 rfl rfl rfl rfl ?_ | refine dL2 hS 27 rfl rfl rfl rfl ?_ | refine dL3 hS 27 rfl rfl rfl ?_ | refine dL4 hS 27 rfl rfl rfl ?_ | refine dL5 hS 27 rfl rfl rfl ?_ | refine dL6 hS 27 rfl rfl rfl ?_ | refine dL7 hS 27 rfl rfl rfl ?_ | refine dQ hS 27 rfl rfl ?_
                  (try simp only [Act.put, nA, nB, nC])
                  first | refine dP hS 28 rfl rfl ?_ | refine dQ hS 28 rfl rfl ?_
                  (try simp only [Act.put, nA, nB, nC])
                  first | refine dM hS 29 rfl rfl rfl ?_ | refine dQ hS 29 rfl rfl ?_
                  (try simp only [Act.put, nA, nB, nC])
                  first | refine dM hS 30 rfl rfl rfl ?_ | refine dQ hS 30 rfl rfl ?_
                  (try simp only [Act.put, nA, nB, nC])
                  first | refine dP hS 31 rfl rfl ?_ | refine dQ hS 31 rfl rfl ?_
                  (try simp only [Act.put, nA, nB, nC])
                  first | refine dL1 hS 32 rfl rfl rfl rfl ?_ | refine dL2 hS 32 rfl rfl rfl rfl ?_ | refine dL3 hS 32 rfl rfl rfl ?_ | refine dL4 hS 32 rfl rfl rfl ?_ | refine dL5 hS 32 rfl rfl rfl ?_ | refine dL6 hS 32 rfl rfl rfl ?_ | refine dL7 hS 32 rfl rfl rfl ?_ | refine dQ hS 32 rfl rfl ?_
                  (try simp only [Act.put, nA, nB, nC])
                  first | refine dP hS 33 rfl rfl ?_ | refine dQ hS 33 rfl rfl ?_
                  (try simp only [Act.put, nA, nB, nC])
                  first | refine dL1 hS 34 rfl rfl rfl rfl ?_ | refine dL2 hS 34 rfl rfl rfl rfl ?_ | refine dL3 hS 34 rfl rfl rfl ?_ | refine dL4 hS 34 rfl rfl rfl ?_ | refine dL5 hS 34 rfl rfl rfl ?_ | refine dL6 hS 34 rfl rfl rfl ?_ | refine dL7 hS 34 rfl rfl rfl ?_ | refine dQ hS 34 rfl rfl ?_
                  (try simp only [Act.put, nA, nB, nC])
                  first | refine dP hS 35 rfl rfl ?_ | refine dQ hS 35 rfl rfl ?_
                  (try simp only [Act.put, nA, nB, nC])
                  first | refine dL1 hS 36 rfl rfl rfl rfl ?_ | refine dL2 hS 36 rfl rfl rfl rfl ?_ | refine dL3 hS 36 rfl rfl rfl ?_ | refine dL4 hS 36 rfl rfl rfl ?_ | refine dL5 hS 36 rfl rfl rfl ?_ | refine dL6 hS 36 rfl rfl rfl ?_ | refine dL7 hS 36 rfl rfl rfl ?_ | refine dQ hS 36 rfl rfl ?_
                  (try simp only [Act.put, nA, nB, nC])
                  first | refine dP hS 37 rfl rfl ?_ | refine dQ hS 37 rfl rfl ?_
                  (try simp only [Act.put, nA, nB, nC])
                  first | refine dL1 hS 38 rfl rfl rfl rfl ?_ | refine dL2 hS 38 rfl rfl rfl rfl ?_ | refine dL3 hS 38 rfl rfl rfl ?_ | refine dL4 hS 38 rfl rfl rfl ?_ | refine dL5 hS 38 rfl rfl rfl ?_ | refine dL6 hS 38 rfl rfl rfl ?_ | refine dL7 hS 38 rfl rfl rfl ?_ | refine dQ hS 38 rfl rfl ?_
                  (try simp only [Act.put, nA, nB, nC])
                  first | refine dP hS 39 rfl rfl ?_ | refine dQ hS 39 rfl rfl ?_
                  (try simp only [Act.put, nA, nB, nC])
                  first | refine dL1 hS 40 rfl rfl rfl rfl ?_ | refine dL2 hS 40 rfl rfl rfl rfl ?_ | refine dL3 hS 40 rfl rfl rfl ?_ | refine dL4 hS 40 rfl rfl rfl ?_ | refine dL5 hS 40 rfl rfl rfl ?_ | refine dL6 hS 40 rfl rfl rfl ?_ | refine dL7 hS 40 rfl rfl rfl ?_ | refine dQ hS 40 rfl rfl ?_
                  (try simp only [Act.put, nA, nB, nC])
                  first | refine dP hS 41 rfl rfl ?_ | refine dQ hS 41 rfl rfl ?_
                  (try simp only [Act.put, nA, nB, nC])
                  first | refine dL1 hS 42 rfl rfl rfl rfl ?_ | refine dL2 hS 42 rfl rfl rfl rfl ?_ | refine dL3 hS 42 rfl rfl rfl ?_ | refine dL4 hS 42 rfl rfl rfl ?_ | refine dL5 hS 42 rfl rfl rfl ?_ | refine dL6 hS 42 rfl rfl rfl ?_ | refine dL7 hS 42 rfl rfl rfl ?_ | refine dQ hS 42 rfl rfl ?_
                  (try simp only [Act.put, nA, nB, nC])
                  first | refine dP hS 43 rfl rfl ?_ | refine dQ hS 43 rfl rfl ?_
                  (try simp only [Act.put, nA, nB, nC])
                  first | refine dL1 hS 44 rfl rfl rfl rfl ?_ | refine dL2 hS 44 rfl rfl rfl rfl ?_ | refine dL3 hS 44 rfl rfl rfl ?_ | refine dL4 hS 44 rfl rfl rfl ?_ | refine dL5 hS 44 rfl rfl rfl ?_ | refine dL6 hS 44 rfl rfl rfl ?_ | refine dL7 hS 44 rfl rfl rfl ?_ | refine dQ hS 44 rfl rfl ?_
                  (try simp only [Act.put, nA, nB, nC])
                  first | refine dP hS 45 rfl rfl ?_ | refine dQ hS 45 rfl rfl ?_
                  (try simp only [Act.put, nA, nB, nC])
                  first | refine dP hS 46 rfl rfl ?_ | refine dQ hS 46 rfl rfl ?_
                  (try simp only [Act.put, nA, nB, nC])
                  first | refine dP hS 47 rfl rfl ?_ | refine dQ hS 47 rfl rfl ?_
                  (try simp only [Act.put, nA, nB, nC])
                  refine dP hS 48 rfl rfl ?_
                  (try simp only [Act.put, nA, nB, nC])
                  refine dr_done (by kernel_rfl) ?_
                  go_wp2_with (first | (refine oL ?_; (first | refine sL1 hS rfl rfl rfl ?_ | refine sL2 hS rfl rfl rfl ?_ | refine sL3 hS rfl rfl ?_ | refine sL4 hS rfl rfl ?_ | refine sL5 hS rfl rfl ?_ | refine sL6 hS rfl rfl ?_ | refine sL7 hS rfl rfl ?_)) | (refine oS ?_; ((first | refine sS1 hS rfl rfl rfl ?_ | refine sS2 hS rfl rfl rfl ?_ | refine sS3 hS rfl rfl rfl ?_ | refine sS4 hS rfl rfl rfl ?_ | refine sS5 hS rfl rfl rfl ?_); clear hS; intro w hS)) | ((first | (refine oB ?_; first | refine sB1 hS rfl rfl ?_ | refine sB2 hS rfl rfl ?_) | refine sN1 hS rfl ?_); clear hS; first | ((fail_if_success guard_hyp g1); intro g1 w hS) | ((fail_if_success guard_hyp g2); intro g2 w hS) | ((fail_if_success guard_hyp g3); intro g3 w hS) | ((fail_if_success guard_hyp g4); intro g4 w hS) | ((fail_if_success guard_hyp g5); intro g5 w hS) | fail) | fail)
                  go_roundw
                  case measure => simp [intOf]; omega
                  exact ⟨i + 1, by omega, by go_num, Lib.hid (HNX.out HY.out), hS.re⟩
              · have e4 : ((ar.to : Int) == (qb : Int)) = false := by simp; omega
                have e5 : ((ar.to : Int) != (qb : Int)) = true := by simp; omega
                by_cases hle : ar.at_ ≤ cq
                · have d5 : decide (ar.at_ ≤ cq) = true := decide_eq_true hle
                  have HY := Lib.hid (show SentP cl qa ar from ⟨hfr, hat, by rw [HCQ.out]; exact hle⟩)
                  clear hfr hat htq hle
                  go_upto_region 12 with (first | (refine oL ?_; (first | refine sL1 hS rfl rfl rfl ?_ | refine sL2 hS rfl rfl rfl ?_ | refine sL3 hS rfl rfl ?_ | refine sL4 hS rfl rfl ?_ | refine sL5 hS rfl rfl ?_ | refine sL6 hS rfl rfl ?_ | refine sL7 hS rfl rfl ?_)) | (refine oS ?_; ((first | refine sS1 hS rfl rfl rfl ?_ | refine sS2 hS rfl rfl rfl ?_ | refine sS3 hS rfl rfl rfl ?_ | refine sS4 hS rfl rfl rfl ?_ | refine sS5 hS rfl rfl rfl ?_); clear hS; intro w hS)) | ((first | (refine oB ?_; first | refine sB1 hS rfl rfl ?_ | refine sB2 hS rfl rfl ?_) | refine sN1 hS rfl ?_); clear hS; first | ((fail_if_success guard_hyp g1); intro g1 w hS) | ((fail_if_success guard_hyp g2); intro g2 w hS) | ((fail_if_success guard_hyp g3); intro g3 w hS) | ((fail_if_success guard_hyp g4); intro g4 w hS) | ((fail_if_success guard_hyp g5); intro g5 w hS) | fail) | fail)
                  refine dr_start0 []  hS (by kernel_rfl) rfl ?_; clear hS; intro w hS
                  refine dP hS 0 rfl rfl ?_
                  (try simp only [Act.put, nA, nB, nC])
                  first | refine dL1 hS 1 rfl rfl rfl rfl ?_ | refine dL2 hS 1 rfl rfl rfl rfl ?_ | refine dL3 hS 1 rfl rfl rfl ?_ | refine dL4 hS 1 rfl rfl rfl ?_ | refine dL5 hS 1 rfl rfl rfl ?_ | refine dL6 hS 1 rfl rfl rfl ?_ | refine dL7 hS 1 rfl rfl rfl ?_
                  (try simp only [Act.put, nA, nB, nC])
                  refine dP hS 2 rfl rfl ?_
                  (try simp only [Act.put, nA, nB, nC])
                  first | refine dL1 hS 3 rfl rfl rfl rfl ?_ | refine dL2 hS 3 rfl rfl rfl rfl ?_ | refine dL3 hS 3 rfl rfl rfl ?_ | refine dL4 hS 3 rfl rfl rfl ?_ | refine dL5 hS 3 rfl rfl rfl ?_ | refine dL6 hS 3 rfl rfl rfl ?_ | refine dL7 hS 3 rfl rfl rfl ?_
                  (try simp only [Act.put, nA, nB, nC])
                  refine dP hS 4 rfl rfl ?_
                  (try simp only [Act.put, nA, nB, nC])
                  refine dM hS 5 rfl rfl rfl ?_
                  (try simp only [Act.put, nA, nB, nC])
                  first | refine dP hS 6 rfl rfl ?_ | refine dQ hS 6 rfl rfl ?_
                  (try simp only [Act.put, nA, nB, nC])
                  first | refine dL1 hS 7 rfl rfl rfl rfl ?_ | refine dL2 hS 7 rfl rfl rfl rfl ?_ | refine dL3 hS 7 rfl rfl rfl ?_ | refine dL4 hS 7 rfl rfl rfl ?_ | refine dL5 hS 7 rfl rfl rfl ?_ | refine dL6 hS 7 rfl rfl rfl ?_ | refine dL7 hS 7 rfl rfl rfl ?_ | refine dQ hS 7 rfl rfl ?_
                  (try simp only [Act.put, nA, nB, nC])
                  first | refine dP hS 8 rfl rfl ?_ | refine dQ hS 8 rfl rfl ?_
                  (try simp only [Act.put, nA, nB, nC])
                  refine dP hS 9 rfl rfl ?_
                  (try simp only [Act.put, nA, nB, nC])
                  refine dM hS 10 rfl rfl rfl ?_
                  (try simp only [Act.put, nA, nB, nC])
                  first | refine dP hS 11 rfl rfl ?_ | refine dQ hS 11 rfl rfl ?_
                  (try simp only [Act.put, nA, nB, nC])
                  first | refine dL1 hS 12 rfl rfl rfl rfl ?_ | refine dL2 hS 12 rfl rfl rfl rfl ?_ | refine dL3 hS 12 rfl rfl rfl ?_ | refine dL4 hS 12 rfl rfl rfl ?_ | refine dL5 hS 12 rfl rfl rfl ?_ | refine dL6 hS 12 rfl rfl rfl ?_ | refine dL7 hS 12 rfl rfl rfl ?_ | refine dQ hS 12 rfl rfl ?_
                  (try simp only [Act.put, nA, nB, nC])
                  first | refine dP hS 13 rfl rfl ?_ | refine dQ hS 13 rfl rfl ?_
                  (try simp only [Act.put, nA, nB, nC])
                  first | refine dL1 hS 14 rfl rfl rfl rfl ?_ | refine dL2 hS 14 rfl rfl rfl rfl ?_ | refine dL3 hS 14 rfl rfl rfl ?_ | refine dL4 hS 14 rfl rfl rfl ?_ | refine dL5 hS 14 rfl rfl rfl ?_ | refine dL6 hS 14 rfl rfl rfl ?_ | refine dL7 hS 14 rfl rfl rfl ?_ | refine dQ hS 14 rfl rfl ?_
                  (try simp only [Act.put, nA, nB, nC])
                  first | refine dP hS 15 rfl rfl ?_ | refine dQ hS 15 rfl rfl ?_
                  (try simp only [Act.put, nA, nB, nC])
                  first | refine dM hS 16 rfl rfl rfl ?_ | refine dQ hS 16 rfl rfl ?_
                  (try simp only [Act.put, nA, nB, nC])
                  first | refine dP hS 17 rfl rfl ?_ | refine dQ hS 17 rfl rfl ?_
                  (try simp only [Act.put, nA, nB, nC])
                  first | refine dL1 hS 18 rfl rfl rfl rfl ?_ | refine dL2 hS 18 rfl rfl rfl rfl ?_ | refine dL3 hS 18 rfl rfl rfl ?_ | refine dL4 hS 18 rfl rfl rfl ?_ | refine dL5 hS 18 rfl rfl rfl ?_ | refine dL6 hS 18 rfl rfl rfl ?_ | refine dL7 hS 18 rfl rfl rfl ?_ | refine dQ hS 18 rfl rfl ?_
                  (try simp only [Act.put, nA, nB, nC])
                  first | refine dP hS 19 rfl rfl ?_ | refine dQ hS 19 rfl rfl ?_
                  (try simp only [Act.put, nA, nB, nC])
                  first | refine dL1 hS 20 rfl rfl rfl rfl ?_ | refine dL2 hS 20 rfl rfl rfl rfl ?_ | refine dL3 hS 20 rfl rfl rfl ?_ | refine dL4 hS 20 rfl rfl rfl ?_ | refine dL5 hS 20 rfl rfl rfl ?_ | refine dL6 hS 20 rfl rfl rfl ?_ | refine dL7 hS 20 rfl rfl rfl ?_ | refine dQ hS 20 rfl rfl ?_
                  (try simp only [Act.put, nA, nB, nC])
                  first | refine dP hS 21 rfl rfl ?_ | refine dQ hS 21 rfl rfl ?_
                  (try simp only [Act.put, nA, nB, nC])
                  first | refine dP hS 22 rfl rfl ?_ | refine dQ hS 22 rfl rfl ?_
                  (try simp only [Act.put, nA, nB, nC])
                  first | refine dM hS 23 rfl rfl rfl ?_ | refine dQ hS 23 rfl rfl ?_
                  (try simp only [Act.put, nA, nB, nC])
                  first | refine dP hS 24 rfl rfl ?_ | refine dQ hS 24 rfl rfl ?_
                  (try simp only [Act.put, nA, nB, nC])
                  first | refine dL1 hS 25 rfl rfl rfl rfl ?_ | refine dL2 hS 25 rfl rfl rfl rfl ?_ | refine dL3 hS 25 rfl rfl rfl ?_ | refine dL4 hS 25 rfl rfl rfl ?_ | refine dL5 hS 25 rfl rfl rfl ?_ | refine dL6 hS 25 rfl rfl rfl ?_ | refine dL7 hS 25 rfl rfl rfl ?_ | refine dQ hS 25 rfl rfl ?_
                  (try simp only [Act.put, nA, nB, nC])
                  first | refine dP hS 26 rfl rfl ?_ | refine dQ hS 26 rfl rfl ?_
                  (try simp only [Act.put, nA, nB, nC])
                  first | refine dL1 hS 27 rfl rfl rfl rfl ?_ | refine dL2 hS 27 rfl rfl rfl rfl ?_ | refine dL3 hS 27 rfl rfl rfl ?_ | refine dL4 hS 27 rfl rfl rfl ?_ | refine dL5 hS 27 rfl rfl rfl ?_ | refine dL6 hS 27 rfl rfl rfl ?_ | refine dL7 hS 27 rfl rfl rfl ?_ | refine dQ hS 27 rfl rfl ?_
                  (try simp only [Act.put, nA, nB, nC])
                  first | refine dP hS 28 rfl rfl ?_ | refine dQ hS 28 rfl rfl ?_
                  (try simp only [Act.put, nA, nB, nC])
                  first | refine dM hS 29 rfl rfl rfl ?_ | refine dQ hS 29 rfl rfl ?_
                  (try simp only [Act.put, nA, nB, nC])
                  first | refine dM hS 30 rfl rfl rfl ?_ | refine dQ hS 30 rfl rfl ?_
                  (try simp only [Act.put, nA, nB, nC])
                  first | refine dP hS 31 rfl rfl ?_ | refine dQ hS 31 rfl rfl ?_
                  (try simp only [Act.put, nA, nB, nC])
                  first | refine dL1 hS 32 rfl rfl rfl rfl ?_ | refine dL2 hS 32 rfl rfl rfl rfl ?_ | refine dL3 hS 32 rfl rfl rfl ?_ | refine dL4 hS 32 rfl rfl rfl ?_ | refine dL5 hS 32 rfl rfl rfl ?_ | refine dL6 hS 32 rfl rfl rfl ?_ | refine dL7 hS 32 rfl rfl rfl ?_ | refine dQ hS 32 rfl rfl ?_
                  (try simp only [Act.put, nA, nB, nC])
                  first | refine dP hS 33 rfl rfl ?_ | refine dQ hS 33 rfl rfl ?_
                  (try simp only [Act.put, nA, nB, nC])
                  first | refine dL1 hS 34 rfl rfl rfl rfl ?_ | refine dL2 hS 34 rfl rfl rfl rfl ?_ | refine dL3 hS 34 rfl rfl rfl ?_ | refine dL4 hS 34 rfl rfl rfl ?_ | refine dL5 hS 34 rfl rfl rfl ?_ | refine dL6 hS 34 rfl rfl rfl ?_ | refine dL7 hS 34 rfl rfl rfl ?_ | refine dQ hS 34 rfl rfl ?_
                  (try simp only [Act.put, nA, nB, nC])
                  first | refine dP hS 35 rfl rfl ?_ | refine dQ hS 35 rfl rfl ?_
                  (try simp only [Act.put, nA, nB, nC])
                  first | refine dL1 hS 36 rfl rfl rfl rfl ?_ | refine dL2 hS 36 rfl rfl rfl rfl ?_ | refine dL3 hS 36 rfl rfl rfl ?_ | refine dL4 hS 36 rfl rfl rfl ?_ | refine dL5 hS 36 rfl rfl rfl ?_ | refine dL6 hS 36 rfl rfl rfl ?_ | refine dL7 hS 36 rfl rfl rfl ?_ | refine dQ hS 36 rfl rfl ?_
                  (try simp only [Act.put, nA, nB, nC])
                  first | refine dP hS 37 rfl rfl ?_ | refine dQ hS 37 rfl rfl ?_
                  (try simp only [Act.put, nA, nB, nC])
                  first | refine dL1 hS 38 rfl rfl rfl rfl ?_ | refine dL2 hS 38 rfl rfl rfl rfl ?_ | refine dL3 hS 38 rfl rfl rfl ?_ | refine dL4 hS 38 rfl rfl rfl ?_ | refine dL5 hS 38 rfl rfl rfl ?_ | refine dL6 hS 38 rfl rfl rfl ?_ | refine dL7 hS 38 rfl rfl rfl ?_ | refine dQ hS 38 rfl rfl ?_
                  (try simp only [Act.put, nA, nB, nC])
                  first | refine dP hS 39 rfl rfl ?_ | refine dQ hS 39 rfl rfl ?_
                  (try simp only [Act.put, nA, nB, nC])
                  first | refine dL1 hS 40 rfl rfl rfl rfl ?_ | refine dL2 hS 40 rfl rfl rfl rfl ?_ | refine dL3 hS 40 rfl rfl rfl ?_ | refine dL4 hS 40 rfl rfl rfl ?_ | refine dL5 hS 40 rfl rfl rfl ?_ | refine dL6 hS 40 rfl rfl rfl ?_ | refine dL7 hS 40 rfl rfl rfl ?_ | refine dQ hS 40 rfl rfl ?_
                  (try simp only [Act.put, nA, nB, nC])
                  first | refine dP hS 41 rfl rfl ?_ | refine dQ hS 41 rfl rfl ?_
                  (try simp only [Act.put, nA, nB, nC])
                  first | refine dL1 hS 42 rfl rfl rfl rfl ?_ | refine dL2 hS 42 rfl rfl rfl rfl ?_ | refine dL3 hS 42 rfl rfl rfl ?_ | refine dL4 hS 42 rfl rfl rfl ?_ | refine dL5 hS 42 rfl rfl rfl ?_ | refine dL6 hS 42 rfl rfl rfl ?_ | refine dL7 hS 42 rfl rfl rfl ?_ | refine dQ hS 42 rfl rfl ?_
                  (try simp only [Act.put, nA, nB, nC])
                  first | refine dP hS 43 rfl rfl ?_ | refine dQ hS 43 rfl rfl ?_
                  (try simp only [Act.put, nA, nB, nC])
                  first | refine dL1 hS 44 rfl rfl rfl rfl ?_ | refine dL2 hS 44 rfl rfl rfl rfl ?_ | refine dL3 hS 44 rfl rfl rfl ?_ | refine dL4 hS 44 rfl rfl rfl ?_ | refine dL5 hS 44 rfl rfl rfl ?_ | refine dL6 hS 44 rfl rfl rfl ?_ | refine dL7 hS 44 rfl rfl rfl ?_ | refine dQ hS 44 rfl rfl ?_
                  (try simp only [Act.put, nA, nB, nC])
                  first | refine dP hS 45 rfl rfl ?_ | refine dQ hS 45 rfl rfl ?_
                  (try simp only [Act.put, nA, nB, nC])
                  first | refine dP hS 46 rfl rfl ?_ | refine dQ hS 46 rfl rfl ?_
                  (try simp only [Act.put, nA, nB, nC])
                  first | refine dP hS 47 rfl rfl ?_ | refine dQ hS 47 rfl rfl ?_
                  (try simp only [Act.put, nA, nB, nC])
                  refine dP hS 48 rfl rfl ?_
                  (try simp only [Act.put, nA, nB, nC])
                  refine dr_done (by kernel_rfl) ?_
                  go_wp2_with (first | (refine oL ?_; (first | refine sL1 hS rfl rfl rfl ?_ | refine sL2 hS rfl rfl rfl ?_ | refine sL3 hS rfl rfl ?_ | refine sL4 hS rfl rfl ?_ | refine sL5 hS rfl rfl ?_ | refine sL6 hS rfl rfl ?_ | refine sL7 hS rfl rfl ?_)) | (refine oS ?_; ((first | refine sS1 hS rfl rfl rfl ?_ | refine sS2 hS rfl rfl rfl ?_ | refine sS3 hS rfl rfl rfl ?_ | refine sS4 hS rfl rfl rfl ?_ | refine sS5 hS rfl rfl rfl ?_); clear hS; intro w hS)) | ((first | (refine oB ?_; first | refine sB1 hS rfl rfl ?_ | refine sB2 hS rfl rfl ?_) | refine sN1 hS rfl ?_); clear hS; first | ((fail_if_success guard_hyp g1); intro g1 w hS) | ((fail_if_success guard_hyp g2); intro g2 w hS) | ((fail_if_success guard_hyp g3); intro g3 w hS) | ((fail_if_success guard_hyp g4); intro g4 w hS) | ((fail_if_success guard_hyp g5); intro g5 w hS) | fail) | fail)
                  go_ret
                  exact ⟨true, ⟨fun _ => HZ.out.1 ⟨ar, HMEM.out, HY.out⟩, fun _ => rfl⟩, rfl, hS.toExt⟩
                · have d5 : decide (ar.at_ ≤ cq) = false := decide_eq_false hle
                  have HY := Lib.hid (show ¬ SentP cl qa ar from fun h => by have := h.2.2; rw [HCQ.out] at this; exact hle this)
                  clear hfr hat htq hle
                  go_upto_region 12 with (first | (refine oL ?_; (first | refine sL1 hS rfl rfl rfl ?_ | refine sL2 hS rfl rfl rfl ?_ | refine sL3 hS rfl rfl ?_ | refine sL4 hS rfl rfl ?_ | refine sL5 hS rfl rfl ?_ | refine sL6 hS rfl rfl ?_ | refine sL7 hS rfl rfl ?_)) | (refine oS ?_; ((first | refine sS1 hS rfl rfl rfl ?_ | refine sS2 hS rfl rfl rfl ?_ | refine sS3 hS rfl rfl rfl ?_ | refine sS4 hS rfl rfl rfl ?_ | refine sS5 hS rfl rfl rfl ?_); clear hS; intro w hS)) | ((first | (refine oB ?_; first | refine sB1 hS rfl rfl ?_ | refine sB2 hS rfl rfl ?_) | refine sN1 hS rfl ?_); clear hS; first | ((fail_if_success guard_hyp g1); intro g1 w hS) | ((fail_if_success guard_hyp g2); intro g2 w hS) | ((fail_if_success guard_hyp g3); intro g3 w hS) | ((fail_if_success guard_hyp g4); intro g4 w hS) | ((fail_if_success guard_hyp g5); intro g5 w hS) | fail) | fail)
                  refine dr_start0 []  hS (by kernel_rfl) rfl ?_; clear hS; intro w hS
                  refine dP hS 0 rfl rfl ?_
                  (try simp only [Act.put, nA, nB, nC])
                  first | refine dL1 hS 1 rfl rfl rfl rfl ?_ | refine dL2 hS 1 rfl rfl rfl rfl ?_ | refine dL3 hS 1 rfl rfl rfl ?_ | refine dL4 hS 1 rfl rfl rfl ?_ | refine dL5 hS 1 rfl rfl rfl ?_ | refine dL6 hS 1 rfl rfl rfl ?_ | refine dL7 hS 1 rfl rfl rfl ?_
                  (try simp only [Act.put, nA, nB, nC])
                  refine dP hS 2 rfl rfl ?_
                  (try simp only [Act.put, nA, nB, nC])
                  first | refine dL1 hS 3 rfl rfl rfl rfl ?_ | refine dL2 hS 3 rfl rfl rfl rfl ?_ | refine dL3 hS 3 rfl rfl rfl ?_ | refine dL4 hS 3 rfl rfl rfl ?_ | refine dL5 hS 3 rfl rfl rfl ?_ | refine dL6 hS 3 rfl rfl rfl ?_ | refine dL7 hS 3 rfl rfl rfl ?_
                  (try simp only [Act.put, nA, nB, nC])
                  refine dP hS 4 rfl rfl ?_
                  (try simp only [Act.put, nA, nB, nC])
                  refine dM hS 5 rfl rfl rfl ?_
                  (try simp only [Act.put, nA, nB, nC])
                  first | refine dP hS 6 rfl rfl ?_ | refine dQ hS 6 rfl rfl ?_
                  (try simp only [Act.put, nA, nB, nC])
                  first | refine dL1 hS 7 rfl rfl rfl rfl ?_ | refine dL2 hS 7 rfl rfl rfl rfl ?_ | refine dL3 hS 7 rfl rfl rfl ?_ | refine dL4 hS 7 rfl rfl rfl ?_ | refine dL5 hS 7 rfl rfl rfl ?_ | refine dL6 hS 7 rfl rfl rfl ?_ | refine dL7 hS 7 rfl rfl rfl ?_ | refine dQ hS 7 rfl rfl ?_
                  (try simp only [Act.put, nA, nB, nC])
                  first | refine dP hS 8 rfl rfl ?_ | refine dQ hS 8 rfl rfl ?_
                  (try simp only [Act.put, nA, nB, nC])
                  refine dP hS 9 rfl rfl ?_
                  (try simp only [Act.put, nA, nB, nC])
                  refine dM hS 10 rfl rfl rfl ?_
                  (try simp only [Act.put, nA, nB, nC])
                  first | refine dP hS 11 rfl rfl ?_ | refine dQ hS 11 rfl rfl ?_
                  (try simp only [Act.put, nA, nB, nC])
                  first | refine dL1 hS 12 rfl rfl rfl rfl ?_ | refine dL2 hS 12 rfl rfl rfl rfl ?_ | refine dL3 hS 12 rfl rfl rfl ?_ | refine dL4 hS 12 rfl rfl rfl ?_ | refine dL5 hS 12 rfl rfl rfl ?_ | refine dL6 hS 12 rfl rfl rfl ?_ | refine dL7 hS 12 rfl rfl rfl ?_ | refine dQ hS 12 rfl rfl ?_
                  (try simp only [Act.put, nA, nB, nC])
                  first | refine dP hS 13 rfl rfl ?_ | refine dQ hS 13 rfl rfl ?_
                  (try simp only [Act.put, nA, nB, nC])
                  first | refine dL1 hS 14 rfl rfl rfl rfl ?_ | refine dL2 hS 14 rfl rfl rfl rfl ?_ | refine dL3 hS 14 rfl rfl rfl ?_ | refine dL4 hS 14 rfl rfl rfl ?_ | refine dL5 hS 14 rfl rfl rfl ?_ | refine dL6 hS 14 rfl rfl rfl ?_ | refine dL7 hS 14 rfl rfl rfl ?_ | refine dQ hS 14 rfl rfl ?_
                  (try simp only [Act.put, nA, nB, nC])
                  first | refine dP hS 15 rfl rfl ?_ | refine dQ hS 15 rfl rfl ?_
                  (try simp only [Act.put, nA, nB, nC])
                  first | refine dM hS 16 rfl rfl rfl ?_ | refine dQ hS 16 rfl rfl ?_
                  (try simp only [Act.put, nA, nB, nC])
                  first | refine dP hS 17 rfl rfl ?_ | refine dQ hS 17 rfl rfl ?_
                  (try simp only [Act.put, nA, nB, nC])
                  first | refine dL1 hS 18 rfl rfl rfl rfl ?_ | refine dL2 hS 18 rfl rfl rfl rfl ?_ | refine dL3 hS 18 rfl rfl rfl ?_ | refine dL4 hS 18 rfl rfl rfl ?_ | refine dL5 hS 18 rfl rfl rfl ?_ | refine dL6 hS 18 rfl rfl rfl ?_ | refine dL7 hS 18 rfl rfl rfl ?_ | refine dQ hS 18 rfl rfl ?_
                  (try simp only [Act.put, nA, nB, nC])
                  first | refine dP hS 19 rfl rfl ?_ | refine dQ hS 19 rfl rfl ?_
                  (try simp only [Act.put, nA, nB, nC])
                  first | refine dL1 hS 20 rfl rfl rfl rfl ?_ | refine dL2 hS 20 rfl rfl rfl rfl ?_ | refine dL3 hS 20 rfl rfl rfl ?_ | refine dL4 hS 20 rfl rfl rfl ?_ | refine dL5 hS 20 rfl rfl rfl ?_ | refine dL6 hS 20 rfl rfl rfl ?_ | refine dL7 hS 20 rfl rfl rfl ?_ | refine dQ hS 20 rfl rfl ?_
                  (try simp only [Act.put, nA, nB, nC])
                  first | refine dP hS 21 rfl rfl ?_ | refine dQ hS 21 rfl rfl ?_
                  (try simp only [Act.put, nA, nB, nC])
                  first | refine dP hS 22 rfl rfl ?_ | refine dQ hS 22 rfl rfl ?_
                  (try simp only [Act.put, nA, nB, nC])
                  first | refine dM hS 23 rfl rfl rfl ?_ | refine dQ hS 23 rfl rfl ?_
                  (try simp only [Act.put, nA, nB, nC])
                  first | refine dP hS 24 rfl rfl ?_ | refine dQ hS 24 rfl rfl ?_
                  (try simp only [Act.put, nA, nB, nC])
                  first | refine dL1 hS 25 rfl rfl rfl rfl ?_ | refine dL2 hS 25 rfl rfl rfl rfl ?_ | refine dL3 hS 25 rfl rfl rfl ?_ | refine dL4 hS 25 rfl rfl rfl ?_ | refine dL5 hS 25 rfl rfl rfl ?_ | refine dL6 hS 25 rfl rfl rfl ?_ | refine dL7 hS 25 rfl rfl rfl ?_ | refine dQ hS 25 rfl rfl ?_
                  (try simp only [Act.put, nA, nB, nC])
                  first | refine dP hS 26 rfl rfl ?_ | refine dQ hS 26 rfl rfl ?_
                  (try simp only [Act.put, nA, nB, nC])
                  first | refine dL1 hS 27 rfl rfl rfl rfl ?_ | refine dL2 hS 27 rfl rfl rfl rfl ?_ | refine dL3 hS 27 rfl rfl rfl ?_ | refine dL4 hS 27 rfl rfl rfl ?_ | refine dL5 hS 27 rfl rfl rfl ?_ | refine dL6 hS 27 rfl rfl rfl ?_ | refine dL7 hS 27 rfl rfl rfl ?_ | refine dQ hS 27 rfl rfl ?_
                  (try simp only [Act.put, nA, nB, nC])
                  first | refine dP hS 28 rfl rfl ?_ | refine dQ hS 28 rfl rfl ?_
                  (try simp only [Act.put, nA, nB, nC])
                  first | refine dM hS 29 rfl rfl rfl ?_ | refine dQ hS 29 rfl rfl ?_
                  (try simp only [Act.put, nA, nB, nC])
                  first | refine dM hS 30 rfl rfl rfl ?_ | refine dQ hS 30 rfl rfl ?_
                  (try simp only [Act.put, nA, nB, nC])
                  first | refine dP hS 31 rfl rfl ?_ | refine dQ hS 31 rfl rfl ?_
                  (try simp only [Act.put, nA, nB, nC])
                  first | refine dL1 hS 32 rfl rfl rfl rfl ?_ | refine dL2 hS 32 rfl rfl rfl rfl ?_ | refine dL3 hS 32 rfl rfl rfl ?_ | refine dL4 hS 32 rfl rfl rfl ?_ | refine dL5 hS 32 rfl rfl rfl ?_ | refine dL6 hS 32 rfl rfl rfl ?_ | refine dL7 hS 32 rfl rfl rfl ?_ | refine dQ hS 32 rfl rfl ?_
                  (try simp only [Act.put, nA, nB, nC])
                  first | refine dP hS 33 rfl rfl ?_ | refine dQ hS 33 rfl rfl ?_
                  (try simp only [Act.put, nA, nB, nC])
                  first | refine dL1 hS 34 rfl rfl rfl rfl ?_ | refine dL2 hS 34 rfl rfl rfl rfl ?_ | refine dL3 hS 34 rfl rfl rfl ?_ | refine dL4 hS 34 rfl rfl rfl ?_ | refine dL5 hS 34 rfl rfl rfl ?_ | refine dL6 hS 34 rfl rfl rfl ?_ | refine dL7 hS 34 rfl rfl rfl ?_ | refine dQ hS 34 rfl rfl ?_
                  (try simp only [Act.put, nA, nB, nC])
                  first | refine dP hS 35 rfl rfl ?_ | refine dQ hS 35 rfl rfl ?_
                  (try simp only [Act.put, nA, nB, nC])
                  first | refine dL1 hS 36 rfl rfl rfl rfl ?_ | refine dL2 hS 36 rfl rfl rfl rfl ?_ | refine dL3 hS 36 rfl rfl rfl ?_ | refine dL4 hS 36 rfl rfl rfl ?_ | refine dL5 hS 36 rfl rfl rfl ?_ | refine dL6 hS 36 rfl rfl rfl ?_ | refine dL7 hS 36 rfl rfl rfl ?_ | refine dQ hS 36 rfl rfl ?_
                  (try simp only [Act.put, nA, nB, nC])
                  first | refine dP hS 37 rfl rfl ?_ | refine dQ hS 37 rfl rfl ?_
                  (try simp only [Act.put, nA, nB, nC])
                  first | refine dL1 hS 38 rfl rfl rfl rfl ?_ | refine dL2 hS 38 rfl rfl rfl rfl ?_ | refine dL3 hS 38 rfl rfl rfl ?_ | refine dL4 hS 38 rfl rfl rfl ?_ | refine dL5 hS 38 rfl rfl rfl ?_ | refine dL6 hS 38 rfl rfl rfl ?_ | refine dL7 hS 38 rfl rfl rfl ?_ | refine dQ hS 38 rfl rfl ?_
                  (try simp only [Act.put, nA, nB, nC])
                  first | refine dP hS 39 rfl rfl ?_ | refine dQ hS 39 rfl rfl ?_
                  (try simp only [Act.put, nA, nB, nC])
                  first | refine dL1 hS 40 rfl rfl rfl rfl ?_ | refine dL2 hS 40 rfl rfl rfl rfl ?_ | refine dL3 hS 40 rfl rfl rfl ?_ | refine dL4 hS 40 rfl rfl rfl ?_ | refine dL5 hS 40 rfl rfl rfl ?_ | refine dL6 hS 40 rfl rfl rfl ?_ | refine dL7 hS 40 rfl rfl rfl ?_ | refine dQ hS 40 rfl rfl ?_
                  (try simp only [Act.put, nA, nB, nC])
                  first | refine dP hS 41 rfl rfl ?_ | refine dQ hS 41 rfl rfl ?_
                  (try simp only [Act.put, nA, nB, nC])
                  first | refine dL1 hS 42 rfl rfl rfl rfl ?_ | refine dL2 hS 42 rfl rfl rfl rfl ?_ | refine dL3 hS 42 rfl rfl rfl ?_ | refine dL4 hS 42 rfl rfl rfl ?_ | refine dL5 hS 42 rfl rfl rfl ?_ | refine dL6 hS 42 rfl rfl rfl ?_ | refine dL7 hS 42 rfl rfl rfl ?_ | refine dQ hS 42 rfl rfl ?_
                  (try simp only [Act.put, nA, nB, nC])
                  first | refine dP hS 43 rfl rfl ?_ | refine dQ hS 43 rfl rfl ?_
                  (try simp only [Act.put, nA, nB, nC])
                  first | refine dL1 hS 44 rfl rfl rfl rfl ?_ | refine dL2 hS 44 rfl rfl rfl rfl ?_ | refine dL3 hS 44 rfl rfl rfl ?_ | refine dL4 hS 44 rfl rfl rfl ?_ | refine dL5 hS 44 rfl rfl rfl ?_ | refine dL6 hS 44 rfl rfl rfl ?_ | refine dL7 hS 44 rfl rfl rfl ?_ | refine dQ hS 44 rfl rfl ?_
                  (try simp only [Act.put, nA, nB, nC])
                  first | refine dP hS 45 rfl rfl ?_ | refine dQ hS 45 rfl rfl ?_
                  (try simp only [Act.put, nA, nB, nC])
                  first | refine dP hS 46 rfl rfl ?_ | refine dQ hS 46 rfl rfl ?_
                  (try simp only [Act.put, nA, nB, nC])
                  first | refine dP hS 47 rfl rfl ?_ | refine dQ hS 47 rfl rfl ?_
                  (try simp only [Act.put, nA, nB, nC])
                  refine dP hS 48 rfl rfl ?_
                  (try simp only [Act.put, nA, nB, nC])
                  refine dr_done (by kernel_rfl) ?_
                  go_wp2_with (first | (refine oL ?_; (first | refine sL1 hS rfl rfl rfl ?_ | refine sL2 hS rfl rfl rfl ?_ | refine sL3 hS rfl rfl ?_ | refine sL4 hS rfl rfl ?_ | refine sL5 hS rfl rfl ?_ | refine sL6 hS rfl rfl ?_ | refine sL7 hS rfl rfl ?_)) | (refine oS ?_; ((first | refine sS1 hS rfl rfl rfl ?_ | refine sS2 hS rfl rfl rfl ?_ | refine sS3 hS rfl rfl rfl ?_ | refine sS4 hS rfl rfl rfl ?_ | refine sS5 hS rfl rfl rfl ?_); clear hS; intro w hS)) | ((first | (refine oB ?_; first | refine sB1 hS rfl rfl ?_ | refine sB2 hS rfl rfl ?_) | refine sN1 hS rfl ?_); clear hS; first | ((fail_if_success guard_hyp g1); intro g1 w hS) | ((fail_if_success guard_hyp g2); intro g2 w hS) | ((fail_if_success guard_hyp g3); intro g3 w hS) | ((fail_if_success guard_hyp g4); intro g4 w hS) | ((fail_if_success guard_hyp g5); intro g5 w hS) | fail) | fail)
                  go_roundw
                  case measure => simp [intOf]; omega
                  exact ⟨i + 1, by omega, by go_num, Lib.hid (HNX.out HY.out), hS.re⟩
            · have d3 : decide (0 < ar.at_) = false := decide_eq_false hat
              have HY := Lib.hid (show ¬ SentP cl qa ar from fun h => hat h.2.1)
              clear hfr hat
              go_upto_region 12 with (first | (refine oL ?_; (first | refine sL1 hS rfl rfl rfl ?_ | refine sL2 hS rfl rfl rfl ?_ | refine sL3 hS rfl rfl ?_ | refine sL4 hS rfl rfl ?_ | refine sL5 hS rfl rfl ?_ | refine sL6 hS rfl rfl ?_ | refine sL7 hS rfl rfl ?_)) | (refine oS ?_; ((first | refine sS1 hS rfl rfl rfl ?_ | refine sS2 hS rfl rfl rfl ?_ | refine sS3 hS rfl rfl rfl ?_ | refine sS4 hS rfl rfl rfl ?_ | refine sS5 hS rfl rfl rfl ?_); clear hS; intro w hS)) | ((first | (refine oB ?_; first | refine sB1 hS rfl rfl ?_ | refine sB2 hS rfl rfl ?_) | refine sN1 hS rfl ?_); clear hS; first | ((fail_if_success guard_hyp g1); intro g1 w hS) | ((fail_if_success guard_hyp g2); intro g2 w hS) | ((fail_if_success guard_hyp g3); intro g3 w hS) | ((fail_if_success guard_hyp g4); intro g4 w hS) | ((fail_if_success guard_hyp g5); intro g5 w hS) | fail) | fail)
              refine dr_start0 []  hS (by kernel_rfl) rfl ?_; clear hS; intro w hS
              refine dP hS 0 rfl rfl ?_
              (try simp only [Act.put, nA, nB, nC])
              first | refine dL1 hS 1 rfl rfl rfl rfl ?_ | refine dL2 hS 1 rfl rfl rfl rfl ?_ | refine dL3 hS 1 rfl rfl rfl ?_ | refine dL4 hS 1 rfl rfl rfl ?_ | refine dL5 hS 1 rfl rfl rfl ?_ | refine dL6 hS 1 rfl rfl rfl ?_ | refine dL7 hS 1 rfl rfl rfl ?_
              (try simp only [Act.put, nA, nB, nC])
              refine dP hS 2 rfl rfl ?_
              (try simp only [Act.put, nA, nB, nC])
              first | refine dL1 hS 3 rfl rfl rfl rfl ?_ | refine dL2 hS 3 rfl rfl rfl rfl ?_ | refine dL3 hS 3 rfl rfl rfl ?_ | refine dL4 hS 3 rfl rfl rfl ?_ | refine dL5 hS 3 rfl rfl rfl ?_ | refine dL6 hS 3 rfl rfl rfl ?_ | refine dL7 hS 3 rfl rfl rfl ?_
              (try simp only [Act.put, nA, nB, nC])
              refine dP hS 4 rfl rfl ?_
              (try simp only [Act.put, nA, nB, nC])
              refine dM hS 5 rfl rfl rfl ?_
              (try simp only [Act.put, nA, nB, nC])
              first | refine dP hS 6 rfl rfl ?_ | refine dQ hS 6 rfl rfl ?_
              (try simp only [Act.put, nA, nB, nC])
              first | refine dL1 hS 7 rfl rfl rfl rfl ?_ | refine dL2 hS 7 rfl rfl rfl rfl ?_ | refine dL3 hS 7 rfl rfl rfl ?_ | refine dL4 hS 7 rfl rfl rfl ?_ | refine dL5 hS 7 rfl rfl rfl ?_ | refine dL6 hS 7 rfl rfl rfl ?_ | refine dL7 hS 7 rfl rfl rfl ?_ | refine dQ hS 7 rfl rfl ?_
              (try simp only [Act.put, nA, nB, nC])
              first | refine dP hS 8 rfl rfl ?_ | refine dQ hS 8 rfl rfl ?_
              (try simp only [Act.put, nA, nB, nC])
              refine dP hS 9 rfl rfl ?_
              (try simp only [Act.put, nA, nB, nC])
              refine dM hS 10 rfl rfl rfl ?_
              (try simp only [Act.put, nA, nB, nC])
              first | refine dP hS 11 rfl rfl ?_ | refine dQ hS 11 rfl rfl ?_
              (try simp only [Act.put, nA, nB, nC])
              first | refine dL1 hS 12 rfl rfl rfl rfl ?_ | refine dL2 hS 12 rfl rfl rfl rfl ?_ | refine dL3 hS 12 rfl rfl rfl ?_ | refine dL4 hS 12 rfl rfl rfl ?_ | refine dL5 hS 12 rfl rfl rfl ?_ | refine dL6 hS 12 rfl rfl rfl ?_ | refine dL7 hS 12 rfl rfl rfl ?_ | refine dQ hS 12 rfl rfl ?_
              (try simp only [Act.put, nA, nB, nC])
              first | refine dP hS 13 rfl rfl ?_ | refine dQ hS 13 rfl rfl ?_
              (try simp only [Act.put, nA, nB, nC])
              first | refine dL1 hS 14 rfl rfl rfl rfl ?_ | refine dL2 hS 14 rfl rfl rfl rfl ?_ | refine dL3 hS 14 rfl rfl rfl ?_ | refine dL4 hS 14 rfl rfl rfl ?_ | refine dL5 hS 14 rfl rfl rfl ?_ | refine dL6 hS 14 rfl rfl rfl ?_ | refine dL7 hS 14 rfl rfl rfl ?_ | refine dQ hS 14 rfl rfl ?_
              (try simp only [Act.put, nA, nB, nC])
              first | refine dP hS 15 rfl rfl ?_ | refine dQ hS 15 rfl rfl ?_
              (try simp only [Act.put, nA, nB, nC])
              first | refine dM hS 16 rfl rfl rfl ?_ | refine dQ hS 16 rfl rfl ?_
              (try simp only [Act.put, nA, nB, nC])
              first | refine dP hS 17 rfl rfl ?_ | refine dQ hS 17 rfl rfl ?_
              (try simp only [Act.put, nA, nB, nC])
              first | refine dL1 hS 18 rfl rfl rfl rfl ?_ | refine dL2 hS 18 rfl rfl rfl rfl ?_ | refine dL3 hS 18 rfl rfl rfl ?_ | refine dL4 hS 18 rfl rfl rfl ?_ | refine dL5 hS 18 rfl rfl rfl ?_ | refine dL6 hS 18 rfl rfl rfl ?_ | refine dL7 hS 18 rfl rfl rfl ?_ | refine dQ hS 18 rfl rfl ?_
              (try simp only [Act.put, nA, nB, nC])
              first | refine dP hS 19 rfl rfl ?_ | refine dQ hS 19 rfl rfl ?_
              (try simp only [Act.put, nA, nB, nC])
              first | refine dL1 hS 20 rfl rfl rfl rfl ?_ | refine dL2 hS 20 rfl rfl rfl rfl ?_ | refine dL3 hS 20 rfl rfl rfl ?_ | refine dL4 hS 20 rfl rfl rfl ?_ | refine dL5 hS 20 rfl rfl rfl ?_ | refine dL6 hS 20 rfl rfl rfl ?_ | refine dL7 hS 20 rfl rfl rfl ?_ | refine dQ hS 20 rfl rfl ?_
              (try simp only [Act.put, nA, nB, nC])
              first | refine dP hS 21 rfl rfl ?_ | refine dQ hS 21 rfl rfl ?_
              (try simp only [Act.put, nA, nB, nC])
              first | refine dP hS 22 rfl rfl ?_ | refine dQ hS 22 rfl rfl ?_
              (try simp only [Act.put, nA, nB, nC])
              first | refine dM hS 23 rfl rfl rfl ?_ | refine dQ hS 23 rfl rfl ?_
              (try simp only [Act.put, nA, nB, nC])
              first | refine dP hS 24 rfl rfl ?_ | refine dQ hS 24 rfl rfl ?_
              (try simp only [Act.put, nA, nB, nC])
              first | refine dL1 hS 25 rfl rfl rfl rfl ?_ | refine dL2 hS 25 rfl rfl rfl rfl ?_ | refine dL3 hS 25 rfl rfl rfl ?_ | refine dL4 hS 25 rfl rfl rfl ?_ | refine dL5 hS 25 rfl rfl rfl ?_ | refine dL6 hS 25 rfl rfl rfl ?_ | refine dL7 hS 25 rfl rfl rfl ?_ | refine dQ hS 25 rfl rfl ?_
              (try simp only [Act.put, nA, nB, nC])
              first | refine dP hS 26 rfl rfl ?_ | refine dQ hS 26 rfl rfl ?_
              (try simp only [Act.put, nA, nB, nC])
              first | refine dL1 hS 27 rfl rfl rfl rfl ?_ | refine dL2 hS 27 rfl rfl rfl rfl ?_ | refine dL3 hS 27 rfl rfl rfl ?_ | refine dL4 hS 27 rfl rfl rfl ?_ | refine dL5 hS 27 rfl rfl rfl ?_ | refine dL6 hS 27 rfl rfl rfl ?_ | refine dL7 hS 27 rfl rfl rfl ?_ | refine dQ hS 27 rfl rfl ?_
              (try simp only [Act.put, nA, nB, nC])
              first | refine dP hS 28 rfl rfl ?_ | refine dQ hS 28 rfl rfl ?_
              (try simp only [Act.put, nA, nB, nC])
              first | refine dM hS 29 rfl rfl rfl ?_ | refine dQ hS 29 rfl rfl ?_
              (try simp only [Act.put, nA, nB, nC])
              first | refine dM hS 30 rfl rfl rfl ?_ | refine dQ hS 30 rfl rfl ?_
              (try simp only [Act.put, nA, nB, nC])
              first | refine dP hS 31 rfl rfl ?_ | refine dQ hS 31 rfl rfl ?_
              (try simp only [Act.put, nA, nB, nC])
              first | refine dL1 hS 32 rfl rfl rfl rfl ?_ | refine dL2 hS 32 rfl rfl rfl rfl ?_ | refine dL3 hS 32 rfl rfl rfl ?_ | refine dL4 hS 32 rfl rfl rfl ?_ | refine dL5 hS 32 rfl rfl rfl ?_ | refine dL6 hS 32 rfl rfl rfl ?_ | refine dL7 hS 32 rfl rfl rfl ?_ | refine dQ hS 32 rfl rfl ?_
              (try simp only [Act.put, nA, nB, nC])
              first | refine dP hS 33 rfl rfl ?_ | refine dQ hS 33 rfl rfl ?_
              (try simp only [Act.put, nA, nB, nC])
              first | refine dL1 hS 34 rfl rfl rfl rfl ?_ | refine dL2 hS 34 rfl rfl rfl rfl ?_ | refine dL3 hS 34 rfl rfl rfl ?_ | refine dL4 hS 34 rfl rfl rfl ?_ | refine dL5 hS 34 rfl rfl rfl ?_ | refine dL6 hS 34 rfl rfl rfl ?_ | refine dL7 hS 34 rfl rfl rfl ?_ | refine dQ hS 34 rfl rfl ?_
              (try simp only [Act.put, nA, nB, nC])
              first | refine dP hS 35 rfl rfl ?_ | refine dQ hS 35 rfl rfl ?_
              (try simp only [Act.put, nA, nB, nC])
              first | refine dL1 hS 36 rfl rfl rfl rfl ?_ | refine dL2 hS 36 rfl rfl rfl rfl ?_ | refine dL3 hS 36 rfl rfl rfl ?_ | refine dL4 hS 36 rfl rfl rfl ?_ | refine dL5 hS 36 rfl rfl rfl ?_ | refine dL6 hS 36 rfl rfl rfl ?_ | refine dL7 hS 36 rfl rfl rfl ?_ | refine dQ hS 36 rfl rfl ?_
              (try simp only [Act.put, nA, nB, nC])
              first | refine dP hS 37 rfl rfl ?_ | refine dQ hS 37 rfl rfl ?_
              (try simp only [Act.put, nA, nB, nC])
              first | refine dL1 hS 38 rfl rfl rfl rfl ?_ | refine dL2 hS 38 rfl rfl rfl rfl ?_ | refine dL3 hS 38 rfl rfl rfl ?_ | refine dL4 hS 38 rfl rfl rfl ?_ | refine dL5 hS 38 rfl rfl rfl ?_ | refine dL6 hS 38 rfl rfl rfl ?_ | refine dL7 hS 38 rfl rfl rfl ?_ | refine dQ hS 38 rfl rfl ?_
              (try simp only [Act.put, nA, nB, nC])
              first | refine dP hS 39 rfl rfl ?_ | refine dQ hS 39 rfl rfl ?_
              (try simp only [Act.put, nA, nB, nC])
              first | refine dL1 hS 40 rfl rfl rfl rfl ?_ | refine dL2 hS 40 rfl rfl rfl rfl ?_ | refine dL3 hS 40 rfl rfl rfl ?_ | refine dL4 hS 40 rfl rfl rfl ?_ | refine dL5 hS 40 rfl rfl rfl ?_ | refine dL6 hS 40 rfl rfl rfl ?_ | refine dL7 hS 40 rfl rfl rfl ?_ | refine dQ hS 40 rfl rfl ?_
              (try simp only [Act.put, nA, nB, nC])
              first | refine dP hS 41 rfl rfl ?_ | refine dQ hS 41 rfl rfl ?_
              (try simp only [Act.put, nA, nB, nC])
              first | refine dL1 hS 42 rfl rfl rfl rfl ?_ | refine dL2 hS 42 rfl rfl rfl rfl ?_ | refine dL3 hS 42 rfl rfl rfl ?_ | refine dL4 hS 42 rfl rfl rfl ?_ | refine dL5 hS 42 rfl rfl rfl ?_ | refine dL6 hS 42 rfl rfl rfl ?_ | refine dL7 hS 42 rfl rfl rfl ?_ | refine dQ hS 42 rfl rfl ?_
              (try simp only [Act.put, nA, nB, nC])
              first | refine dP hS 43 rfl rfl ?_ | refine dQ hS 43 rfl rfl ?_
              (try simp only [Act.put, nA, nB, nC])
              first | refine dL1 hS 44 rfl rfl rfl rfl ?_ | refine dL2 hS 44 rfl rfl rfl rfl ?_ | refine dL3 hS 44 rfl rfl rfl ?_ | refine dL4 hS 44 rfl rfl rfl ?_ | refine dL5 hS 44 rfl rfl rfl ?_ | refine dL6 hS 44 rfl rfl rfl ?_ | refine dL7 hS 44 rfl rfl rfl ?_ | refine dQ hS 44 rfl rfl ?_
              (try simp only [Act.put, nA, nB, nC])
              first | refine dP hS 45 rfl rfl ?_ | refine dQ hS 45 rfl rfl ?_
              (try simp only [Act.put, nA, nB, nC])
              first | refine dP hS 46 rfl rfl ?_ | refine dQ hS 46 rfl rfl ?_
              (try simp only [Act.put, nA, nB, nC])
              first | refine dP hS 47 rfl rfl ?_ | refine dQ hS 47 rfl rfl ?_
              (try simp only [Act.put, nA, nB, nC])
              refine dP hS 48 rfl rfl ?_
              (try simp only [Act.put, nA, nB, nC])
              refine dr_done (by kernel_rfl) ?_
              go_wp2_with (first | (refine oL ?_; (first | refine sL1 hS rfl rfl rfl ?_ | refine sL2 hS rfl rfl rfl ?_ | refine sL3 hS rfl rfl ?_ | refine sL4 hS rfl rfl ?_ | refine sL5 hS rfl rfl ?_ | refine sL6 hS rfl rfl ?_ | refine sL7 hS rfl rfl ?_)) | (refine oS ?_; ((first | refine sS1 hS rfl rfl rfl ?_ | refine sS2 hS rfl rfl rfl ?_ | refine sS3 hS rfl rfl rfl ?_ | refine sS4 hS rfl rfl rfl ?_ | refine sS5 hS rfl rfl rfl ?_); clear hS; intro w hS)) | ((first | (refine oB ?_; first | refine sB1 hS rfl rfl ?_ | refine sB2 hS rfl rfl ?_) | refine sN1 hS rfl ?_); clear hS; first | ((fail_if_success guard_hyp g1); intro g1 w hS) | ((fail_if_success guard_hyp g2); intro g2 w hS) | ((fail_if_success guard_hyp g3); intro g3 w hS) | ((fail_if_success guard_hyp g4); intro g4 w hS) | ((fail_if_success guard_hyp g5); intro g5 w hS) | fail) | fail)
              go_roundw
              case measure => simp [intOf]; omega
              exact ⟨i + 1, by omega, by go_num, Lib.hid (HNX.out HY.out), hS.re⟩
          · have e3 : ((ar.fr : Int) == (qa : Int)) = false := by simp; omega
            have HY := Lib.hid (show ¬ SentP cl qa ar from fun h => hfr h.1)
            clear hfr
            go_upto_region 12 with (first | (refine oL ?_; (first | refine sL1 hS rfl rfl rfl ?_ | refine sL2 hS rfl rfl rfl ?_ | refine sL3 hS rfl rfl ?_ | refine sL4 hS rfl rfl ?_ | refine sL5 hS rfl rfl ?_ | refine sL6 hS rfl rfl ?_ | refine sL7 hS rfl rfl ?_)) | (refine oS ?_; ((first | refine sS1 hS rfl rfl rfl ?_ | refine sS2 hS rfl rfl rfl ?_ | refine sS3 hS rfl rfl rfl ?_ | refine sS4 hS rfl rfl rfl ?_ | refine sS5 hS rfl rfl rfl ?_); clear hS; intro w hS)) | ((first | (refine oB ?_; first | refine sB1 hS rfl rfl ?_ | refine sB2 hS rfl rfl ?_) | refine sN1 hS rfl ?_); clear hS; first | ((fail_if_success guard_hyp g1); intro g1 w hS) | ((fail_if_success guard_hyp g2); intro g2 w hS) | ((fail_if_success guard_hyp g3); intro g3 w hS) | ((fail_if_success guard_hyp g4); intro g4 w hS) | ((fail_if_success guard_hyp g5); intro g5 w hS) | fail) | fail)
            refine dr_start0 []  hS (by kernel_rfl) rfl ?_; clear hS; intro w hS
            refine dP hS 0 rfl rfl ?_
            (try simp only [Act.put, nA, nB, nC])
            first | refine dL1 hS 1 rfl rfl rfl rfl ?_ | refine dL2 hS 1 rfl rfl rfl rfl ?_ | refine dL3 hS 1 rfl rfl rfl ?_ | refine dL4 hS 1 rfl rfl rfl ?_ | refine dL5 hS 1 rfl rfl rfl ?_ | refine dL6 hS 1 rfl rfl rfl ?_ | refine dL7 hS 1 rfl rfl rfl ?_
            (try simp only [Act.put, nA, nB, nC])
            refine dP hS 2 rfl rfl ?_
            (try simp only [Act.put, nA, nB, nC])
            first | refine dL1 hS 3 rfl rfl rfl rfl ?_ | refine dL2 hS 3 rfl rfl rfl rfl ?_ | refine dL3 hS 3 rfl rfl rfl ?_ | refine dL4 hS 3 rfl rfl rfl ?_ | refine dL5 hS 3 rfl rfl rfl ?_ | refine dL6 hS 3 rfl rfl rfl ?_ | refine dL7 hS 3 rfl rfl rfl ?_
            (try simp only [Act.put, nA, nB, nC])
            refine dP hS 4 rfl rfl ?_
            (try simp only [Act.put, nA, nB, nC])
            refine dM hS 5 rfl rfl rfl ?_
            (try simp only [Act.put, nA, nB, nC])
            first | refine dP hS 6 rfl rfl ?_ | refine dQ hS 6 rfl rfl ?_
            (try simp only [Act.put, nA, nB, nC])
            first | refine dL1 hS 7 rfl rfl rfl rfl ?_ | refine dL2 hS 7 rfl rfl rfl rfl ?_ | refine dL3 hS 7 rfl rfl rfl ?_ | refine dL4 hS 7 rfl rfl rfl ?_ | refine dL5 hS 7 rfl rfl rfl ?_ | refine dL6 hS 7 rfl rfl rfl ?_ | refine dL7 hS 7 rfl rfl rfl ?_ | refine dQ hS 7 rfl rfl ?_
            (try simp only [Act.put, nA, nB, nC])
            first | refine dP hS 8 rfl rfl ?_ | refine dQ hS 8 rfl rfl ?_
            (try simp only [Act.put, nA, nB, nC])
            refine dP hS 9 rfl rfl ?_
            (try simp only [Act.put, nA, nB, nC])
            refine dM hS 10 rfl rfl rfl ?_
            (try simp only [Act.put, nA, nB, nC])
            first | refine dP hS 11 rfl rfl ?_ | refine dQ hS 11 rfl rfl ?_
            (try simp only [Act.put, nA, nB, nC])
            first | refine dL1 hS 12 rfl rfl rfl rfl ?_ | refine dL2 hS 12 rfl rfl rfl rfl ?_ | refine dL3 hS 12 rfl rfl rfl ?_ | refine dL4 hS 12 rfl rfl rfl ?_ | refine dL5 hS 12 rfl rfl rfl ?_ | refine dL6 hS 12 rfl rfl rfl ?_ | refine dL7 hS 12 rfl rfl rfl ?_ | refine dQ hS 12 rfl rfl ?_
            (try simp only [Act.put, nA, nB, nC])
            first | refine dP hS 13 rfl rfl ?_ | refine dQ hS 13 rfl rfl ?_
            (try simp only [Act.put, nA, nB, nC])
            first | refine dL1 hS 14 rfl rfl rfl rfl ?_ | refine dL2 hS 14 rfl rfl rfl rfl ?_ | refine dL3 hS 14 rfl rfl rfl ?_ | refine dL4 hS 14 rfl rfl rfl ?_ | refine dL5 hS 14 rfl rfl rfl ?_ | refine dL6 hS 14 rfl rfl rfl ?_ | refine dL7 hS 14 rfl rfl rfl ?_ | refine dQ hS 14 rfl rfl ?_
            (try simp only [Act.put, nA, nB, nC])
            first | refine dP hS 15 rfl rfl ?_ | refine dQ hS 15 rfl rfl ?_
            (try simp only [Act.put, nA, nB, nC])
            first | refine dM hS 16 rfl rfl rfl ?_ | refine dQ hS 16 rfl rfl ?_
            (try simp only [Act.put, nA, nB, nC])
            first | refine dP hS 17 rfl rfl ?_ | refine dQ hS 17 rfl rfl ?_
            (try simp only [Act.put, nA, nB, nC])
            first | refine dL1 hS 18 rfl rfl rfl rfl ?_ | refine dL2 hS 18 rfl rfl rfl rfl ?_ | refine dL3 hS 18 rfl rfl rfl ?_ | refine dL4 hS 18 rfl rfl rfl ?_ | refine dL5 hS 18 rfl rfl rfl ?_ | refine dL6 hS 18 rfl rfl rfl ?_ | refine dL7 hS 18 rfl rfl rfl ?_ | refine dQ hS 18 rfl rfl ?_
            (try simp only [Act.put, nA, nB, nC])
            first | refine dP hS 19 rfl rfl ?_ | refine dQ hS 19 rfl rfl ?_
            (try simp only [Act.put, nA, nB, nC])
            first | refine dL1 hS 20 rfl rfl rfl rfl ?_ | refine dL2 hS 20 rfl rfl rfl rfl ?_ | refine dL3 hS 20 rfl rfl rfl ?_ | refine dL4 hS 20 rfl rfl rfl ?_ | refine dL5 hS 20 rfl rfl rfl ?_ | refine dL6 hS 20 rfl rfl rfl ?_ | refine dL7 hS 20 rfl rfl rfl ?_ | refine dQ hS 20 rfl rfl ?_
            (try simp only [Act.put, nA, nB, nC])
            first | refine dP hS 21 rfl rfl ?_ | refine dQ hS 21 rfl rfl ?_
            (try simp only [Act.put, nA, nB, nC])
            first | refine dP hS 22 rfl rfl ?_ | refine dQ hS 22 rfl rfl ?_
            (try simp only [Act.put, nA, nB, nC])
            first | refine dM hS 23 rfl rfl rfl ?_ | refine dQ hS 23 rfl rfl ?_
            (try simp only [Act.put, nA, nB, nC])
            first | refine dP hS 24 rfl rfl ?_ | refine dQ hS 24 rfl rfl ?_
            (try simp only [Act.put, nA, nB, nC])
            first | refine dL1 hS 25 rfl rfl rfl rfl ?_ | refine dL2 hS 25 rfl rfl rfl rfl ?_ | refine dL3 hS 25 rfl rfl rfl ?_ | refine dL4 hS 25 rfl rfl rfl ?_ | refine dL5 hS 25 rfl rfl rfl ?_ | refine dL6 hS 25 rfl rfl rfl ?_ | refine dL7 hS 25 rfl rfl rfl ?_ | refine dQ hS 25 rfl rfl ?_
            (try simp only [Act.put, nA, nB, nC])
            first | refine dP hS 26 rfl rfl ?_ | refine dQ hS 26 rfl rfl ?_
            (try simp only [Act.put, nA, nB, nC])
            first | refine dL1 hS 27 rfl rfl rfl rfl ?_ | refine dL2 hS 27 rfl rfl rfl rfl ?_ | refine dL3 hS 27 rfl rfl rfl ?_ | refine dL4 hS 27 rfl rfl rfl ?_ | refine dL5 hS 27 rfl rfl rfl ?_ | refine dL6 hS 27 rfl rfl rfl ?_ | refine dL7 hS 27 rfl rfl rfl ?_ | refine dQ hS 27 rfl rfl ?_
            (try simp only [Act.put, nA, nB, nC])
            first | refine dP hS 28 rfl rfl ?_ | refine dQ hS 28 rfl rfl ?_
            (try simp only [Act.put, nA, nB, nC])
            first | refine dM hS 29 rfl rfl rfl ?_ | refine dQ hS 29 rfl rfl ?_
            (try simp only [Act.put, nA, nB, nC])
            first | refine dM hS 30 rfl rfl rfl ?_ | refine dQ hS 30 rfl rfl ?_
            (try simp only [Act.put, nA, nB, nC])
            first | refine dP hS 31 rfl rfl ?_ | refine dQ hS 31 rfl rfl ?_
            (try simp only [Act.put, nA, nB, nC])
            first | refine dL1 hS 32 rfl rfl rfl rfl ?_ | refine dL2 hS 32 rfl rfl rfl rfl ?_ | refine dL3 hS 32 rfl rfl rfl ?_ | refine dL4 hS 32 rfl rfl rfl ?_ | refine dL5 hS 32 rfl rfl rfl ?_ | refine dL6 hS 32 rfl rfl rfl ?_ | refine dL7 hS 32 rfl rfl rfl ?_ | refine dQ hS 32 rfl rfl ?_
            (try simp only [Act.put, nA, nB, nC])
            first | refine dP hS 33 rfl rfl ?_ | refine dQ hS 33 rfl rfl ?_
            (try simp only [Act.put, nA, nB, nC])
            first | refine dL1 hS 34 rfl rfl rfl rfl ?_ | refine dL2 hS 34 rfl rfl rfl rfl ?_ | refine dL3 hS 34 rfl rfl rfl ?_ | refine dL4 hS 34 rfl rfl rfl ?_ | refine dL5 hS 34 rfl rfl rfl ?_ | refine dL6 hS 34 rfl rfl rfl ?_ | refine dL7 hS 34 rfl rfl rfl ?_ | refine dQ hS 34 rfl rfl ?_
            (try simp only [Act.put, nA, nB, nC])
            first | refine dP hS 35 rfl rfl ?_ | refine dQ hS 35 rfl rfl ?_
            (try simp only [Act.put, nA, nB, nC])
            first | refine dL1 hS 36 rfl rfl rfl rfl ?_ | refine dL2 hS 36 rfl rfl rfl rfl ?_ | refine dL3 hS 36 rfl rfl rfl ?_ | refine dL4 hS 36 rfl rfl rfl ?_ | refine dL5 hS 36 rfl rfl rfl ?_ | refine dL6 hS 36 rfl rfl rfl ?_ | refine dL7 hS 36 rfl rfl rfl ?_ | refine dQ hS 36 rfl rfl ?_
            (try simp only [Act.put, nA, nB, nC])
            first | refine dP hS 37 rfl rfl ?_ | refine dQ hS 37 rfl rfl ?_
            (try simp only [Act.put, nA, nB, nC])
            first | refine dL1 hS 38 rfl rfl rfl rfl ?_ | refine dL2 hS 38 rfl rfl rfl rfl ?_ | refine dL3 hS 38 rfl rfl rfl ?_ | refine dL4 hS 38 rfl rfl rfl ?_ | refine dL5 hS 38 rfl rfl rfl ?_ | refine dL6 hS 38 rfl rfl rfl ?_ | refine dL7 hS 38 rfl rfl rfl ?_ | refine dQ hS 38 rfl rfl ?_
            (try simp only [Act.put, nA, nB, nC])
            first | refine dP hS 39 rfl rfl ?_ | refine dQ hS 39 rfl rfl ?_
            (try simp only [Act.put, nA, nB, nC])
            first | refine dL1 hS 40 rfl rfl rfl rfl ?_ | refine dL2 hS 40 rfl rfl rfl rfl ?_ | refine dL3 hS 40 rfl rfl rfl ?_ | refine dL4 hS 40 rfl rfl rfl ?_ | refine dL5 hS 40 rfl rfl rfl ?_ | refine dL6 hS 40 rfl rfl rfl ?_ | refine dL7 hS 40 rfl rfl rfl ?_ | refine dQ hS 40 rfl rfl ?_
            (try simp only [Act.put, nA, nB, nC])
            first | refine dP hS 41 rfl rfl ?_ | refine dQ hS 41 rfl rfl ?_
            (try simp only [Act.put, nA, nB, nC])
            first | refine dL1 hS 42 rfl rfl rfl rfl ?_ | refine dL2 hS 42 rfl rfl rfl rfl ?_ | refine dL3 hS 42 rfl rfl rfl ?_ | refine dL4 hS 42 rfl rfl rfl ?_ | refine dL5 hS 42 rfl rfl rfl ?_ | refine dL6 hS 42 rfl rfl rfl ?_ | refine dL7 hS 42 rfl rfl rfl ?_ | refine dQ hS 42 rfl rfl ?_
            (try simp only [Act.put, nA, nB, nC])
            first | refine dP hS 43 rfl rfl ?_ | refine dQ hS 43 rfl rfl ?_
            (try simp only [Act.put, nA, nB, nC])
            first | refine dL1 hS 44 rfl rfl rfl rfl ?_ | refine dL2 hS 44 rfl rfl rfl rfl ?_ | refine dL3 hS 44 rfl rfl rfl ?_ | refine dL4 hS 44 rfl rfl rfl ?_ | refine dL5 hS 44 rfl rfl rfl ?_ | refine dL6 hS 44 rfl rfl rfl ?_ | refine dL7 hS 44 rfl rfl rfl ?_ | refine dQ hS 44 rfl rfl ?_
            (try simp only [Act.put, nA, nB, nC])
            first | refine dP hS 45 rfl rfl ?_ | refine dQ hS 45 rfl rfl ?_
            (try simp only [Act.put, nA, nB, nC])
            first | refine dP hS 46 rfl rfl ?_ | refine dQ hS 46 rfl rfl ?_
            (try simp only [Act.put, nA, nB, nC])
            first | refine dP hS 47 rfl rfl ?_ | refine dQ hS 47 rfl rfl ?_
            (try simp only [Act.put, nA, nB, nC])
            refine dP hS 48 rfl rfl ?_
            (try simp only [Act.put, nA, nB, nC])
            refine dr_done (by kernel_rfl) ?_
            go_wp2_with (first | (refine oL ?_; (first | refine sL1 hS rfl rfl rfl ?_ | refine sL2 hS rfl rfl rfl ?_ | refine sL3 hS rfl rfl ?_ | refine sL4 hS rfl rfl ?_ | refine sL5 hS rfl rfl ?_ | refine sL6 hS rfl rfl ?_ | refine sL7 hS rfl rfl ?_)) | (refine oS ?_; ((first | refine sS1 hS rfl rfl rfl ?_ | refine sS2 hS rfl rfl rfl ?_ | refine sS3 hS rfl rfl rfl ?_ | refine sS4 hS rfl rfl rfl ?_ | refine sS5 hS rfl rfl rfl ?_); clear hS; intro w hS)) | ((first | (refine oB ?_; first | refine sB1 hS rfl rfl ?_ | refine sB2 hS rfl rfl ?_) | refine sN1 hS rfl ?_); clear hS; first | ((fail_if_success guard_hyp g1); intro g1 w hS) | ((fail_if_success guard_hyp g2); intro g2 w hS) | ((fail_if_success guard_hyp g3); intro g3 w hS) | ((fail_if_success guard_hyp g4); intro g4 w hS) | ((fail_if_success guard_hyp g5); intro g5 w hS) | fail) | fail)
            go_roundw
            case measure => simp [intOf]; omega
            exact ⟨i + 1, by omega, by go_num, Lib.hid (HNX.out HY.out), hS.re⟩
        · have hie : p.arcs.take i = p.arcs := List.take_of_length_le (by omega)
          have HN := Lib.hid (show ∀ r ∈ p.arcs, ¬ SentP cl qa r by rw [← hie]; exact HI.out)
          clear hie
          go_wp2_with (first | (refine oL ?_; (first | refine sL1 hS rfl rfl rfl ?_ | refine sL2 hS rfl rfl rfl ?_ | refine sL3 hS rfl rfl ?_ | refine sL4 hS rfl rfl ?_ | refine sL5 hS rfl rfl ?_ | refine sL6 hS rfl rfl ?_ | refine sL7 hS rfl rfl ?_)) | (refine oS ?_; ((first | refine sS1 hS rfl rfl rfl ?_ | refine sS2 hS rfl rfl rfl ?_ | refine sS3 hS rfl rfl rfl ?_ | refine sS4 hS rfl rfl rfl ?_ | refine sS5 hS rfl rfl rfl ?_); clear hS; intro w hS)) | ((first | (refine oB ?_; first | refine sB1 hS rfl rfl ?_ | refine sB2 hS rfl rfl ?_) | refine sN1 hS rfl ?_); clear hS; first | ((fail_if_success guard_hyp g1); intro g1 w hS) | ((fail_if_success guard_hyp g2); intro g2 w hS) | ((fail_if_success guard_hyp g3); intro g3 w hS) | ((fail_if_success guard_hyp g4); intro g4 w hS) | ((fail_if_success guard_hyp g5); intro g5 w hS) | fail) | fail)
          go_ret
          refine ⟨false, ⟨fun h => (by cases h), fun h => ?_⟩, rfl, hS.toExt⟩
          obtain ⟨r, hr, h2⟩ := HZ.out.2 h
          exact absurd h2 (HN.out r hr)
theorem rbefore_n {S : Nat → Prop} {A1 A2 A3 : Option Addr} {c1 c2 c3 n1 n2 n3 : Nat} {p : Pat} {qa qb : Nat} {ka kb za zb : Int} {w : World} (e1 : p.len.length = n1) (e2 : p.ck.length = n2) (e3 : p.arcs.length = n3) (hza : za = qa) (hzb : zb = qb) (hp : PatAt S w ⟨A1, c1, A2, c2, A3, c3⟩ p) (hg : Good p) (ha : PtOk p (qa, ka)) (hb : PtOk p (qb, kb)) :
    Calls Try.prog 23 #[.agg #[.slice A1 n1 c1, .slice A2 n2 c2, .slice A3 n3 c3], .agg #[.int .i64 za, .int .i64 ka], .agg #[.int .i64 zb, .int .i64 kb]] w (BefRes p (qa, ka) (qb, kb) w) := by
  subst e1 e2 e3 hza hzb; exact rbefore_any ⟨A1, c1, A2, c2, A3, c3⟩ p qa qb ka kb w hp hg ha hb
end Go.Proofs.Ytkflmichekpfbaa
