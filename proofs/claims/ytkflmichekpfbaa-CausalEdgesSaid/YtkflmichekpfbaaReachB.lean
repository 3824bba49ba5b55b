/- rollbacknetlaw17.reach: its walk. Conditions: the pattern is good and lies in memory, the points are points of it. -/
import Derived.Test.YtkflmichekpfbaaReach
namespace Go.Proofs.Ytkflmichekpfbaa
open Go.RowKit
set_option linter.unusedVariables false
set_option linter.unusedSimpArgs false
set_option linter.unusedSectionVars false

theorem take_known {s : List (Nat × Int)} {i : Nat} {y : Nat × Int} {kb kb' : Bool} (hi : i < s.length) (h : kb = true ↔ y ∈ s.take i) (h' : kb' = true ↔ (kb = true ∨ s[i] = y)) : kb' = true ↔ y ∈ s.take (i + 1) := by
  rw [h', h, List.take_succ_eq_append_getElem hi, List.mem_append, List.mem_singleton]
  constructor
  · rintro (h1 | h1)
    · exact .inl h1
    · exact .inr h1.symm
  · rintro (h1 | h1)
    · exact .inl h1
    · exact .inr h1.symm
set_option maxRecDepth 100000 in
set_option maxHeartbeats 12800000 in
theorem reach_any {S : Nat → Prop} (v : PV) (p : Pat) (qa qb : Nat) (ka kb : Int) (w0 : World) (hp : PatAt S w0 v p) (hg : Good p) (ha : PtOk p (qa, ka)) (hb : PtOk p (qb, kb)) :
    Calls Try.prog 24 #[v.val p, .agg #[.int .i64 (qa : Int), .int .i64 ka], .agg #[.int .i64 (qb : Int), .int .i64 kb]] w0 (BefRes p (qa, ka) (qb, kb) w0) := by
  have hS := St.start w0 NoM
  have hn5 := hg.n5
  have hfew := hg.few
  have HP := Lib.hid (And.intro hp (And.intro hg (And.intro ha hb)))
  clear hp hg ha hb
  obtain ⟨A1, c1, A2, c2, A3, c3⟩ := v
  simp only [PV.val] at *
  go_enter Try.func24, Try.ntmps24
  go_wp2_with (first | (refine oL ?_; (first | refine sL1 hS rfl rfl rfl ?_ | refine sL2 hS rfl rfl rfl ?_ | refine sL3 hS rfl rfl ?_ | refine sL4 hS rfl rfl ?_ | refine sL5 hS rfl rfl ?_ | refine sL6 hS rfl rfl ?_ | refine sL7 hS rfl rfl ?_)) | (refine oS ?_; ((first | refine sS1 hS rfl rfl rfl ?_ | refine sS2 hS rfl rfl rfl ?_ | refine sS3 hS rfl rfl rfl ?_ | refine sS4 hS rfl rfl rfl ?_ | refine sS5 hS rfl rfl rfl ?_); clear hS; intro w hS)) | (refine oP ?_; ((first | refine sP1 hS rfl rfl rfl ?_ | refine sP2 hS rfl rfl rfl ?_ | refine sP3 hS rfl rfl rfl ?_); clear hS; first | ((fail_if_success guard_hyp L1); intro L1 cl1 w hL1 hM1 hS) | ((fail_if_success guard_hyp L2); intro L2 cl2 w hL2 hM2 hS) | ((fail_if_success guard_hyp L3); intro L3 cl3 w hL3 hM3 hS) | ((fail_if_success guard_hyp L4); intro L4 cl4 w hL4 hM4 hS) | ((fail_if_success guard_hyp L5); intro L5 cl5 w hL5 hM5 hS) | fail)) | ((first | (refine oB ?_; first | refine sB1 hS rfl rfl ?_ | refine sB2 hS rfl rfl ?_) | refine sN1 hS rfl ?_ | (refine oC ?_; first | refine sC0 hS rfl ?_ | refine sC1 hS rfl rfl ?_ | refine sC2 hS rfl rfl ?_ | refine sC3 hS rfl rfl rfl ?_ | refine sC4 hS rfl rfl rfl ?_)); clear hS; first | ((fail_if_success guard_hyp g1); intro g1 w hS) | ((fail_if_success guard_hyp g2); intro g2 w hS) | ((fail_if_success guard_hyp g3); intro g3 w hS) | ((fail_if_success guard_hyp g4); intro g4 w hS) | ((fail_if_success guard_hyp g5); intro g5 w hS) | ((fail_if_success guard_hyp g6); intro g6 w hS) | ((fail_if_success guard_hyp g7); intro g7 w hS) | ((fail_if_success guard_hyp g8); intro g8 w hS) | ((fail_if_success guard_hyp g9); intro g9 w hS) | ((fail_if_success guard_hyp g10); intro g10 w hS) | ((fail_if_success guard_hyp g11); intro g11 w hS) | ((fail_if_success guard_hyp g12); intro g12 w hS) | ((fail_if_success guard_hyp g13); intro g13 w hS) | ((fail_if_success guard_hyp g14); intro g14 w hS) | fail) | fail)
  replace hS := hS.blkRow (g := g5) (n := 1) (sz := 2) rfl (by decide)
  replace hS : St w0 NoM [row (.slice (some ⟨g4, 0, none⟩) 0 0) 37 2 0 [], row (.slice (some ⟨g5, 0, none⟩) 1 1) 37 2 1 [.int .i64 (qb : Int), .int .i64 kb], blk g3 [.int .i64 (qb : Int), .int .i64 kb] 37, blk g2 [.int .i64 (qa : Int), .int .i64 ka] 37, blk g1 [.slice A1 p.len.length c1, .slice A2 p.ck.length c2, .slice A3 p.arcs.length c3] 28] w := hS.re
  go_loopg [7, 8] (2 * unseen p (inL []) + 1) (fun kk s7 s8 wr => ∃ (s t : List (Nat × Int)) (Ls : Option Addr) (cs : Nat) (Lt : Option Addr) (ct : Nat), s7 = .slice Ls s.length cs ∧ s8 = .slice Lt t.length ct ∧ s.length ≤ 325 ∧ t.length ≤ 651 ∧ Hid (Fol p (qa, ka) (qb, kb) s t none ∧ 2 * unseen p (inL s) + t.length = kk ∧ kk ≤ 651 ∧ s.length + unseen p (inL s) ≤ 325) ∧ St w0 NoM [row (.slice Ls s.length cs) 37 2 s.length (s.flatMap ptCells), row (.slice Lt t.length ct) 37 2 t.length (t.flatMap ptCells), blk g3 [.int .i64 (qb : Int), .int .i64 kb] 37, blk g2 [.int .i64 (qa : Int), .int .i64 ka] 37, blk g1 [.slice A1 p.len.length c1, .slice A2 p.ck.length c2, .slice A3 p.arcs.length c3] 28] wr)
  case atStart => exact ⟨[], [(qb, kb)], some ⟨g4, 0, none⟩, 0, some ⟨g5, 0, none⟩, 1, rfl, rfl, by simp, by simp, Lib.hid ⟨Fol.start HP.out.2.2.2, rfl, by have := unseen_le HP.out.2.1 (inL []); omega, by have := unseen_le HP.out.2.1 (inL []); simpa using this⟩, hS⟩
  case round =>
    clear hS
    obtain ⟨s, t, Ls, cs, Lt, ct, rfl, rfl, hs325, ht651, HI, hS⟩ := hrel
    rcases List.eq_nil_or_concat t with rfl | ⟨t', x, rfl⟩
    · have HF := Lib.hid HI.out.1.fin
      go_wp2_with (first | (refine oL ?_; (first | refine sL1 hS rfl rfl rfl ?_ | refine sL2 hS rfl rfl rfl ?_ | refine sL3 hS rfl rfl ?_ | refine sL4 hS rfl rfl ?_ | refine sL5 hS rfl rfl ?_ | refine sL6 hS rfl rfl ?_ | refine sL7 hS rfl rfl ?_)) | (refine oS ?_; ((first | refine sS1 hS rfl rfl rfl ?_ | refine sS2 hS rfl rfl rfl ?_ | refine sS3 hS rfl rfl rfl ?_ | refine sS4 hS rfl rfl rfl ?_ | refine sS5 hS rfl rfl rfl ?_); clear hS; intro w hS)) | (refine oP ?_; ((first | refine sP1 hS rfl rfl rfl ?_ | refine sP2 hS rfl rfl rfl ?_ | refine sP3 hS rfl rfl rfl ?_); clear hS; first | ((fail_if_success guard_hyp L1); intro L1 cl1 w hL1 hM1 hS) | ((fail_if_success guard_hyp L2); intro L2 cl2 w hL2 hM2 hS) | ((fail_if_success guard_hyp L3); intro L3 cl3 w hL3 hM3 hS) | ((fail_if_success guard_hyp L4); intro L4 cl4 w hL4 hM4 hS) | ((fail_if_success guard_hyp L5); intro L5 cl5 w hL5 hM5 hS) | fail)) | ((first | (refine oB ?_; first | refine sB1 hS rfl rfl ?_ | refine sB2 hS rfl rfl ?_) | refine sN1 hS rfl ?_ | (refine oC ?_; first | refine sC0 hS rfl ?_ | refine sC1 hS rfl rfl ?_ | refine sC2 hS rfl rfl ?_ | refine sC3 hS rfl rfl rfl ?_ | refine sC4 hS rfl rfl rfl ?_)); clear hS; first | ((fail_if_success guard_hyp g1); intro g1 w hS) | ((fail_if_success guard_hyp g2); intro g2 w hS) | ((fail_if_success guard_hyp g3); intro g3 w hS) | ((fail_if_success guard_hyp g4); intro g4 w hS) | ((fail_if_success guard_hyp g5); intro g5 w hS) | ((fail_if_success guard_hyp g6); intro g6 w hS) | ((fail_if_success guard_hyp g7); intro g7 w hS) | ((fail_if_success guard_hyp g8); intro g8 w hS) | ((fail_if_success guard_hyp g9); intro g9 w hS) | ((fail_if_success guard_hyp g10); intro g10 w hS) | ((fail_if_success guard_hyp g11); intro g11 w hS) | ((fail_if_success guard_hyp g12); intro g12 w hS) | ((fail_if_success guard_hyp g13); intro g13 w hS) | ((fail_if_success guard_hyp g14); intro g14 w hS) | fail) | fail)
      go_ret
      exact ⟨false, ⟨fun h => (by cases h), fun h => absurd h HF.out⟩, rfl, hS.toExt⟩
    · rw [List.concat_eq_append] at HI hS ht651 ⊢
      obtain ⟨gt, rfl⟩ := hS.rowSome Lt (by simp)
      have hcap := hS.rowForm (some ⟨gt, 0, none⟩)
      obtain ⟨q, k⟩ := x
      have hok := HI.out.1.ok (q, k) (by simp)
      have HX := Lib.hid (And.intro HI.out.1.pop hok)
      have HM := Lib.hid HI.out.2
      clear HI hok
      simp only [List.length_append, List.length_singleton] at hS ht651 HM hcap ⊢
      have hlt1 : (t'.length : Int) < (t'.length : Int) + 1 := by omega
      have hcap1 : t'.length ≤ ct := by omega
      go_upto_region 7 with (first | (refine oL ?_; refine sL8 hS rfl rfl last_pt rfl ?_) | (refine sV1 Try.underlying32 (by kernel_rfl) rfl rfl rfl hcap1 ?_) | (refine oL ?_; (first | refine sL1 hS rfl rfl rfl ?_ | refine sL2 hS rfl rfl rfl ?_ | refine sL3 hS rfl rfl ?_ | refine sL4 hS rfl rfl ?_ | refine sL5 hS rfl rfl ?_ | refine sL6 hS rfl rfl ?_ | refine sL7 hS rfl rfl ?_)) | (refine oS ?_; ((first | refine sS1 hS rfl rfl rfl ?_ | refine sS2 hS rfl rfl rfl ?_ | refine sS3 hS rfl rfl rfl ?_ | refine sS4 hS rfl rfl rfl ?_ | refine sS5 hS rfl rfl rfl ?_); clear hS; intro w hS)) | (refine oP ?_; ((first | refine sP1 hS rfl rfl rfl ?_ | refine sP2 hS rfl rfl rfl ?_ | refine sP3 hS rfl rfl rfl ?_); clear hS; first | ((fail_if_success guard_hyp L1); intro L1 cl1 w hL1 hM1 hS) | ((fail_if_success guard_hyp L2); intro L2 cl2 w hL2 hM2 hS) | ((fail_if_success guard_hyp L3); intro L3 cl3 w hL3 hM3 hS) | ((fail_if_success guard_hyp L4); intro L4 cl4 w hL4 hM4 hS) | ((fail_if_success guard_hyp L5); intro L5 cl5 w hL5 hM5 hS) | fail)) | ((first | (refine oB ?_; first | refine sB1 hS rfl rfl ?_ | refine sB2 hS rfl rfl ?_) | refine sN1 hS rfl ?_ | (refine oC ?_; first | refine sC0 hS rfl ?_ | refine sC1 hS rfl rfl ?_ | refine sC2 hS rfl rfl ?_ | refine sC3 hS rfl rfl rfl ?_ | refine sC4 hS rfl rfl rfl ?_)); clear hS; first | ((fail_if_success guard_hyp g1); intro g1 w hS) | ((fail_if_success guard_hyp g2); intro g2 w hS) | ((fail_if_success guard_hyp g3); intro g3 w hS) | ((fail_if_success guard_hyp g4); intro g4 w hS) | ((fail_if_success guard_hyp g5); intro g5 w hS) | ((fail_if_success guard_hyp g6); intro g6 w hS) | ((fail_if_success guard_hyp g7); intro g7 w hS) | ((fail_if_success guard_hyp g8); intro g8 w hS) | ((fail_if_success guard_hyp g9); intro g9 w hS) | ((fail_if_success guard_hyp g10); intro g10 w hS) | ((fail_if_success guard_hyp g11); intro g11 w hS) | ((fail_if_success guard_hyp g12); intro g12 w hS) | ((fail_if_success guard_hyp g13); intro g13 w hS) | ((fail_if_success guard_hyp g14); intro g14 w hS) | fail) | fail)
      replace hS := hS.rowCut (A := some ⟨gt, 0, none⟩) (n := t'.length + 1) (m := t'.length) (c := ct) (by simp) (by omega)
      (try simp only [nB] at hS)
      rw [cut_pt] at hS
      have hk0 := HX.out.2.1.2.1
      have hk64 : k ≤ 64 := by have := HX.out.2.1.2.2; have := HP.out.2.1.hi q HX.out.2.1.1; simp only at *; omega
      simp only at hk0
      have HXP := Lib.hid (show PtOk p (q, k) ∧ Reach p (qb, kb) (q, k) from HX.out.2)
      have HNZ := Lib.hid (fun h : k = 0 => nexts_zero (p := p) (x := (q, k)) h)
      have HNP := Lib.hid (fun h : 0 < k => nexts_pos (p := p) (x := (q, k)) h)
      obtain ⟨kk, hkk⟩ : ∃ kk, kk = 2 * unseen p (inL s) + (t'.length + 1) := ⟨_, rfl⟩
      have HKE := Lib.hid (hkk.trans HM.out.1)
      have HX2 := Lib.hid (And.intro HX.out.1 (And.intro HM.out.2.2 (show 2 * unseen p (inL s) + t'.length < kk ∧ kk ≤ 651 by have := HM.out; omega)))
      clear hkk HM HX
      by_cases hkz : k = 0
      · have d1 : decide (0 < k) = false := decide_eq_false (by omega)
        have HN := Lib.hid (HNZ.out hkz)
        clear hkz
        go_wp2_with (first | (refine oL ?_; (first | refine sL1 hS rfl rfl rfl ?_ | refine sL2 hS rfl rfl rfl ?_ | refine sL3 hS rfl rfl ?_ | refine sL4 hS rfl rfl ?_ | refine sL5 hS rfl rfl ?_ | refine sL6 hS rfl rfl ?_ | refine sL7 hS rfl rfl ?_)) | (refine oS ?_; ((first | refine sS1 hS rfl rfl rfl ?_ | refine sS2 hS rfl rfl rfl ?_ | refine sS3 hS rfl rfl rfl ?_ | refine sS4 hS rfl rfl rfl ?_ | refine sS5 hS rfl rfl rfl ?_); clear hS; intro w hS)) | (refine oP ?_; ((first | refine sP1 hS rfl rfl rfl ?_ | refine sP2 hS rfl rfl rfl ?_ | refine sP3 hS rfl rfl rfl ?_); clear hS; first | ((fail_if_success guard_hyp L1); intro L1 cl1 w hL1 hM1 hS) | ((fail_if_success guard_hyp L2); intro L2 cl2 w hL2 hM2 hS) | ((fail_if_success guard_hyp L3); intro L3 cl3 w hL3 hM3 hS) | ((fail_if_success guard_hyp L4); intro L4 cl4 w hL4 hM4 hS) | ((fail_if_success guard_hyp L5); intro L5 cl5 w hL5 hM5 hS) | fail)) | ((first | (refine oB ?_; first | refine sB1 hS rfl rfl ?_ | refine sB2 hS rfl rfl ?_) | refine sN1 hS rfl ?_ | (refine oC ?_; first | refine sC0 hS rfl ?_ | refine sC1 hS rfl rfl ?_ | refine sC2 hS rfl rfl ?_ | refine sC3 hS rfl rfl rfl ?_ | refine sC4 hS rfl rfl rfl ?_)); clear hS; first | ((fail_if_success guard_hyp g1); intro g1 w hS) | ((fail_if_success guard_hyp g2); intro g2 w hS) | ((fail_if_success guard_hyp g3); intro g3 w hS) | ((fail_if_success guard_hyp g4); intro g4 w hS) | ((fail_if_success guard_hyp g5); intro g5 w hS) | ((fail_if_success guard_hyp g6); intro g6 w hS) | ((fail_if_success guard_hyp g7); intro g7 w hS) | ((fail_if_success guard_hyp g8); intro g8 w hS) | ((fail_if_success guard_hyp g9); intro g9 w hS) | ((fail_if_success guard_hyp g10); intro g10 w hS) | ((fail_if_success guard_hyp g11); intro g11 w hS) | ((fail_if_success guard_hyp g12); intro g12 w hS) | ((fail_if_success guard_hyp g13); intro g13 w hS) | ((fail_if_success guard_hyp g14); intro g14 w hS) | fail) | fail)
        go_loopw [10, 50] (fun s10 s50 wr => ∃ (i : Nat) (L : Option Addr) (cl : Nat) (l : List (Nat × Int)), i ≤ p.arcs.length ∧ s50 = .int .i64 i ∧ s10 = .slice L l.length cl ∧ l.length ≤ i + 1 ∧ Hid (l = nexts p (q, k) i) ∧ St w0 NoM [row (.slice L l.length cl) 37 2 l.length (l.flatMap ptCells), row (.slice Ls s.length cs) 37 2 s.length (s.flatMap ptCells), row (.slice (some ⟨gt, 0, none⟩) t'.length ct) 37 2 t'.length (t'.flatMap ptCells), blk g6 [.int .i64 (q : Int), .int .i64 k] 37, blk g3 [.int .i64 (qb : Int), .int .i64 kb] 37, blk g2 [.int .i64 (qa : Int), .int .i64 ka] 37, blk g1 [.slice A1 p.len.length c1, .slice A2 p.ck.length c2, .slice A3 p.arcs.length c3] 28] wr) (fun _ s50 _ => p.arcs.length - (intOf s50).toNat)
        case atStart => exact ⟨0, none, 0, [], by omega, rfl, rfl, by simp, Lib.hid HN.out.symm, St.addNil hS.re _ _⟩
        case round =>
          clear hS d1 hk0
          obtain ⟨i, L, cl, l, hi, rfl, rfl, hl, HL, hS⟩ := hrel
          by_cases hlt : i < p.arcs.length
          · obtain ⟨b3, o3, hA3, _, hcs⟩ := HP.out.1.arcs.cells hlt
            simp only at hA3
            subst hA3
            have hlt' : (i : Int) < p.arcs.length := by omega
            have HNO := Lib.hid (fun h => nexts_no (p := p) (x := (q, k)) hlt h)
            have HYES := Lib.hid (fun h => nexts_yes (p := p) (x := (q, k)) hlt h)
            generalize p.arcs[i] = ar at *
            simp only [arcCells] at hcs
            have HST : Hid (sentTo (q, k) ar = decide (0 < ar.at_ ∧ ar.to = q ∧ ar.at_ = k)) := Lib.hid rfl
            by_cases h1 : 0 < ar.at_
            · have d1 : decide (0 < ar.at_) = true := decide_eq_true h1
              by_cases h2 : ar.to = q
              · have e2 : ((ar.to : Int) == (q : Int)) = true := by simp; omega
                by_cases h3 : ar.at_ = k
                · have e3 : (ar.at_ == k) = true := by simp [h3]
                  have HY := Lib.hid (HYES.out (by rw [HST.out]; exact decide_eq_true ⟨h1, h2, h3⟩))
                  have HLL := Lib.hid (show (l ++ [(ar.fr, ar.ix)]).length = l.length + 1 by simp)
                  have HFL := Lib.hid (show (l ++ [(ar.fr, ar.ix)]).flatMap ptCells = l.flatMap ptCells ++ [.int .i64 (ar.fr : Int), .int .i64 ar.ix] by simp [ptCells])
                  clear h1 h2 h3
                  go_upto_region 12 with (first | (refine oL ?_; (first | refine sL1 hS rfl rfl rfl ?_ | refine sL2 hS rfl rfl rfl ?_ | refine sL3 hS rfl rfl ?_ | refine sL4 hS rfl rfl ?_ | refine sL5 hS rfl rfl ?_ | refine sL6 hS rfl rfl ?_ | refine sL7 hS rfl rfl ?_)) | (refine oS ?_; ((first | refine sS1 hS rfl rfl rfl ?_ | refine sS2 hS rfl rfl rfl ?_ | refine sS3 hS rfl rfl rfl ?_ | refine sS4 hS rfl rfl rfl ?_ | refine sS5 hS rfl rfl rfl ?_); clear hS; intro w hS)) | (refine oP ?_; ((first | refine sP1 hS rfl rfl rfl ?_ | refine sP2 hS rfl rfl rfl ?_ | refine sP3 hS rfl rfl rfl ?_); clear hS; first | ((fail_if_success guard_hyp L1); intro L1 cl1 w hL1 hM1 hS) | ((fail_if_success guard_hyp L2); intro L2 cl2 w hL2 hM2 hS) | ((fail_if_success guard_hyp L3); intro L3 cl3 w hL3 hM3 hS) | ((fail_if_success guard_hyp L4); intro L4 cl4 w hL4 hM4 hS) | ((fail_if_success guard_hyp L5); intro L5 cl5 w hL5 hM5 hS) | fail)) | ((first | (refine oB ?_; first | refine sB1 hS rfl rfl ?_ | refine sB2 hS rfl rfl ?_) | refine sN1 hS rfl ?_ | (refine oC ?_; first | refine sC0 hS rfl ?_ | refine sC1 hS rfl rfl ?_ | refine sC2 hS rfl rfl ?_ | refine sC3 hS rfl rfl rfl ?_ | refine sC4 hS rfl rfl rfl ?_)); clear hS; first | ((fail_if_success guard_hyp g1); intro g1 w hS) | ((fail_if_success guard_hyp g2); intro g2 w hS) | ((fail_if_success guard_hyp g3); intro g3 w hS) | ((fail_if_success guard_hyp g4); intro g4 w hS) | ((fail_if_success guard_hyp g5); intro g5 w hS) | ((fail_if_success guard_hyp g6); intro g6 w hS) | ((fail_if_success guard_hyp g7); intro g7 w hS) | ((fail_if_success guard_hyp g8); intro g8 w hS) | ((fail_if_success guard_hyp g9); intro g9 w hS) | ((fail_if_success guard_hyp g10); intro g10 w hS) | ((fail_if_success guard_hyp g11); intro g11 w hS) | ((fail_if_success guard_hyp g12); intro g12 w hS) | ((fail_if_success guard_hyp g13); intro g13 w hS) | ((fail_if_success guard_hyp g14); intro g14 w hS) | fail) | fail)
                  refine lR ?_
                  refine lP rfl ?_
                  (try simp only [Act.put, nA, nB, nC])
                  (refine ⟨?_⟩; ((first | refine sL1 hS rfl rfl rfl ?_ | refine sL2 hS rfl rfl rfl ?_ | refine sL3 hS rfl rfl ?_ | refine sL4 hS rfl rfl ?_ | refine sL5 hS rfl rfl ?_ | refine sL6 hS rfl rfl ?_ | refine sL7 hS rfl rfl ?_)); refine WL.h ?_)
                  (try simp only [Act.put, nA, nB, nC])
                  refine lP rfl ?_
                  (try simp only [Act.put, nA, nB, nC])
                  refine lM rfl rfl ?_
                  (try simp only [Act.put, nA, nB, nC])
                  first | refine lQ rfl ?_ | refine lP rfl ?_ | fail
                  (try simp only [Act.put, nA, nB, nC])
                  first | refine lQ rfl ?_ | (refine ⟨?_⟩; ((first | refine sL1 hS rfl rfl rfl ?_ | refine sL2 hS rfl rfl rfl ?_ | refine sL3 hS rfl rfl ?_ | refine sL4 hS rfl rfl ?_ | refine sL5 hS rfl rfl ?_ | refine sL6 hS rfl rfl ?_ | refine sL7 hS rfl rfl ?_)); refine WL.h ?_) | fail
                  (try simp only [Act.put, nA, nB, nC])
                  first | refine lQ rfl ?_ | refine lP rfl ?_ | fail
                  (try simp only [Act.put, nA, nB, nC])
                  first | refine lQ rfl ?_ | (refine ⟨?_⟩; ((first | refine sL1 hS rfl rfl rfl ?_ | refine sL2 hS rfl rfl rfl ?_ | refine sL3 hS rfl rfl ?_ | refine sL4 hS rfl rfl ?_ | refine sL5 hS rfl rfl ?_ | refine sL6 hS rfl rfl ?_ | refine sL7 hS rfl rfl ?_)); refine WL.h ?_) | fail
                  (try simp only [Act.put, nA, nB, nC])
                  first | refine lQ rfl ?_ | refine lP rfl ?_ | fail
                  (try simp only [Act.put, nA, nB, nC])
                  refine lP rfl ?_
                  (try simp only [Act.put, nA, nB, nC])
                  refine lM rfl rfl ?_
                  (try simp only [Act.put, nA, nB, nC])
                  first | refine lQ rfl ?_ | refine lP rfl ?_ | fail
                  (try simp only [Act.put, nA, nB, nC])
                  first | refine lQ rfl ?_ | (refine ⟨?_⟩; ((first | refine sL1 hS rfl rfl rfl ?_ | refine sL2 hS rfl rfl rfl ?_ | refine sL3 hS rfl rfl ?_ | refine sL4 hS rfl rfl ?_ | refine sL5 hS rfl rfl ?_ | refine sL6 hS rfl rfl ?_ | refine sL7 hS rfl rfl ?_)); refine WL.h ?_) | fail
                  (try simp only [Act.put, nA, nB, nC])
                  first | refine lQ rfl ?_ | refine lP rfl ?_ | fail
                  (try simp only [Act.put, nA, nB, nC])
                  first | refine lQ rfl ?_ | (refine ⟨?_⟩; ((first | refine sL1 hS rfl rfl rfl ?_ | refine sL2 hS rfl rfl rfl ?_ | refine sL3 hS rfl rfl ?_ | refine sL4 hS rfl rfl ?_ | refine sL5 hS rfl rfl ?_ | refine sL6 hS rfl rfl ?_ | refine sL7 hS rfl rfl ?_)); refine WL.h ?_) | fail
                  (try simp only [Act.put, nA, nB, nC])
                  first | refine lQ rfl ?_ | refine lP rfl ?_ | fail
                  (try simp only [Act.put, nA, nB, nC])
                  refine lP rfl ?_
                  (try simp only [Act.put, nA, nB, nC])
                  refine lZ ?_
                  go_wp2_with (first | (refine oL ?_; (first | refine sL1 hS rfl rfl rfl ?_ | refine sL2 hS rfl rfl rfl ?_ | refine sL3 hS rfl rfl ?_ | refine sL4 hS rfl rfl ?_ | refine sL5 hS rfl rfl ?_ | refine sL6 hS rfl rfl ?_ | refine sL7 hS rfl rfl ?_)) | (refine oS ?_; ((first | refine sS1 hS rfl rfl rfl ?_ | refine sS2 hS rfl rfl rfl ?_ | refine sS3 hS rfl rfl rfl ?_ | refine sS4 hS rfl rfl rfl ?_ | refine sS5 hS rfl rfl rfl ?_); clear hS; intro w hS)) | (refine oP ?_; ((first | refine sP1 hS rfl rfl rfl ?_ | refine sP2 hS rfl rfl rfl ?_ | refine sP3 hS rfl rfl rfl ?_); clear hS; first | ((fail_if_success guard_hyp L1); intro L1 cl1 w hL1 hM1 hS) | ((fail_if_success guard_hyp L2); intro L2 cl2 w hL2 hM2 hS) | ((fail_if_success guard_hyp L3); intro L3 cl3 w hL3 hM3 hS) | ((fail_if_success guard_hyp L4); intro L4 cl4 w hL4 hM4 hS) | ((fail_if_success guard_hyp L5); intro L5 cl5 w hL5 hM5 hS) | fail)) | ((first | (refine oB ?_; first | refine sB1 hS rfl rfl ?_ | refine sB2 hS rfl rfl ?_) | refine sN1 hS rfl ?_ | (refine oC ?_; first | refine sC0 hS rfl ?_ | refine sC1 hS rfl rfl ?_ | refine sC2 hS rfl rfl ?_ | refine sC3 hS rfl rfl rfl ?_ | refine sC4 hS rfl rfl rfl ?_)); clear hS; first | ((fail_if_success guard_hyp g1); intro g1 w hS) | ((fail_if_success guard_hyp g2); intro g2 w hS) | ((fail_if_success guard_hyp g3); intro g3 w hS) | ((fail_if_success guard_hyp g4); intro g4 w hS) | ((fail_if_success guard_hyp g5); intro g5 w hS) | ((fail_if_success guard_hyp g6); intro g6 w hS) | ((fail_if_success guard_hyp g7); intro g7 w hS) | ((fail_if_success guard_hyp g8); intro g8 w hS) | ((fail_if_success guard_hyp g9); intro g9 w hS) | ((fail_if_success guard_hyp g10); intro g10 w hS) | ((fail_if_success guard_hyp g11); intro g11 w hS) | ((fail_if_success guard_hyp g12); intro g12 w hS) | ((fail_if_success guard_hyp g13); intro g13 w hS) | ((fail_if_success guard_hyp g14); intro g14 w hS) | fail) | fail)
                  go_roundw
                  case measure => simp [intOf]; omega
                  refine ⟨i + 1, L1, cl1, l ++ [(ar.fr, ar.ix)], by omega, by go_num, by rw [HLL.out], by rw [HLL.out]; omega, Lib.hid (by rw [HY.out, ← HL.out]), ?_⟩
                  rw [HLL.out, HFL.out]
                  exact hS.re
                · have e3 : (ar.at_ == k) = false := by simp [h3]
                  have HY := Lib.hid (HNO.out (by rw [HST.out]; exact decide_eq_false (fun h => h3 h.2.2)))
                  clear h1 h2 h3
                  go_upto_region 12 with (first | (refine oL ?_; (first | refine sL1 hS rfl rfl rfl ?_ | refine sL2 hS rfl rfl rfl ?_ | refine sL3 hS rfl rfl ?_ | refine sL4 hS rfl rfl ?_ | refine sL5 hS rfl rfl ?_ | refine sL6 hS rfl rfl ?_ | refine sL7 hS rfl rfl ?_)) | (refine oS ?_; ((first | refine sS1 hS rfl rfl rfl ?_ | refine sS2 hS rfl rfl rfl ?_ | refine sS3 hS rfl rfl rfl ?_ | refine sS4 hS rfl rfl rfl ?_ | refine sS5 hS rfl rfl rfl ?_); clear hS; intro w hS)) | (refine oP ?_; ((first | refine sP1 hS rfl rfl rfl ?_ | refine sP2 hS rfl rfl rfl ?_ | refine sP3 hS rfl rfl rfl ?_); clear hS; first | ((fail_if_success guard_hyp L1); intro L1 cl1 w hL1 hM1 hS) | ((fail_if_success guard_hyp L2); intro L2 cl2 w hL2 hM2 hS) | ((fail_if_success guard_hyp L3); intro L3 cl3 w hL3 hM3 hS) | ((fail_if_success guard_hyp L4); intro L4 cl4 w hL4 hM4 hS) | ((fail_if_success guard_hyp L5); intro L5 cl5 w hL5 hM5 hS) | fail)) | ((first | (refine oB ?_; first | refine sB1 hS rfl rfl ?_ | refine sB2 hS rfl rfl ?_) | refine sN1 hS rfl ?_ | (refine oC ?_; first | refine sC0 hS rfl ?_ | refine sC1 hS rfl rfl ?_ | refine sC2 hS rfl rfl ?_ | refine sC3 hS rfl rfl rfl ?_ | refine sC4 hS rfl rfl rfl ?_)); clear hS; first | ((fail_if_success guard_hyp g1); intro g1 w hS) | ((fail_if_success guard_hyp g2); intro g2 w hS) | ((fail_if_success guard_hyp g3); intro g3 w hS) | ((fail_if_success guard_hyp g4); intro g4 w hS) | ((fail_if_success guard_hyp g5); intro g5 w hS) | ((fail_if_success guard_hyp g6); intro g6 w hS) | ((fail_if_success guard_hyp g7); intro g7 w hS) | ((fail_if_success guard_hyp g8); intro g8 w hS) | ((fail_if_success guard_hyp g9); intro g9 w hS) | ((fail_if_success guard_hyp g10); intro g10 w hS) | ((fail_if_success guard_hyp g11); intro g11 w hS) | ((fail_if_success guard_hyp g12); intro g12 w hS) | ((fail_if_success guard_hyp g13); intro g13 w hS) | ((fail_if_success guard_hyp g14); intro g14 w hS) | fail) | fail)
                  refine lR ?_
                  refine lP rfl ?_
                  (try simp only [Act.put, nA, nB, nC])
                  (refine ⟨?_⟩; ((first | refine sL1 hS rfl rfl rfl ?_ | refine sL2 hS rfl rfl rfl ?_ | refine sL3 hS rfl rfl ?_ | refine sL4 hS rfl rfl ?_ | refine sL5 hS rfl rfl ?_ | refine sL6 hS rfl rfl ?_ | refine sL7 hS rfl rfl ?_)); refine WL.h ?_)
                  (try simp only [Act.put, nA, nB, nC])
                  refine lP rfl ?_
                  (try simp only [Act.put, nA, nB, nC])
                  refine lM rfl rfl ?_
                  (try simp only [Act.put, nA, nB, nC])
                  first | refine lQ rfl ?_ | refine lP rfl ?_ | fail
                  (try simp only [Act.put, nA, nB, nC])
                  first | refine lQ rfl ?_ | (refine ⟨?_⟩; ((first | refine sL1 hS rfl rfl rfl ?_ | refine sL2 hS rfl rfl rfl ?_ | refine sL3 hS rfl rfl ?_ | refine sL4 hS rfl rfl ?_ | refine sL5 hS rfl rfl ?_ | refine sL6 hS rfl rfl ?_ | refine sL7 hS rfl rfl ?_)); refine WL.h ?_) | fail
                  (try simp only [Act.put, nA, nB, nC])
                  first | refine lQ rfl ?_ | refine lP rfl ?_ | fail
                  (try simp only [Act.put, nA, nB, nC])
                  first | refine lQ rfl ?_ | (refine ⟨?_⟩; ((first | refine sL1 hS rfl rfl rfl ?_ | refine sL2 hS rfl rfl rfl ?_ | refine sL3 hS rfl rfl ?_ | refine sL4 hS rfl rfl ?_ | refine sL5 hS rfl rfl ?_ | refine sL6 hS rfl rfl ?_ | refine sL7 hS rfl rfl ?_)); refine WL.h ?_) | fail
                  (try simp only [Act.put, nA, nB, nC])
                  first | refine lQ rfl ?_ | refine lP rfl ?_ | fail
                  (try simp only [Act.put, nA, nB, nC])
                  refine lP rfl ?_
                  (try simp only [Act.put, nA, nB, nC])
                  refine lM rfl rfl ?_
                  (try simp only [Act.put, nA, nB, nC])
                  first | refine lQ rfl ?_ | refine lP rfl ?_ | fail
                  (try simp only [Act.put, nA, nB, nC])
                  first | refine lQ rfl ?_ | (refine ⟨?_⟩; ((first | refine sL1 hS rfl rfl rfl ?_ | refine sL2 hS rfl rfl rfl ?_ | refine sL3 hS rfl rfl ?_ | refine sL4 hS rfl rfl ?_ | refine sL5 hS rfl rfl ?_ | refine sL6 hS rfl rfl ?_ | refine sL7 hS rfl rfl ?_)); refine WL.h ?_) | fail
                  (try simp only [Act.put, nA, nB, nC])
                  first | refine lQ rfl ?_ | refine lP rfl ?_ | fail
                  (try simp only [Act.put, nA, nB, nC])
                  first | refine lQ rfl ?_ | (refine ⟨?_⟩; ((first | refine sL1 hS rfl rfl rfl ?_ | refine sL2 hS rfl rfl rfl ?_ | refine sL3 hS rfl rfl ?_ | refine sL4 hS rfl rfl ?_ | refine sL5 hS rfl rfl ?_ | refine sL6 hS rfl rfl ?_ | refine sL7 hS rfl rfl ?_)); refine WL.h ?_) | fail
                  (try simp only [Act.put, nA, nB, nC])
                  first | refine lQ rfl ?_ | refine lP rfl ?_ | fail
                  (try simp only [Act.put, nA, nB, nC])
                  refine lP rfl ?_
                  (try simp only [Act.put, nA, nB, nC])
                  refine lZ ?_
                  go_wp2_with (first | (refine oL ?_; (first | refine sL1 hS rfl rfl rfl ?_ | refine sL2 hS rfl rfl rfl ?_ | refine sL3 hS rfl rfl ?_ | refine sL4 hS rfl rfl ?_ | refine sL5 hS rfl rfl ?_ | refine sL6 hS rfl rfl ?_ | refine sL7 hS rfl rfl ?_)) | (refine oS ?_; ((first | refine sS1 hS rfl rfl rfl ?_ | refine sS2 hS rfl rfl rfl ?_ | refine sS3 hS rfl rfl rfl ?_ | refine sS4 hS rfl rfl rfl ?_ | refine sS5 hS rfl rfl rfl ?_); clear hS; intro w hS)) | (refine oP ?_; ((first | refine sP1 hS rfl rfl rfl ?_ | refine sP2 hS rfl rfl rfl ?_ | refine sP3 hS rfl rfl rfl ?_); clear hS; first | ((fail_if_success guard_hyp L1); intro L1 cl1 w hL1 hM1 hS) | ((fail_if_success guard_hyp L2); intro L2 cl2 w hL2 hM2 hS) | ((fail_if_success guard_hyp L3); intro L3 cl3 w hL3 hM3 hS) | ((fail_if_success guard_hyp L4); intro L4 cl4 w hL4 hM4 hS) | ((fail_if_success guard_hyp L5); intro L5 cl5 w hL5 hM5 hS) | fail)) | ((first | (refine oB ?_; first | refine sB1 hS rfl rfl ?_ | refine sB2 hS rfl rfl ?_) | refine sN1 hS rfl ?_ | (refine oC ?_; first | refine sC0 hS rfl ?_ | refine sC1 hS rfl rfl ?_ | refine sC2 hS rfl rfl ?_ | refine sC3 hS rfl rfl rfl ?_ | refine sC4 hS rfl rfl rfl ?_)); clear hS; first | ((fail_if_success guard_hyp g1); intro g1 w hS) | ((fail_if_success guard_hyp g2); intro g2 w hS) | ((fail_if_success guard_hyp g3); intro g3 w hS) | ((fail_if_success guard_hyp g4); intro g4 w hS) | ((fail_if_success guard_hyp g5); intro g5 w hS) | ((fail_if_success guard_hyp g6); intro g6 w hS) | ((fail_if_success guard_hyp g7); intro g7 w hS) | ((fail_if_success guard_hyp g8); intro g8 w hS) | ((fail_if_success guard_hyp g9); intro g9 w hS) | ((fail_if_success guard_hyp g10); intro g10 w hS) | ((fail_if_success guard_hyp g11); intro g11 w hS) | ((fail_if_success guard_hyp g12); intro g12 w hS) | ((fail_if_success guard_hyp g13); intro g13 w hS) | ((fail_if_success guard_hyp g14); intro g14 w hS) | fail) | fail)
                  go_roundw
                  case measure => simp [intOf]; omega
                  exact ⟨i + 1, L, cl, l, by omega, by go_num, rfl, by omega, Lib.hid (by rw [HY.out]; exact HL.out), hS.re⟩
              · have e2 : ((ar.to : Int) == (q : Int)) = false := by simp; omega
                have HY := Lib.hid (HNO.out (by rw [HST.out]; exact decide_eq_false (fun h => h2 h.2.1)))
                clear h1 h2
                go_upto_region 12 with (first | (refine oL ?_; (first | refine sL1 hS rfl rfl rfl ?_ | refine sL2 hS rfl rfl rfl ?_ | refine sL3 hS rfl rfl ?_ | refine sL4 hS rfl rfl ?_ | refine sL5 hS rfl rfl ?_ | refine sL6 hS rfl rfl ?_ | refine sL7 hS rfl rfl ?_)) | (refine oS ?_; ((first | refine sS1 hS rfl rfl rfl ?_ | refine sS2 hS rfl rfl rfl ?_ | refine sS3 hS rfl rfl rfl ?_ | refine sS4 hS rfl rfl rfl ?_ | refine sS5 hS rfl rfl rfl ?_); clear hS; intro w hS)) | (refine oP ?_; ((first | refine sP1 hS rfl rfl rfl ?_ | refine sP2 hS rfl rfl rfl ?_ | refine sP3 hS rfl rfl rfl ?_); clear hS; first | ((fail_if_success guard_hyp L1); intro L1 cl1 w hL1 hM1 hS) | ((fail_if_success guard_hyp L2); intro L2 cl2 w hL2 hM2 hS) | ((fail_if_success guard_hyp L3); intro L3 cl3 w hL3 hM3 hS) | ((fail_if_success guard_hyp L4); intro L4 cl4 w hL4 hM4 hS) | ((fail_if_success guard_hyp L5); intro L5 cl5 w hL5 hM5 hS) | fail)) | ((first | (refine oB ?_; first | refine sB1 hS rfl rfl ?_ | refine sB2 hS rfl rfl ?_) | refine sN1 hS rfl ?_ | (refine oC ?_; first | refine sC0 hS rfl ?_ | refine sC1 hS rfl rfl ?_ | refine sC2 hS rfl rfl ?_ | refine sC3 hS rfl rfl rfl ?_ | refine sC4 hS rfl rfl rfl ?_)); clear hS; first | ((fail_if_success guard_hyp g1); intro g1 w hS) | ((fail_if_success guard_hyp g2); intro g2 w hS) | ((fail_if_success guard_hyp g3); intro g3 w hS) | ((fail_if_success guard_hyp g4); intro g4 w hS) | ((fail_if_success guard_hyp g5); intro g5 w hS) | ((fail_if_success guard_hyp g6); intro g6 w hS) | ((fail_if_success guard_hyp g7); intro g7 w hS) | ((fail_if_success guard_hyp g8); intro g8 w hS) | ((fail_if_success guard_hyp g9); intro g9 w hS) | ((fail_if_success guard_hyp g10); intro g10 w hS) | ((fail_if_success guard_hyp g11); intro g11 w hS) | ((fail_if_success guard_hyp g12); intro g12 w hS) | ((fail_if_success guard_hyp g13); intro g13 w hS) | ((fail_if_success guard_hyp g14); intro g14 w hS) | fail) | fail)
                refine lR ?_
                refine lP rfl ?_
                (try simp only [Act.put, nA, nB, nC])
                (refine ⟨?_⟩; ((first | refine sL1 hS rfl rfl rfl ?_ | refine sL2 hS rfl rfl rfl ?_ | refine sL3 hS rfl rfl ?_ | refine sL4 hS rfl rfl ?_ | refine sL5 hS rfl rfl ?_ | refine sL6 hS rfl rfl ?_ | refine sL7 hS rfl rfl ?_)); refine WL.h ?_)
                (try simp only [Act.put, nA, nB, nC])
                refine lP rfl ?_
                (try simp only [Act.put, nA, nB, nC])
                refine lM rfl rfl ?_
                (try simp only [Act.put, nA, nB, nC])
                first | refine lQ rfl ?_ | refine lP rfl ?_ | fail
                (try simp only [Act.put, nA, nB, nC])
                first | refine lQ rfl ?_ | (refine ⟨?_⟩; ((first | refine sL1 hS rfl rfl rfl ?_ | refine sL2 hS rfl rfl rfl ?_ | refine sL3 hS rfl rfl ?_ | refine sL4 hS rfl rfl ?_ | refine sL5 hS rfl rfl ?_ | refine sL6 hS rfl rfl ?_ | refine sL7 hS rfl rfl ?_)); refine WL.h ?_) | fail
                (try simp only [Act.put, nA, nB, nC])
                first | refine lQ rfl ?_ | refine lP rfl ?_ | fail
                (try simp only [Act.put, nA, nB, nC])
                first | refine lQ rfl ?_ | (refine ⟨?_⟩; ((first | refine sL1 hS rfl rfl rfl ?_ | refine sL2 hS rfl rfl rfl ?_ | refine sL3 hS rfl rfl ?_ | refine sL4 hS rfl rfl ?_ | refine sL5 hS rfl rfl ?_ | refine sL6 hS rfl rfl ?_ | refine sL7 hS rfl rfl ?_)); refine WL.h ?_) | fail
                (try simp only [Act.put, nA, nB, nC])
                first | refine lQ rfl ?_ | refine lP rfl ?_ | fail
                (try simp only [Act.put, nA, nB, nC])
                refine lP rfl ?_
                (try simp only [Act.put, nA, nB, nC])
                refine lM rfl rfl ?_
                (try simp only [Act.put, nA, nB, nC])
                first | refine lQ rfl ?_ | refine lP rfl ?_ | fail
                (try simp only [Act.put, nA, nB, nC])
                first | refine lQ rfl ?_ | (refine ⟨?_⟩; ((first | refine sL1 hS rfl rfl rfl ?_ | refine sL2 hS rfl rfl rfl ?_ | refine sL3 hS rfl rfl ?_ | refine sL4 hS rfl rfl ?_ | refine sL5 hS rfl rfl ?_ | refine sL6 hS rfl rfl ?_ | refine sL7 hS rfl rfl ?_)); refine WL.h ?_) | fail
                (try simp only [Act.put, nA, nB, nC])
                first | refine lQ rfl ?_ | refine lP rfl ?_ | fail
                (try simp only [Act.put, nA, nB, nC])
                first | refine lQ rfl ?_ | (refine ⟨?_⟩; ((first | refine sL1 hS rfl rfl rfl ?_ | refine sL2 hS rfl rfl rfl ?_ | refine sL3 hS rfl rfl ?_ | refine sL4 hS rfl rfl ?_ | refine sL5 hS rfl rfl ?_ | refine sL6 hS rfl rfl ?_ | refine sL7 hS rfl rfl ?_)); refine WL.h ?_) | fail
                (try simp only [Act.put, nA, nB, nC])
                first | refine lQ rfl ?_ | refine lP rfl ?_ | fail
                (try simp only [Act.put, nA, nB, nC])
                refine lP rfl ?_
                (try simp only [Act.put, nA, nB, nC])
                refine lZ ?_
                go_wp2_with (first | (refine oL ?_; (first | refine sL1 hS rfl rfl rfl ?_ | refine sL2 hS rfl rfl rfl ?_ | refine sL3 hS rfl rfl ?_ | refine sL4 hS rfl rfl ?_ | refine sL5 hS rfl rfl ?_ | refine sL6 hS rfl rfl ?_ | refine sL7 hS rfl rfl ?_)) | (refine oS ?_; ((first | refine sS1 hS rfl rfl rfl ?_ | refine sS2 hS rfl rfl rfl ?_ | refine sS3 hS rfl rfl rfl ?_ | refine sS4 hS rfl rfl rfl ?_ | refine sS5 hS rfl rfl rfl ?_); clear hS; intro w hS)) | (refine oP ?_; ((first | refine sP1 hS rfl rfl rfl ?_ | refine sP2 hS rfl rfl rfl ?_ | refine sP3 hS rfl rfl rfl ?_); clear hS; first | ((fail_if_success guard_hyp L1); intro L1 cl1 w hL1 hM1 hS) | ((fail_if_success guard_hyp L2); intro L2 cl2 w hL2 hM2 hS) | ((fail_if_success guard_hyp L3); intro L3 cl3 w hL3 hM3 hS) | ((fail_if_success guard_hyp L4); intro L4 cl4 w hL4 hM4 hS) | ((fail_if_success guard_hyp L5); intro L5 cl5 w hL5 hM5 hS) | fail)) | ((first | (refine oB ?_; first | refine sB1 hS rfl rfl ?_ | refine sB2 hS rfl rfl ?_) | refine sN1 hS rfl ?_ | (refine oC ?_; first | refine sC0 hS rfl ?_ | refine sC1 hS rfl rfl ?_ | refine sC2 hS rfl rfl ?_ | refine sC3 hS rfl rfl rfl ?_ | refine sC4 hS rfl rfl rfl ?_)); clear hS; first | ((fail_if_success guard_hyp g1); intro g1 w hS) | ((fail_if_success guard_hyp g2); intro g2 w hS) | ((fail_if_success guard_hyp g3); intro g3 w hS) | ((fail_if_success guard_hyp g4); intro g4 w hS) | ((fail_if_success guard_hyp g5); intro g5 w hS) | ((fail_if_success guard_hyp g6); intro g6 w hS) | ((fail_if_success guard_hyp g7); intro g7 w hS) | ((fail_if_success guard_hyp g8); intro g8 w hS) | ((fail_if_success guard_hyp g9); intro g9 w hS) | ((fail_if_success guard_hyp g10); intro g10 w hS) | ((fail_if_success guard_hyp g11); intro g11 w hS) | ((fail_if_success guard_hyp g12); intro g12 w hS) | ((fail_if_success guard_hyp g13); intro g13 w hS) | ((fail_if_success guard_hyp g14); intro g14 w hS) | fail) | fail)
                go_roundw
                case measure => simp [intOf]; omega
                exact ⟨i + 1, L, cl, l, by omega, by go_num, rfl, by omega, Lib.hid (by rw [HY.out]; exact HL.out), hS.re⟩
            · have d1 : decide (0 < ar.at_) = false := decide_eq_false h1
              have HY := Lib.hid (HNO.out (by rw [HST.out]; exact decide_eq_false (fun h => h1 h.1)))
              clear h1
              go_upto_region 12 with (first | (refine oL ?_; (first | refine sL1 hS rfl rfl rfl ?_ | refine sL2 hS rfl rfl rfl ?_ | refine sL3 hS rfl rfl ?_ | refine sL4 hS rfl rfl ?_ | refine sL5 hS rfl rfl ?_ | refine sL6 hS rfl rfl ?_ | refine sL7 hS rfl rfl ?_)) | (refine oS ?_; ((first | refine sS1 hS rfl rfl rfl ?_ | refine sS2 hS rfl rfl rfl ?_ | refine sS3 hS rfl rfl rfl ?_ | refine sS4 hS rfl rfl rfl ?_ | refine sS5 hS rfl rfl rfl ?_); clear hS; intro w hS)) | (refine oP ?_; ((first | refine sP1 hS rfl rfl rfl ?_ | refine sP2 hS rfl rfl rfl ?_ | refine sP3 hS rfl rfl rfl ?_); clear hS; first | ((fail_if_success guard_hyp L1); intro L1 cl1 w hL1 hM1 hS) | ((fail_if_success guard_hyp L2); intro L2 cl2 w hL2 hM2 hS) | ((fail_if_success guard_hyp L3); intro L3 cl3 w hL3 hM3 hS) | ((fail_if_success guard_hyp L4); intro L4 cl4 w hL4 hM4 hS) | ((fail_if_success guard_hyp L5); intro L5 cl5 w hL5 hM5 hS) | fail)) | ((first | (refine oB ?_; first | refine sB1 hS rfl rfl ?_ | refine sB2 hS rfl rfl ?_) | refine sN1 hS rfl ?_ | (refine oC ?_; first | refine sC0 hS rfl ?_ | refine sC1 hS rfl rfl ?_ | refine sC2 hS rfl rfl ?_ | refine sC3 hS rfl rfl rfl ?_ | refine sC4 hS rfl rfl rfl ?_)); clear hS; first | ((fail_if_success guard_hyp g1); intro g1 w hS) | ((fail_if_success guard_hyp g2); intro g2 w hS) | ((fail_if_success guard_hyp g3); intro g3 w hS) | ((fail_if_success guard_hyp g4); intro g4 w hS) | ((fail_if_success guard_hyp g5); intro g5 w hS) | ((fail_if_success guard_hyp g6); intro g6 w hS) | ((fail_if_success guard_hyp g7); intro g7 w hS) | ((fail_if_success guard_hyp g8); intro g8 w hS) | ((fail_if_success guard_hyp g9); intro g9 w hS) | ((fail_if_success guard_hyp g10); intro g10 w hS) | ((fail_if_success guard_hyp g11); intro g11 w hS) | ((fail_if_success guard_hyp g12); intro g12 w hS) | ((fail_if_success guard_hyp g13); intro g13 w hS) | ((fail_if_success guard_hyp g14); intro g14 w hS) | fail) | fail)
              refine lR ?_
              refine lP rfl ?_
              (try simp only [Act.put, nA, nB, nC])
              (refine ⟨?_⟩; ((first | refine sL1 hS rfl rfl rfl ?_ | refine sL2 hS rfl rfl rfl ?_ | refine sL3 hS rfl rfl ?_ | refine sL4 hS rfl rfl ?_ | refine sL5 hS rfl rfl ?_ | refine sL6 hS rfl rfl ?_ | refine sL7 hS rfl rfl ?_)); refine WL.h ?_)
              (try simp only [Act.put, nA, nB, nC])
              refine lP rfl ?_
              (try simp only [Act.put, nA, nB, nC])
              refine lM rfl rfl ?_
              (try simp only [Act.put, nA, nB, nC])
              first | refine lQ rfl ?_ | refine lP rfl ?_ | fail
              (try simp only [Act.put, nA, nB, nC])
              first | refine lQ rfl ?_ | (refine ⟨?_⟩; ((first | refine sL1 hS rfl rfl rfl ?_ | refine sL2 hS rfl rfl rfl ?_ | refine sL3 hS rfl rfl ?_ | refine sL4 hS rfl rfl ?_ | refine sL5 hS rfl rfl ?_ | refine sL6 hS rfl rfl ?_ | refine sL7 hS rfl rfl ?_)); refine WL.h ?_) | fail
              (try simp only [Act.put, nA, nB, nC])
              first | refine lQ rfl ?_ | refine lP rfl ?_ | fail
              (try simp only [Act.put, nA, nB, nC])
              first | refine lQ rfl ?_ | (refine ⟨?_⟩; ((first | refine sL1 hS rfl rfl rfl ?_ | refine sL2 hS rfl rfl rfl ?_ | refine sL3 hS rfl rfl ?_ | refine sL4 hS rfl rfl ?_ | refine sL5 hS rfl rfl ?_ | refine sL6 hS rfl rfl ?_ | refine sL7 hS rfl rfl ?_)); refine WL.h ?_) | fail
              (try simp only [Act.put, nA, nB, nC])
              first | refine lQ rfl ?_ | refine lP rfl ?_ | fail
              (try simp only [Act.put, nA, nB, nC])
              refine lP rfl ?_
              (try simp only [Act.put, nA, nB, nC])
              refine lM rfl rfl ?_
              (try simp only [Act.put, nA, nB, nC])
              first | refine lQ rfl ?_ | refine lP rfl ?_ | fail
              (try simp only [Act.put, nA, nB, nC])
              first | refine lQ rfl ?_ | (refine ⟨?_⟩; ((first | refine sL1 hS rfl rfl rfl ?_ | refine sL2 hS rfl rfl rfl ?_ | refine sL3 hS rfl rfl ?_ | refine sL4 hS rfl rfl ?_ | refine sL5 hS rfl rfl ?_ | refine sL6 hS rfl rfl ?_ | refine sL7 hS rfl rfl ?_)); refine WL.h ?_) | fail
              (try simp only [Act.put, nA, nB, nC])
              first | refine lQ rfl ?_ | refine lP rfl ?_ | fail
              (try simp only [Act.put, nA, nB, nC])
              first | refine lQ rfl ?_ | (refine ⟨?_⟩; ((first | refine sL1 hS rfl rfl rfl ?_ | refine sL2 hS rfl rfl rfl ?_ | refine sL3 hS rfl rfl ?_ | refine sL4 hS rfl rfl ?_ | refine sL5 hS rfl rfl ?_ | refine sL6 hS rfl rfl ?_ | refine sL7 hS rfl rfl ?_)); refine WL.h ?_) | fail
              (try simp only [Act.put, nA, nB, nC])
              first | refine lQ rfl ?_ | refine lP rfl ?_ | fail
              (try simp only [Act.put, nA, nB, nC])
              refine lP rfl ?_
              (try simp only [Act.put, nA, nB, nC])
              refine lZ ?_
              go_wp2_with (first | (refine oL ?_; (first | refine sL1 hS rfl rfl rfl ?_ | refine sL2 hS rfl rfl rfl ?_ | refine sL3 hS rfl rfl ?_ | refine sL4 hS rfl rfl ?_ | refine sL5 hS rfl rfl ?_ | refine sL6 hS rfl rfl ?_ | refine sL7 hS rfl rfl ?_)) | (refine oS ?_; ((first | refine sS1 hS rfl rfl rfl ?_ | refine sS2 hS rfl rfl rfl ?_ | refine sS3 hS rfl rfl rfl ?_ | refine sS4 hS rfl rfl rfl ?_ | refine sS5 hS rfl rfl rfl ?_); clear hS; intro w hS)) | (refine oP ?_; ((first | refine sP1 hS rfl rfl rfl ?_ | refine sP2 hS rfl rfl rfl ?_ | refine sP3 hS rfl rfl rfl ?_); clear hS; first | ((fail_if_success guard_hyp L1); intro L1 cl1 w hL1 hM1 hS) | ((fail_if_success guard_hyp L2); intro L2 cl2 w hL2 hM2 hS) | ((fail_if_success guard_hyp L3); intro L3 cl3 w hL3 hM3 hS) | ((fail_if_success guard_hyp L4); intro L4 cl4 w hL4 hM4 hS) | ((fail_if_success guard_hyp L5); intro L5 cl5 w hL5 hM5 hS) | fail)) | ((first | (refine oB ?_; first | refine sB1 hS rfl rfl ?_ | refine sB2 hS rfl rfl ?_) | refine sN1 hS rfl ?_ | (refine oC ?_; first | refine sC0 hS rfl ?_ | refine sC1 hS rfl rfl ?_ | refine sC2 hS rfl rfl ?_ | refine sC3 hS rfl rfl rfl ?_ | refine sC4 hS rfl rfl rfl ?_)); clear hS; first | ((fail_if_success guard_hyp g1); intro g1 w hS) | ((fail_if_success guard_hyp g2); intro g2 w hS) | ((fail_if_success guard_hyp g3); intro g3 w hS) | ((fail_if_success guard_hyp g4); intro g4 w hS) | ((fail_if_success guard_hyp g5); intro g5 w hS) | ((fail_if_success guard_hyp g6); intro g6 w hS) | ((fail_if_success guard_hyp g7); intro g7 w hS) | ((fail_if_success guard_hyp g8); intro g8 w hS) | ((fail_if_success guard_hyp g9); intro g9 w hS) | ((fail_if_success guard_hyp g10); intro g10 w hS) | ((fail_if_success guard_hyp g11); intro g11 w hS) | ((fail_if_success guard_hyp g12); intro g12 w hS) | ((fail_if_success guard_hyp g13); intro g13 w hS) | ((fail_if_success guard_hyp g14); intro g14 w hS) | fail) | fail)
              go_roundw
              case measure => simp [intOf]; omega
              exact ⟨i + 1, L, cl, l, by omega, by go_num, rfl, by omega, Lib.hid (by rw [HY.out]; exact HL.out), hS.re⟩
          · have HLP := Lib.hid (fun y => (show y ∈ l ↔ Pred p (q, k) y by rw [HL.out, show i = p.arcs.length by omega]; exact mem_nexts HP.out.2.1))
            clear HL
            go_wp2_with (first | (refine oL ?_; (first | refine sL1 hS rfl rfl rfl ?_ | refine sL2 hS rfl rfl rfl ?_ | refine sL3 hS rfl rfl ?_ | refine sL4 hS rfl rfl ?_ | refine sL5 hS rfl rfl ?_ | refine sL6 hS rfl rfl ?_ | refine sL7 hS rfl rfl ?_)) | (refine oS ?_; ((first | refine sS1 hS rfl rfl rfl ?_ | refine sS2 hS rfl rfl rfl ?_ | refine sS3 hS rfl rfl rfl ?_ | refine sS4 hS rfl rfl rfl ?_ | refine sS5 hS rfl rfl rfl ?_); clear hS; intro w hS)) | (refine oP ?_; ((first | refine sP1 hS rfl rfl rfl ?_ | refine sP2 hS rfl rfl rfl ?_ | refine sP3 hS rfl rfl rfl ?_); clear hS; first | ((fail_if_success guard_hyp L1); intro L1 cl1 w hL1 hM1 hS) | ((fail_if_success guard_hyp L2); intro L2 cl2 w hL2 hM2 hS) | ((fail_if_success guard_hyp L3); intro L3 cl3 w hL3 hM3 hS) | ((fail_if_success guard_hyp L4); intro L4 cl4 w hL4 hM4 hS) | ((fail_if_success guard_hyp L5); intro L5 cl5 w hL5 hM5 hS) | fail)) | ((first | (refine oB ?_; first | refine sB1 hS rfl rfl ?_ | refine sB2 hS rfl rfl ?_) | refine sN1 hS rfl ?_ | (refine oC ?_; first | refine sC0 hS rfl ?_ | refine sC1 hS rfl rfl ?_ | refine sC2 hS rfl rfl ?_ | refine sC3 hS rfl rfl rfl ?_ | refine sC4 hS rfl rfl rfl ?_)); clear hS; first | ((fail_if_success guard_hyp g1); intro g1 w hS) | ((fail_if_success guard_hyp g2); intro g2 w hS) | ((fail_if_success guard_hyp g3); intro g3 w hS) | ((fail_if_success guard_hyp g4); intro g4 w hS) | ((fail_if_success guard_hyp g5); intro g5 w hS) | ((fail_if_success guard_hyp g6); intro g6 w hS) | ((fail_if_success guard_hyp g7); intro g7 w hS) | ((fail_if_success guard_hyp g8); intro g8 w hS) | ((fail_if_success guard_hyp g9); intro g9 w hS) | ((fail_if_success guard_hyp g10); intro g10 w hS) | ((fail_if_success guard_hyp g11); intro g11 w hS) | ((fail_if_success guard_hyp g12); intro g12 w hS) | ((fail_if_success guard_hyp g13); intro g13 w hS) | ((fail_if_success guard_hyp g14); intro g14 w hS) | fail) | fail)
            go_loopw [7, 8, 82] (fun s7 s8 s82 wr => ∃ (j : Nat) (s t : List (Nat × Int)) (Ls : Option Addr) (cs : Nat) (Lt : Option Addr) (ct : Nat), j ≤ l.length ∧ s82 = .int .i64 j ∧ s7 = .slice Ls s.length cs ∧ s8 = .slice Lt t.length ct ∧ s.length ≤ 325 ∧ t.length ≤ 651 ∧ Hid (Fol p (qa, ka) (qb, kb) s t (some (q, k)) ∧ s.length + unseen p (inL s) ≤ 325 ∧ 2 * unseen p (inL s) + t.length < kk ∧ ∀ y ∈ l.take j, y ∈ s) ∧ St w0 NoM [row (.slice L l.length cl) 37 2 l.length (l.flatMap ptCells), row (.slice Ls s.length cs) 37 2 s.length (s.flatMap ptCells), row (.slice Lt t.length ct) 37 2 t.length (t.flatMap ptCells), blk g6 [.int .i64 (q : Int), .int .i64 k] 37, blk g3 [.int .i64 (qb : Int), .int .i64 kb] 37, blk g2 [.int .i64 (qa : Int), .int .i64 ka] 37, blk g1 [.slice A1 p.len.length c1, .slice A2 p.ck.length c2, .slice A3 p.arcs.length c3] 28] wr) (fun _ _ s82 _ => l.length - (intOf s82).toNat)
            case atStart => exact ⟨0, s, t', Ls, cs, some ⟨gt, 0, none⟩, ct, by omega, rfl, rfl, rfl, by omega, by omega, Lib.hid ⟨HX2.out.1, HX2.out.2.1, HX2.out.2.2.1, by simp⟩, hS.re⟩
            case round =>
              have HKK := Lib.hid HX2.out.2.2.2
              clear hS HX2 hs325 ht651 hcap hcap1 hlt1
              obtain ⟨j, s, t, Ls, cs, Lt, ct, hj, rfl, rfl, rfl, hs325, ht651, HI, hS⟩ := hrel
              by_cases hjl : j < l.length
              · obtain ⟨gl, rfl⟩ := hS.rowSome L (by omega)
                have HPT := Lib.hid (pt_at' hjl)
                have HYP := Lib.hid ((HLP.out l[j]).1 (List.getElem_mem hjl))
                have HT := Lib.hid (List.take_succ_eq_append_getElem hjl)
                generalize l[j] = y at *
                obtain ⟨qy, ky⟩ := y
                have HYR := Lib.hid (And.intro (HYP.out.ok HP.out.2.1 HXP.out.1) (HXP.out.2.step HYP.out))
                by_cases hya : (qy, ky) = (qa, ka)
                · have HYA := Lib.hid hya
                  clear hya
                  go_upto_region 18 with (first | (refine oL ?_; refine sL8 hS rfl rfl HPT.out rfl ?_) | (refine oL ?_; (first | refine sL1 hS rfl rfl rfl ?_ | refine sL2 hS rfl rfl rfl ?_ | refine sL3 hS rfl rfl ?_ | refine sL4 hS rfl rfl ?_ | refine sL5 hS rfl rfl ?_ | refine sL6 hS rfl rfl ?_ | refine sL7 hS rfl rfl ?_)) | (refine oS ?_; ((first | refine sS1 hS rfl rfl rfl ?_ | refine sS2 hS rfl rfl rfl ?_ | refine sS3 hS rfl rfl rfl ?_ | refine sS4 hS rfl rfl rfl ?_ | refine sS5 hS rfl rfl rfl ?_); clear hS; intro w hS)) | (refine oP ?_; ((first | refine sP1 hS rfl rfl rfl ?_ | refine sP2 hS rfl rfl rfl ?_ | refine sP3 hS rfl rfl rfl ?_); clear hS; first | ((fail_if_success guard_hyp L1); intro L1 cl1 w hL1 hM1 hS) | ((fail_if_success guard_hyp L2); intro L2 cl2 w hL2 hM2 hS) | ((fail_if_success guard_hyp L3); intro L3 cl3 w hL3 hM3 hS) | ((fail_if_success guard_hyp L4); intro L4 cl4 w hL4 hM4 hS) | ((fail_if_success guard_hyp L5); intro L5 cl5 w hL5 hM5 hS) | fail)) | ((first | (refine oB ?_; first | refine sB1 hS rfl rfl ?_ | refine sB2 hS rfl rfl ?_) | refine sN1 hS rfl ?_ | (refine oC ?_; first | refine sC0 hS rfl ?_ | refine sC1 hS rfl rfl ?_ | refine sC2 hS rfl rfl ?_ | refine sC3 hS rfl rfl rfl ?_ | refine sC4 hS rfl rfl rfl ?_)); clear hS; first | ((fail_if_success guard_hyp g1); intro g1 w hS) | ((fail_if_success guard_hyp g2); intro g2 w hS) | ((fail_if_success guard_hyp g3); intro g3 w hS) | ((fail_if_success guard_hyp g4); intro g4 w hS) | ((fail_if_success guard_hyp g5); intro g5 w hS) | ((fail_if_success guard_hyp g6); intro g6 w hS) | ((fail_if_success guard_hyp g7); intro g7 w hS) | ((fail_if_success guard_hyp g8); intro g8 w hS) | ((fail_if_success guard_hyp g9); intro g9 w hS) | ((fail_if_success guard_hyp g10); intro g10 w hS) | ((fail_if_success guard_hyp g11); intro g11 w hS) | ((fail_if_success guard_hyp g12); intro g12 w hS) | ((fail_if_success guard_hyp g13); intro g13 w hS) | ((fail_if_success guard_hyp g14); intro g14 w hS) | fail) | fail)
                  refine lR ?_
                  (refine ⟨?_⟩; ((first | refine sL1 hS rfl rfl rfl ?_ | refine sL2 hS rfl rfl rfl ?_ | refine sL3 hS rfl rfl ?_ | refine sL4 hS rfl rfl ?_ | refine sL5 hS rfl rfl ?_ | refine sL6 hS rfl rfl ?_ | refine sL7 hS rfl rfl ?_)); refine WL.h ?_)
                  (try simp only [Act.put, nA, nB, nC])
                  (refine ⟨?_⟩; ((first | refine sL1 hS rfl rfl rfl ?_ | refine sL2 hS rfl rfl rfl ?_ | refine sL3 hS rfl rfl ?_ | refine sL4 hS rfl rfl ?_ | refine sL5 hS rfl rfl ?_ | refine sL6 hS rfl rfl ?_ | refine sL7 hS rfl rfl ?_)); refine WL.h ?_)
                  (try simp only [Act.put, nA, nB, nC])
                  (refine ⟨?_⟩; (refine sEq rfl rfl rfl ?_; intro r hr; obtain rfl : r = true := hr.2 HYA.out; clear hr); refine WL.h ?_)
                  (try simp only [Act.put, nA, nB, nC])
                  refine lZ ?_
                  go_wp2_with (first | (refine oL ?_; (first | refine sL1 hS rfl rfl rfl ?_ | refine sL2 hS rfl rfl rfl ?_ | refine sL3 hS rfl rfl ?_ | refine sL4 hS rfl rfl ?_ | refine sL5 hS rfl rfl ?_ | refine sL6 hS rfl rfl ?_ | refine sL7 hS rfl rfl ?_)) | (refine oS ?_; ((first | refine sS1 hS rfl rfl rfl ?_ | refine sS2 hS rfl rfl rfl ?_ | refine sS3 hS rfl rfl rfl ?_ | refine sS4 hS rfl rfl rfl ?_ | refine sS5 hS rfl rfl rfl ?_); clear hS; intro w hS)) | (refine oP ?_; ((first | refine sP1 hS rfl rfl rfl ?_ | refine sP2 hS rfl rfl rfl ?_ | refine sP3 hS rfl rfl rfl ?_); clear hS; first | ((fail_if_success guard_hyp L1); intro L1 cl1 w hL1 hM1 hS) | ((fail_if_success guard_hyp L2); intro L2 cl2 w hL2 hM2 hS) | ((fail_if_success guard_hyp L3); intro L3 cl3 w hL3 hM3 hS) | ((fail_if_success guard_hyp L4); intro L4 cl4 w hL4 hM4 hS) | ((fail_if_success guard_hyp L5); intro L5 cl5 w hL5 hM5 hS) | fail)) | ((first | (refine oB ?_; first | refine sB1 hS rfl rfl ?_ | refine sB2 hS rfl rfl ?_) | refine sN1 hS rfl ?_ | (refine oC ?_; first | refine sC0 hS rfl ?_ | refine sC1 hS rfl rfl ?_ | refine sC2 hS rfl rfl ?_ | refine sC3 hS rfl rfl rfl ?_ | refine sC4 hS rfl rfl rfl ?_)); clear hS; first | ((fail_if_success guard_hyp g1); intro g1 w hS) | ((fail_if_success guard_hyp g2); intro g2 w hS) | ((fail_if_success guard_hyp g3); intro g3 w hS) | ((fail_if_success guard_hyp g4); intro g4 w hS) | ((fail_if_success guard_hyp g5); intro g5 w hS) | ((fail_if_success guard_hyp g6); intro g6 w hS) | ((fail_if_success guard_hyp g7); intro g7 w hS) | ((fail_if_success guard_hyp g8); intro g8 w hS) | ((fail_if_success guard_hyp g9); intro g9 w hS) | ((fail_if_success guard_hyp g10); intro g10 w hS) | ((fail_if_success guard_hyp g11); intro g11 w hS) | ((fail_if_success guard_hyp g12); intro g12 w hS) | ((fail_if_success guard_hyp g13); intro g13 w hS) | ((fail_if_success guard_hyp g14); intro g14 w hS) | fail) | fail)
                  go_ret
                  exact ⟨true, ⟨fun _ => hit HP.out.2.1 HP.out.2.2.2 HXP.out.2 (by rw [← HYA.out]; exact HYP.out), fun _ => rfl⟩, rfl, hS.toExt⟩
                · have HYA := Lib.hid hya
                  clear hya
                  go_upto_region 18 with (first | (refine oL ?_; refine sL8 hS rfl rfl HPT.out rfl ?_) | (refine oL ?_; (first | refine sL1 hS rfl rfl rfl ?_ | refine sL2 hS rfl rfl rfl ?_ | refine sL3 hS rfl rfl ?_ | refine sL4 hS rfl rfl ?_ | refine sL5 hS rfl rfl ?_ | refine sL6 hS rfl rfl ?_ | refine sL7 hS rfl rfl ?_)) | (refine oS ?_; ((first | refine sS1 hS rfl rfl rfl ?_ | refine sS2 hS rfl rfl rfl ?_ | refine sS3 hS rfl rfl rfl ?_ | refine sS4 hS rfl rfl rfl ?_ | refine sS5 hS rfl rfl rfl ?_); clear hS; intro w hS)) | (refine oP ?_; ((first | refine sP1 hS rfl rfl rfl ?_ | refine sP2 hS rfl rfl rfl ?_ | refine sP3 hS rfl rfl rfl ?_); clear hS; first | ((fail_if_success guard_hyp L1); intro L1 cl1 w hL1 hM1 hS) | ((fail_if_success guard_hyp L2); intro L2 cl2 w hL2 hM2 hS) | ((fail_if_success guard_hyp L3); intro L3 cl3 w hL3 hM3 hS) | ((fail_if_success guard_hyp L4); intro L4 cl4 w hL4 hM4 hS) | ((fail_if_success guard_hyp L5); intro L5 cl5 w hL5 hM5 hS) | fail)) | ((first | (refine oB ?_; first | refine sB1 hS rfl rfl ?_ | refine sB2 hS rfl rfl ?_) | refine sN1 hS rfl ?_ | (refine oC ?_; first | refine sC0 hS rfl ?_ | refine sC1 hS rfl rfl ?_ | refine sC2 hS rfl rfl ?_ | refine sC3 hS rfl rfl rfl ?_ | refine sC4 hS rfl rfl rfl ?_)); clear hS; first | ((fail_if_success guard_hyp g1); intro g1 w hS) | ((fail_if_success guard_hyp g2); intro g2 w hS) | ((fail_if_success guard_hyp g3); intro g3 w hS) | ((fail_if_success guard_hyp g4); intro g4 w hS) | ((fail_if_success guard_hyp g5); intro g5 w hS) | ((fail_if_success guard_hyp g6); intro g6 w hS) | ((fail_if_success guard_hyp g7); intro g7 w hS) | ((fail_if_success guard_hyp g8); intro g8 w hS) | ((fail_if_success guard_hyp g9); intro g9 w hS) | ((fail_if_success guard_hyp g10); intro g10 w hS) | ((fail_if_success guard_hyp g11); intro g11 w hS) | ((fail_if_success guard_hyp g12); intro g12 w hS) | ((fail_if_success guard_hyp g13); intro g13 w hS) | ((fail_if_success guard_hyp g14); intro g14 w hS) | fail) | fail)
                  refine lR ?_
                  (refine ⟨?_⟩; ((first | refine sL1 hS rfl rfl rfl ?_ | refine sL2 hS rfl rfl rfl ?_ | refine sL3 hS rfl rfl ?_ | refine sL4 hS rfl rfl ?_ | refine sL5 hS rfl rfl ?_ | refine sL6 hS rfl rfl ?_ | refine sL7 hS rfl rfl ?_)); refine WL.h ?_)
                  (try simp only [Act.put, nA, nB, nC])
                  (refine ⟨?_⟩; ((first | refine sL1 hS rfl rfl rfl ?_ | refine sL2 hS rfl rfl rfl ?_ | refine sL3 hS rfl rfl ?_ | refine sL4 hS rfl rfl ?_ | refine sL5 hS rfl rfl ?_ | refine sL6 hS rfl rfl ?_ | refine sL7 hS rfl rfl ?_)); refine WL.h ?_)
                  (try simp only [Act.put, nA, nB, nC])
                  (refine ⟨?_⟩; (refine sEq rfl rfl rfl ?_; intro r hr; obtain rfl : r = false := (by cases r; rfl; exact absurd (hr.1 rfl) HYA.out); clear hr); refine WL.h ?_)
                  (try simp only [Act.put, nA, nB, nC])
                  refine lZ ?_
                  go_wp2_with (first | (refine oL ?_; (first | refine sL1 hS rfl rfl rfl ?_ | refine sL2 hS rfl rfl rfl ?_ | refine sL3 hS rfl rfl ?_ | refine sL4 hS rfl rfl ?_ | refine sL5 hS rfl rfl ?_ | refine sL6 hS rfl rfl ?_ | refine sL7 hS rfl rfl ?_)) | (refine oS ?_; ((first | refine sS1 hS rfl rfl rfl ?_ | refine sS2 hS rfl rfl rfl ?_ | refine sS3 hS rfl rfl rfl ?_ | refine sS4 hS rfl rfl rfl ?_ | refine sS5 hS rfl rfl rfl ?_); clear hS; intro w hS)) | (refine oP ?_; ((first | refine sP1 hS rfl rfl rfl ?_ | refine sP2 hS rfl rfl rfl ?_ | refine sP3 hS rfl rfl rfl ?_); clear hS; first | ((fail_if_success guard_hyp L1); intro L1 cl1 w hL1 hM1 hS) | ((fail_if_success guard_hyp L2); intro L2 cl2 w hL2 hM2 hS) | ((fail_if_success guard_hyp L3); intro L3 cl3 w hL3 hM3 hS) | ((fail_if_success guard_hyp L4); intro L4 cl4 w hL4 hM4 hS) | ((fail_if_success guard_hyp L5); intro L5 cl5 w hL5 hM5 hS) | fail)) | ((first | (refine oB ?_; first | refine sB1 hS rfl rfl ?_ | refine sB2 hS rfl rfl ?_) | refine sN1 hS rfl ?_ | (refine oC ?_; first | refine sC0 hS rfl ?_ | refine sC1 hS rfl rfl ?_ | refine sC2 hS rfl rfl ?_ | refine sC3 hS rfl rfl rfl ?_ | refine sC4 hS rfl rfl rfl ?_)); clear hS; first | ((fail_if_success guard_hyp g1); intro g1 w hS) | ((fail_if_success guard_hyp g2); intro g2 w hS) | ((fail_if_success guard_hyp g3); intro g3 w hS) | ((fail_if_success guard_hyp g4); intro g4 w hS) | ((fail_if_success guard_hyp g5); intro g5 w hS) | ((fail_if_success guard_hyp g6); intro g6 w hS) | ((fail_if_success guard_hyp g7); intro g7 w hS) | ((fail_if_success guard_hyp g8); intro g8 w hS) | ((fail_if_success guard_hyp g9); intro g9 w hS) | ((fail_if_success guard_hyp g10); intro g10 w hS) | ((fail_if_success guard_hyp g11); intro g11 w hS) | ((fail_if_success guard_hyp g12); intro g12 w hS) | ((fail_if_success guard_hyp g13); intro g13 w hS) | ((fail_if_success guard_hyp g14); intro g14 w hS) | fail) | fail)
                  go_loopw [15, 91] (fun s15 s91 wr => ∃ (i : Nat) (kn : Bool), i ≤ s.length ∧ s91 = .int .i64 i ∧ s15 = .bool kn ∧ Hid (kn = true ↔ (qy, ky) ∈ s.take i) ∧ St w0 NoM [blk g7 [.int .i64 (qy : Int), .int .i64 ky] 37, row (.slice (some ⟨gl, 0, none⟩) l.length cl) 37 2 l.length (l.flatMap ptCells), row (.slice Ls s.length cs) 37 2 s.length (s.flatMap ptCells), row (.slice Lt t.length ct) 37 2 t.length (t.flatMap ptCells), blk g6 [.int .i64 (q : Int), .int .i64 k] 37, blk g3 [.int .i64 (qb : Int), .int .i64 kb] 37, blk g2 [.int .i64 (qa : Int), .int .i64 ka] 37, blk g1 [.slice A1 p.len.length c1, .slice A2 p.ck.length c2, .slice A3 p.arcs.length c3] 28] wr) (fun _ s91 _ => s.length - (intOf s91).toNat)
                  case atStart => exact ⟨0, false, by omega, rfl, rfl, Lib.hid (by simp), hS.re⟩
                  case round =>
                    clear hS
                    obtain ⟨i, kn, hi, rfl, rfl, HKN, hS⟩ := hrel
                    by_cases hil : i < s.length
                    · obtain ⟨gs, rfl⟩ := hS.rowSome Ls (by omega)
                      have HPZ := Lib.hid (pt_at' hil)
                      have HTK := Lib.hid (fun kb' h => take_known (kb' := kb') hil HKN.out h)
                      clear HKN
                      generalize s[i] = z at *
                      obtain ⟨qz, kz⟩ := z
                      cases kn with
                      | true =>
                        go_upto_region 24 with (first | (refine oL ?_; refine sL8 hS rfl rfl HPZ.out rfl ?_) | (refine oL ?_; (first | refine sL1 hS rfl rfl rfl ?_ | refine sL2 hS rfl rfl rfl ?_ | refine sL3 hS rfl rfl ?_ | refine sL4 hS rfl rfl ?_ | refine sL5 hS rfl rfl ?_ | refine sL6 hS rfl rfl ?_ | refine sL7 hS rfl rfl ?_)) | (refine oS ?_; ((first | refine sS1 hS rfl rfl rfl ?_ | refine sS2 hS rfl rfl rfl ?_ | refine sS3 hS rfl rfl rfl ?_ | refine sS4 hS rfl rfl rfl ?_ | refine sS5 hS rfl rfl rfl ?_); clear hS; intro w hS)) | (refine oP ?_; ((first | refine sP1 hS rfl rfl rfl ?_ | refine sP2 hS rfl rfl rfl ?_ | refine sP3 hS rfl rfl rfl ?_); clear hS; first | ((fail_if_success guard_hyp L1); intro L1 cl1 w hL1 hM1 hS) | ((fail_if_success guard_hyp L2); intro L2 cl2 w hL2 hM2 hS) | ((fail_if_success guard_hyp L3); intro L3 cl3 w hL3 hM3 hS) | ((fail_if_success guard_hyp L4); intro L4 cl4 w hL4 hM4 hS) | ((fail_if_success guard_hyp L5); intro L5 cl5 w hL5 hM5 hS) | fail)) | ((first | (refine oB ?_; first | refine sB1 hS rfl rfl ?_ | refine sB2 hS rfl rfl ?_) | refine sN1 hS rfl ?_ | (refine oC ?_; first | refine sC0 hS rfl ?_ | refine sC1 hS rfl rfl ?_ | refine sC2 hS rfl rfl ?_ | refine sC3 hS rfl rfl rfl ?_ | refine sC4 hS rfl rfl rfl ?_)); clear hS; first | ((fail_if_success guard_hyp g1); intro g1 w hS) | ((fail_if_success guard_hyp g2); intro g2 w hS) | ((fail_if_success guard_hyp g3); intro g3 w hS) | ((fail_if_success guard_hyp g4); intro g4 w hS) | ((fail_if_success guard_hyp g5); intro g5 w hS) | ((fail_if_success guard_hyp g6); intro g6 w hS) | ((fail_if_success guard_hyp g7); intro g7 w hS) | ((fail_if_success guard_hyp g8); intro g8 w hS) | ((fail_if_success guard_hyp g9); intro g9 w hS) | ((fail_if_success guard_hyp g10); intro g10 w hS) | ((fail_if_success guard_hyp g11); intro g11 w hS) | ((fail_if_success guard_hyp g12); intro g12 w hS) | ((fail_if_success guard_hyp g13); intro g13 w hS) | ((fail_if_success guard_hyp g14); intro g14 w hS) | fail) | fail)
                        refine lR ?_
                        refine lM rfl rfl ?_
                        (try simp only [Act.put, nA, nB, nC])
                        refine lM rfl rfl ?_
                        (try simp only [Act.put, nA, nB, nC])
                        first | refine lQ rfl ?_ | (refine ⟨?_⟩; ((first | refine sL1 hS rfl rfl rfl ?_ | refine sL2 hS rfl rfl rfl ?_ | refine sL3 hS rfl rfl ?_ | refine sL4 hS rfl rfl ?_ | refine sL5 hS rfl rfl ?_ | refine sL6 hS rfl rfl ?_ | refine sL7 hS rfl rfl ?_)); refine WL.h ?_) | fail
                        (try simp only [Act.put, nA, nB, nC])
                        first | refine lQ rfl ?_ | (refine ⟨?_⟩; ((first | refine sL1 hS rfl rfl rfl ?_ | refine sL2 hS rfl rfl rfl ?_ | refine sL3 hS rfl rfl ?_ | refine sL4 hS rfl rfl ?_ | refine sL5 hS rfl rfl ?_ | refine sL6 hS rfl rfl ?_ | refine sL7 hS rfl rfl ?_)); refine WL.h ?_) | fail
                        (try simp only [Act.put, nA, nB, nC])
                        first | refine lQ rfl ?_ | refine lP rfl ?_ | fail
                        (try simp only [Act.put, nA, nB, nC])
                        refine lP rfl ?_
                        (try simp only [Act.put, nA, nB, nC])
                        refine lA rfl rfl ?_
                        (try simp only [Act.put, nA, nB, nC])
                        refine lZ ?_
                        go_wp2_with (first | (refine oL ?_; (first | refine sL1 hS rfl rfl rfl ?_ | refine sL2 hS rfl rfl rfl ?_ | refine sL3 hS rfl rfl ?_ | refine sL4 hS rfl rfl ?_ | refine sL5 hS rfl rfl ?_ | refine sL6 hS rfl rfl ?_ | refine sL7 hS rfl rfl ?_)) | (refine oS ?_; ((first | refine sS1 hS rfl rfl rfl ?_ | refine sS2 hS rfl rfl rfl ?_ | refine sS3 hS rfl rfl rfl ?_ | refine sS4 hS rfl rfl rfl ?_ | refine sS5 hS rfl rfl rfl ?_); clear hS; intro w hS)) | (refine oP ?_; ((first | refine sP1 hS rfl rfl rfl ?_ | refine sP2 hS rfl rfl rfl ?_ | refine sP3 hS rfl rfl rfl ?_); clear hS; first | ((fail_if_success guard_hyp L1); intro L1 cl1 w hL1 hM1 hS) | ((fail_if_success guard_hyp L2); intro L2 cl2 w hL2 hM2 hS) | ((fail_if_success guard_hyp L3); intro L3 cl3 w hL3 hM3 hS) | ((fail_if_success guard_hyp L4); intro L4 cl4 w hL4 hM4 hS) | ((fail_if_success guard_hyp L5); intro L5 cl5 w hL5 hM5 hS) | fail)) | ((first | (refine oB ?_; first | refine sB1 hS rfl rfl ?_ | refine sB2 hS rfl rfl ?_) | refine sN1 hS rfl ?_ | (refine oC ?_; first | refine sC0 hS rfl ?_ | refine sC1 hS rfl rfl ?_ | refine sC2 hS rfl rfl ?_ | refine sC3 hS rfl rfl rfl ?_ | refine sC4 hS rfl rfl rfl ?_)); clear hS; first | ((fail_if_success guard_hyp g1); intro g1 w hS) | ((fail_if_success guard_hyp g2); intro g2 w hS) | ((fail_if_success guard_hyp g3); intro g3 w hS) | ((fail_if_success guard_hyp g4); intro g4 w hS) | ((fail_if_success guard_hyp g5); intro g5 w hS) | ((fail_if_success guard_hyp g6); intro g6 w hS) | ((fail_if_success guard_hyp g7); intro g7 w hS) | ((fail_if_success guard_hyp g8); intro g8 w hS) | ((fail_if_success guard_hyp g9); intro g9 w hS) | ((fail_if_success guard_hyp g10); intro g10 w hS) | ((fail_if_success guard_hyp g11); intro g11 w hS) | ((fail_if_success guard_hyp g12); intro g12 w hS) | ((fail_if_success guard_hyp g13); intro g13 w hS) | ((fail_if_success guard_hyp g14); intro g14 w hS) | fail) | fail)
                        go_roundw
                        case measure => simp [intOf]; omega
                        exact ⟨i + 1, true, by omega, by go_num, rfl, Lib.hid (HTK.out true (by simp)), hS.re⟩
                      | false =>
                        go_upto_region 24 with (first | (refine oL ?_; refine sL8 hS rfl rfl HPZ.out rfl ?_) | (refine oL ?_; (first | refine sL1 hS rfl rfl rfl ?_ | refine sL2 hS rfl rfl rfl ?_ | refine sL3 hS rfl rfl ?_ | refine sL4 hS rfl rfl ?_ | refine sL5 hS rfl rfl ?_ | refine sL6 hS rfl rfl ?_ | refine sL7 hS rfl rfl ?_)) | (refine oS ?_; ((first | refine sS1 hS rfl rfl rfl ?_ | refine sS2 hS rfl rfl rfl ?_ | refine sS3 hS rfl rfl rfl ?_ | refine sS4 hS rfl rfl rfl ?_ | refine sS5 hS rfl rfl rfl ?_); clear hS; intro w hS)) | (refine oP ?_; ((first | refine sP1 hS rfl rfl rfl ?_ | refine sP2 hS rfl rfl rfl ?_ | refine sP3 hS rfl rfl rfl ?_); clear hS; first | ((fail_if_success guard_hyp L1); intro L1 cl1 w hL1 hM1 hS) | ((fail_if_success guard_hyp L2); intro L2 cl2 w hL2 hM2 hS) | ((fail_if_success guard_hyp L3); intro L3 cl3 w hL3 hM3 hS) | ((fail_if_success guard_hyp L4); intro L4 cl4 w hL4 hM4 hS) | ((fail_if_success guard_hyp L5); intro L5 cl5 w hL5 hM5 hS) | fail)) | ((first | (refine oB ?_; first | refine sB1 hS rfl rfl ?_ | refine sB2 hS rfl rfl ?_) | refine sN1 hS rfl ?_ | (refine oC ?_; first | refine sC0 hS rfl ?_ | refine sC1 hS rfl rfl ?_ | refine sC2 hS rfl rfl ?_ | refine sC3 hS rfl rfl rfl ?_ | refine sC4 hS rfl rfl rfl ?_)); clear hS; first | ((fail_if_success guard_hyp g1); intro g1 w hS) | ((fail_if_success guard_hyp g2); intro g2 w hS) | ((fail_if_success guard_hyp g3); intro g3 w hS) | ((fail_if_success guard_hyp g4); intro g4 w hS) | ((fail_if_success guard_hyp g5); intro g5 w hS) | ((fail_if_success guard_hyp g6); intro g6 w hS) | ((fail_if_success guard_hyp g7); intro g7 w hS) | ((fail_if_success guard_hyp g8); intro g8 w hS) | ((fail_if_success guard_hyp g9); intro g9 w hS) | ((fail_if_success guard_hyp g10); intro g10 w hS) | ((fail_if_success guard_hyp g11); intro g11 w hS) | ((fail_if_success guard_hyp g12); intro g12 w hS) | ((fail_if_success guard_hyp g13); intro g13 w hS) | ((fail_if_success guard_hyp g14); intro g14 w hS) | fail) | fail)
                        refine lR ?_
                        refine lM rfl rfl ?_
                        (try simp only [Act.put, nA, nB, nC])
                        refine lM rfl rfl ?_
                        (try simp only [Act.put, nA, nB, nC])
                        first | refine lQ rfl ?_ | (refine ⟨?_⟩; ((first | refine sL1 hS rfl rfl rfl ?_ | refine sL2 hS rfl rfl rfl ?_ | refine sL3 hS rfl rfl ?_ | refine sL4 hS rfl rfl ?_ | refine sL5 hS rfl rfl ?_ | refine sL6 hS rfl rfl ?_ | refine sL7 hS rfl rfl ?_)); refine WL.h ?_) | fail
                        (try simp only [Act.put, nA, nB, nC])
                        first | refine lQ rfl ?_ | (refine ⟨?_⟩; ((first | refine sL1 hS rfl rfl rfl ?_ | refine sL2 hS rfl rfl rfl ?_ | refine sL3 hS rfl rfl ?_ | refine sL4 hS rfl rfl ?_ | refine sL5 hS rfl rfl ?_ | refine sL6 hS rfl rfl ?_ | refine sL7 hS rfl rfl ?_)); refine WL.h ?_) | fail
                        (try simp only [Act.put, nA, nB, nC])
                        first | refine lQ rfl ?_ | (refine ⟨?_⟩; (refine sEq rfl rfl rfl ?_; intro r hr; have HR := Lib.hid hr; clear hr); refine WL.h ?_) | fail
                        (try simp only [Act.put, nA, nB, nC])
                        refine lP rfl ?_
                        (try simp only [Act.put, nA, nB, nC])
                        refine lA rfl rfl ?_
                        (try simp only [Act.put, nA, nB, nC])
                        refine lZ ?_
                        go_wp2_with (first | (refine oL ?_; (first | refine sL1 hS rfl rfl rfl ?_ | refine sL2 hS rfl rfl rfl ?_ | refine sL3 hS rfl rfl ?_ | refine sL4 hS rfl rfl ?_ | refine sL5 hS rfl rfl ?_ | refine sL6 hS rfl rfl ?_ | refine sL7 hS rfl rfl ?_)) | (refine oS ?_; ((first | refine sS1 hS rfl rfl rfl ?_ | refine sS2 hS rfl rfl rfl ?_ | refine sS3 hS rfl rfl rfl ?_ | refine sS4 hS rfl rfl rfl ?_ | refine sS5 hS rfl rfl rfl ?_); clear hS; intro w hS)) | (refine oP ?_; ((first | refine sP1 hS rfl rfl rfl ?_ | refine sP2 hS rfl rfl rfl ?_ | refine sP3 hS rfl rfl rfl ?_); clear hS; first | ((fail_if_success guard_hyp L1); intro L1 cl1 w hL1 hM1 hS) | ((fail_if_success guard_hyp L2); intro L2 cl2 w hL2 hM2 hS) | ((fail_if_success guard_hyp L3); intro L3 cl3 w hL3 hM3 hS) | ((fail_if_success guard_hyp L4); intro L4 cl4 w hL4 hM4 hS) | ((fail_if_success guard_hyp L5); intro L5 cl5 w hL5 hM5 hS) | fail)) | ((first | (refine oB ?_; first | refine sB1 hS rfl rfl ?_ | refine sB2 hS rfl rfl ?_) | refine sN1 hS rfl ?_ | (refine oC ?_; first | refine sC0 hS rfl ?_ | refine sC1 hS rfl rfl ?_ | refine sC2 hS rfl rfl ?_ | refine sC3 hS rfl rfl rfl ?_ | refine sC4 hS rfl rfl rfl ?_)); clear hS; first | ((fail_if_success guard_hyp g1); intro g1 w hS) | ((fail_if_success guard_hyp g2); intro g2 w hS) | ((fail_if_success guard_hyp g3); intro g3 w hS) | ((fail_if_success guard_hyp g4); intro g4 w hS) | ((fail_if_success guard_hyp g5); intro g5 w hS) | ((fail_if_success guard_hyp g6); intro g6 w hS) | ((fail_if_success guard_hyp g7); intro g7 w hS) | ((fail_if_success guard_hyp g8); intro g8 w hS) | ((fail_if_success guard_hyp g9); intro g9 w hS) | ((fail_if_success guard_hyp g10); intro g10 w hS) | ((fail_if_success guard_hyp g11); intro g11 w hS) | ((fail_if_success guard_hyp g12); intro g12 w hS) | ((fail_if_success guard_hyp g13); intro g13 w hS) | ((fail_if_success guard_hyp g14); intro g14 w hS) | fail) | fail)
                        go_roundw
                        case measure => simp [intOf]; omega
                        exact ⟨i + 1, r, by omega, by go_num, rfl, Lib.hid (HTK.out r (by simpa using HR.out)), hS.re⟩
                    · have HK2 := Lib.hid (show kn = true ↔ (qy, ky) ∈ s by have := HKN.out; rw [List.take_of_length_le (by omega)] at this; exact this)
                      clear HKN
                      cases kn with
                      | true =>
                        go_wp2_with (first | (refine oL ?_; (first | refine sL1 hS rfl rfl rfl ?_ | refine sL2 hS rfl rfl rfl ?_ | refine sL3 hS rfl rfl ?_ | refine sL4 hS rfl rfl ?_ | refine sL5 hS rfl rfl ?_ | refine sL6 hS rfl rfl ?_ | refine sL7 hS rfl rfl ?_)) | (refine oS ?_; ((first | refine sS1 hS rfl rfl rfl ?_ | refine sS2 hS rfl rfl rfl ?_ | refine sS3 hS rfl rfl rfl ?_ | refine sS4 hS rfl rfl rfl ?_ | refine sS5 hS rfl rfl rfl ?_); clear hS; intro w hS)) | (refine oP ?_; ((first | refine sP1 hS rfl rfl rfl ?_ | refine sP2 hS rfl rfl rfl ?_ | refine sP3 hS rfl rfl rfl ?_); clear hS; first | ((fail_if_success guard_hyp L1); intro L1 cl1 w hL1 hM1 hS) | ((fail_if_success guard_hyp L2); intro L2 cl2 w hL2 hM2 hS) | ((fail_if_success guard_hyp L3); intro L3 cl3 w hL3 hM3 hS) | ((fail_if_success guard_hyp L4); intro L4 cl4 w hL4 hM4 hS) | ((fail_if_success guard_hyp L5); intro L5 cl5 w hL5 hM5 hS) | fail)) | ((first | (refine oB ?_; first | refine sB1 hS rfl rfl ?_ | refine sB2 hS rfl rfl ?_) | refine sN1 hS rfl ?_ | (refine oC ?_; first | refine sC0 hS rfl ?_ | refine sC1 hS rfl rfl ?_ | refine sC2 hS rfl rfl ?_ | refine sC3 hS rfl rfl rfl ?_ | refine sC4 hS rfl rfl rfl ?_)); clear hS; first | ((fail_if_success guard_hyp g1); intro g1 w hS) | ((fail_if_success guard_hyp g2); intro g2 w hS) | ((fail_if_success guard_hyp g3); intro g3 w hS) | ((fail_if_success guard_hyp g4); intro g4 w hS) | ((fail_if_success guard_hyp g5); intro g5 w hS) | ((fail_if_success guard_hyp g6); intro g6 w hS) | ((fail_if_success guard_hyp g7); intro g7 w hS) | ((fail_if_success guard_hyp g8); intro g8 w hS) | ((fail_if_success guard_hyp g9); intro g9 w hS) | ((fail_if_success guard_hyp g10); intro g10 w hS) | ((fail_if_success guard_hyp g11); intro g11 w hS) | ((fail_if_success guard_hyp g12); intro g12 w hS) | ((fail_if_success guard_hyp g13); intro g13 w hS) | ((fail_if_success guard_hyp g14); intro g14 w hS) | fail) | fail)
                        go_roundw
                        case measure => simp [intOf]; omega
                        refine ⟨j + 1, s, t, Ls, cs, Lt, ct, by omega, by go_num, rfl, rfl, hs325, ht651, Lib.hid ⟨HI.out.1, HI.out.2.1, HI.out.2.2.1, fun v hv => ?_⟩, hS.re⟩
                        rw [HT.out] at hv
                        rcases List.mem_append.1 hv with hv | hv
                        · exact HI.out.2.2.2 v hv
                        · rw [List.mem_singleton.1 hv]; exact HK2.out.1 rfl
                      | false =>
                        have HNI := Lib.hid (show (qy, ky) ∉ s from fun h => by have := HK2.out.2 h; cases this)
                        have HUN := Lib.hid (show unseen p (inL (s ++ [(qy, ky)])) < unseen p (inL s) by rw [inL_snoc]; exact unseen_lt HP.out.2.1 HYR.out.1 (inL_false HNI.out))
                        have HL1 := Lib.hid (show (s ++ [(qy, ky)]).length = s.length + 1 by simp)
                        have HF1 := Lib.hid (show (s ++ [(qy, ky)]).flatMap ptCells = s.flatMap ptCells ++ [.int .i64 (qy : Int), .int .i64 ky] by simp [ptCells])
                        have HL2 := Lib.hid (show (t ++ [(qy, ky)]).length = t.length + 1 by simp)
                        have HF2 := Lib.hid (show (t ++ [(qy, ky)]).flatMap ptCells = t.flatMap ptCells ++ [.int .i64 (qy : Int), .int .i64 ky] by simp [ptCells])
                        go_wp2_with (first | (refine oL ?_; (first | refine sL1 hS rfl rfl rfl ?_ | refine sL2 hS rfl rfl rfl ?_ | refine sL3 hS rfl rfl ?_ | refine sL4 hS rfl rfl ?_ | refine sL5 hS rfl rfl ?_ | refine sL6 hS rfl rfl ?_ | refine sL7 hS rfl rfl ?_)) | (refine oS ?_; ((first | refine sS1 hS rfl rfl rfl ?_ | refine sS2 hS rfl rfl rfl ?_ | refine sS3 hS rfl rfl rfl ?_ | refine sS4 hS rfl rfl rfl ?_ | refine sS5 hS rfl rfl rfl ?_); clear hS; intro w hS)) | (refine oP ?_; ((first | refine sP1 hS rfl rfl rfl ?_ | refine sP2 hS rfl rfl rfl ?_ | refine sP3 hS rfl rfl rfl ?_); clear hS; first | ((fail_if_success guard_hyp L1); intro L1 cl1 w hL1 hM1 hS) | ((fail_if_success guard_hyp L2); intro L2 cl2 w hL2 hM2 hS) | ((fail_if_success guard_hyp L3); intro L3 cl3 w hL3 hM3 hS) | ((fail_if_success guard_hyp L4); intro L4 cl4 w hL4 hM4 hS) | ((fail_if_success guard_hyp L5); intro L5 cl5 w hL5 hM5 hS) | fail)) | ((first | (refine oB ?_; first | refine sB1 hS rfl rfl ?_ | refine sB2 hS rfl rfl ?_) | refine sN1 hS rfl ?_ | (refine oC ?_; first | refine sC0 hS rfl ?_ | refine sC1 hS rfl rfl ?_ | refine sC2 hS rfl rfl ?_ | refine sC3 hS rfl rfl rfl ?_ | refine sC4 hS rfl rfl rfl ?_)); clear hS; first | ((fail_if_success guard_hyp g1); intro g1 w hS) | ((fail_if_success guard_hyp g2); intro g2 w hS) | ((fail_if_success guard_hyp g3); intro g3 w hS) | ((fail_if_success guard_hyp g4); intro g4 w hS) | ((fail_if_success guard_hyp g5); intro g5 w hS) | ((fail_if_success guard_hyp g6); intro g6 w hS) | ((fail_if_success guard_hyp g7); intro g7 w hS) | ((fail_if_success guard_hyp g8); intro g8 w hS) | ((fail_if_success guard_hyp g9); intro g9 w hS) | ((fail_if_success guard_hyp g10); intro g10 w hS) | ((fail_if_success guard_hyp g11); intro g11 w hS) | ((fail_if_success guard_hyp g12); intro g12 w hS) | ((fail_if_success guard_hyp g13); intro g13 w hS) | ((fail_if_success guard_hyp g14); intro g14 w hS) | fail) | fail)
                        refine dr_start2 [] 2 2 hS (by kernel_rfl) rfl ?_; clear hS; intro w hS
                        refine dM hS 0 rfl rfl rfl ?_
                        (try simp only [Act.put, nA, nB, nC])
                        first | refine dL1 hS 1 rfl rfl rfl rfl ?_ | refine dL2 hS 1 rfl rfl rfl rfl ?_ | refine dL3 hS 1 rfl rfl rfl ?_ | refine dL4 hS 1 rfl rfl rfl ?_ | refine dL5 hS 1 rfl rfl rfl ?_ | refine dL6 hS 1 rfl rfl rfl ?_ | refine dL7 hS 1 rfl rfl rfl ?_
                        (try simp only [Act.put, nA, nB, nC])
                        refine dM hS 4 rfl rfl rfl ?_
                        (try simp only [Act.put, nA, nB, nC])
                        first | refine dL1 hS 5 rfl rfl rfl rfl ?_ | refine dL2 hS 5 rfl rfl rfl rfl ?_ | refine dL3 hS 5 rfl rfl rfl ?_ | refine dL4 hS 5 rfl rfl rfl ?_ | refine dL5 hS 5 rfl rfl rfl ?_ | refine dL6 hS 5 rfl rfl rfl ?_ | refine dL7 hS 5 rfl rfl rfl ?_
                        (try simp only [Act.put, nA, nB, nC])
                        refine dr_two 2 6 (by kernel_rfl) rfl rfl ?_ ?_
                        ((first | refine sC0 hS rfl ?_ | refine sC1 hS rfl rfl ?_ | refine sC2 hS rfl rfl ?_ | refine sC3 hS rfl rfl rfl ?_ | refine sC4 hS rfl rfl rfl ?_); clear hS; first | ((fail_if_success guard_hyp g1); intro g1 w hS) | ((fail_if_success guard_hyp g2); intro g2 w hS) | ((fail_if_success guard_hyp g3); intro g3 w hS) | ((fail_if_success guard_hyp g4); intro g4 w hS) | ((fail_if_success guard_hyp g5); intro g5 w hS) | ((fail_if_success guard_hyp g6); intro g6 w hS) | ((fail_if_success guard_hyp g7); intro g7 w hS) | ((fail_if_success guard_hyp g8); intro g8 w hS) | ((fail_if_success guard_hyp g9); intro g9 w hS) | ((fail_if_success guard_hyp g10); intro g10 w hS) | ((fail_if_success guard_hyp g11); intro g11 w hS) | ((fail_if_success guard_hyp g12); intro g12 w hS) | ((fail_if_success guard_hyp g13); intro g13 w hS) | ((fail_if_success guard_hyp g14); intro g14 w hS) | fail)
                        (try simp only [Act.put, nA, nB, nC])
                        refine dr_end hS ?_
                        refine dr_two 3 6 (by kernel_rfl) rfl rfl ?_ ?_
                        ((first | refine sP1 hS rfl rfl rfl ?_ | refine sP2 hS rfl rfl rfl ?_ | refine sP3 hS rfl rfl rfl ?_); clear hS; first | ((fail_if_success guard_hyp L1); intro L1 cl1 w hL1 hM1 hS) | ((fail_if_success guard_hyp L2); intro L2 cl2 w hL2 hM2 hS) | ((fail_if_success guard_hyp L3); intro L3 cl3 w hL3 hM3 hS) | ((fail_if_success guard_hyp L4); intro L4 cl4 w hL4 hM4 hS) | ((fail_if_success guard_hyp L5); intro L5 cl5 w hL5 hM5 hS) | fail)
                        (try simp only [Act.put, nA, nB, nC])
                        refine dr_end hS ?_
                        refine dr_one 6 (by kernel_rfl) rfl ?_
                        ((first | refine sC0 hS rfl ?_ | refine sC1 hS rfl rfl ?_ | refine sC2 hS rfl rfl ?_ | refine sC3 hS rfl rfl rfl ?_ | refine sC4 hS rfl rfl rfl ?_); clear hS; first | ((fail_if_success guard_hyp g1); intro g1 w hS) | ((fail_if_success guard_hyp g2); intro g2 w hS) | ((fail_if_success guard_hyp g3); intro g3 w hS) | ((fail_if_success guard_hyp g4); intro g4 w hS) | ((fail_if_success guard_hyp g5); intro g5 w hS) | ((fail_if_success guard_hyp g6); intro g6 w hS) | ((fail_if_success guard_hyp g7); intro g7 w hS) | ((fail_if_success guard_hyp g8); intro g8 w hS) | ((fail_if_success guard_hyp g9); intro g9 w hS) | ((fail_if_success guard_hyp g10); intro g10 w hS) | ((fail_if_success guard_hyp g11); intro g11 w hS) | ((fail_if_success guard_hyp g12); intro g12 w hS) | ((fail_if_success guard_hyp g13); intro g13 w hS) | ((fail_if_success guard_hyp g14); intro g14 w hS) | fail)
                        (try simp only [Act.put, nA, nB, nC])
                        refine dr_end hS ?_
                        refine dr_one 7 (by kernel_rfl) rfl ?_
                        ((first | refine sP1 hS rfl rfl rfl ?_ | refine sP2 hS rfl rfl rfl ?_ | refine sP3 hS rfl rfl rfl ?_); clear hS; first | ((fail_if_success guard_hyp L1); intro L1 cl1 w hL1 hM1 hS) | ((fail_if_success guard_hyp L2); intro L2 cl2 w hL2 hM2 hS) | ((fail_if_success guard_hyp L3); intro L3 cl3 w hL3 hM3 hS) | ((fail_if_success guard_hyp L4); intro L4 cl4 w hL4 hM4 hS) | ((fail_if_success guard_hyp L5); intro L5 cl5 w hL5 hM5 hS) | fail)
                        (try simp only [Act.put, nA, nB, nC])
                        refine dr_end hS ?_
                        refine dA hS 8 rfl rfl rfl ?_
                        (try simp only [Act.put, nA, nB, nC])
                        refine dA hS 9 rfl rfl rfl ?_
                        (try simp only [Act.put, nA, nB, nC])
                        refine dr_done (by kernel_rfl) ?_
                        rotate_left
                        ((first | refine sC0 hS rfl ?_ | refine sC1 hS rfl rfl ?_ | refine sC2 hS rfl rfl ?_ | refine sC3 hS rfl rfl rfl ?_ | refine sC4 hS rfl rfl rfl ?_); clear hS; first | ((fail_if_success guard_hyp g1); intro g1 w hS) | ((fail_if_success guard_hyp g2); intro g2 w hS) | ((fail_if_success guard_hyp g3); intro g3 w hS) | ((fail_if_success guard_hyp g4); intro g4 w hS) | ((fail_if_success guard_hyp g5); intro g5 w hS) | ((fail_if_success guard_hyp g6); intro g6 w hS) | ((fail_if_success guard_hyp g7); intro g7 w hS) | ((fail_if_success guard_hyp g8); intro g8 w hS) | ((fail_if_success guard_hyp g9); intro g9 w hS) | ((fail_if_success guard_hyp g10); intro g10 w hS) | ((fail_if_success guard_hyp g11); intro g11 w hS) | ((fail_if_success guard_hyp g12); intro g12 w hS) | ((fail_if_success guard_hyp g13); intro g13 w hS) | ((fail_if_success guard_hyp g14); intro g14 w hS) | fail)
                        (try simp only [Act.put, nA, nB, nC])
                        refine dr_end hS ?_
                        refine dr_one 3 (by kernel_rfl) rfl ?_
                        ((first | refine sP1 hS rfl rfl rfl ?_ | refine sP2 hS rfl rfl rfl ?_ | refine sP3 hS rfl rfl rfl ?_); clear hS; first | ((fail_if_success guard_hyp L1); intro L1 cl1 w hL1 hM1 hS) | ((fail_if_success guard_hyp L2); intro L2 cl2 w hL2 hM2 hS) | ((fail_if_success guard_hyp L3); intro L3 cl3 w hL3 hM3 hS) | ((fail_if_success guard_hyp L4); intro L4 cl4 w hL4 hM4 hS) | ((fail_if_success guard_hyp L5); intro L5 cl5 w hL5 hM5 hS) | fail)
                        (try simp only [Act.put, nA, nB, nC])
                        refine dr_end hS ?_
                        refine dr_one 7 (by kernel_rfl) rfl ?_
                        ((first | refine sP1 hS rfl rfl rfl ?_ | refine sP2 hS rfl rfl rfl ?_ | refine sP3 hS rfl rfl rfl ?_); clear hS; first | ((fail_if_success guard_hyp L1); intro L1 cl1 w hL1 hM1 hS) | ((fail_if_success guard_hyp L2); intro L2 cl2 w hL2 hM2 hS) | ((fail_if_success guard_hyp L3); intro L3 cl3 w hL3 hM3 hS) | ((fail_if_success guard_hyp L4); intro L4 cl4 w hL4 hM4 hS) | ((fail_if_success guard_hyp L5); intro L5 cl5 w hL5 hM5 hS) | fail)
                        (try simp only [Act.put, nA, nB, nC])
                        refine dr_end hS ?_
                        refine dA hS 8 rfl rfl rfl ?_
                        (try simp only [Act.put, nA, nB, nC])
                        refine dA hS 9 rfl rfl rfl ?_
                        (try simp only [Act.put, nA, nB, nC])
                        refine dr_done (by kernel_rfl) ?_
                        rotate_left
                        ((first | refine sC0 hS rfl ?_ | refine sC1 hS rfl rfl ?_ | refine sC2 hS rfl rfl ?_ | refine sC3 hS rfl rfl rfl ?_ | refine sC4 hS rfl rfl rfl ?_); clear hS; first | ((fail_if_success guard_hyp g1); intro g1 w hS) | ((fail_if_success guard_hyp g2); intro g2 w hS) | ((fail_if_success guard_hyp g3); intro g3 w hS) | ((fail_if_success guard_hyp g4); intro g4 w hS) | ((fail_if_success guard_hyp g5); intro g5 w hS) | ((fail_if_success guard_hyp g6); intro g6 w hS) | ((fail_if_success guard_hyp g7); intro g7 w hS) | ((fail_if_success guard_hyp g8); intro g8 w hS) | ((fail_if_success guard_hyp g9); intro g9 w hS) | ((fail_if_success guard_hyp g10); intro g10 w hS) | ((fail_if_success guard_hyp g11); intro g11 w hS) | ((fail_if_success guard_hyp g12); intro g12 w hS) | ((fail_if_success guard_hyp g13); intro g13 w hS) | ((fail_if_success guard_hyp g14); intro g14 w hS) | fail)
                        (try simp only [Act.put, nA, nB, nC])
                        refine dr_end hS ?_
                        refine dr_one 2 (by kernel_rfl) rfl ?_
                        ((first | refine sC0 hS rfl ?_ | refine sC1 hS rfl rfl ?_ | refine sC2 hS rfl rfl ?_ | refine sC3 hS rfl rfl rfl ?_ | refine sC4 hS rfl rfl rfl ?_); clear hS; first | ((fail_if_success guard_hyp g1); intro g1 w hS) | ((fail_if_success guard_hyp g2); intro g2 w hS) | ((fail_if_success guard_hyp g3); intro g3 w hS) | ((fail_if_success guard_hyp g4); intro g4 w hS) | ((fail_if_success guard_hyp g5); intro g5 w hS) | ((fail_if_success guard_hyp g6); intro g6 w hS) | ((fail_if_success guard_hyp g7); intro g7 w hS) | ((fail_if_success guard_hyp g8); intro g8 w hS) | ((fail_if_success guard_hyp g9); intro g9 w hS) | ((fail_if_success guard_hyp g10); intro g10 w hS) | ((fail_if_success guard_hyp g11); intro g11 w hS) | ((fail_if_success guard_hyp g12); intro g12 w hS) | ((fail_if_success guard_hyp g13); intro g13 w hS) | ((fail_if_success guard_hyp g14); intro g14 w hS) | fail)
                        (try simp only [Act.put, nA, nB, nC])
                        refine dr_end hS ?_
                        refine dr_one 3 (by kernel_rfl) rfl ?_
                        ((first | refine sP1 hS rfl rfl rfl ?_ | refine sP2 hS rfl rfl rfl ?_ | refine sP3 hS rfl rfl rfl ?_); clear hS; first | ((fail_if_success guard_hyp L1); intro L1 cl1 w hL1 hM1 hS) | ((fail_if_success guard_hyp L2); intro L2 cl2 w hL2 hM2 hS) | ((fail_if_success guard_hyp L3); intro L3 cl3 w hL3 hM3 hS) | ((fail_if_success guard_hyp L4); intro L4 cl4 w hL4 hM4 hS) | ((fail_if_success guard_hyp L5); intro L5 cl5 w hL5 hM5 hS) | fail)
                        (try simp only [Act.put, nA, nB, nC])
                        refine dr_end hS ?_
                        refine dr_one 7 (by kernel_rfl) rfl ?_
                        ((first | refine sP1 hS rfl rfl rfl ?_ | refine sP2 hS rfl rfl rfl ?_ | refine sP3 hS rfl rfl rfl ?_); clear hS; first | ((fail_if_success guard_hyp L1); intro L1 cl1 w hL1 hM1 hS) | ((fail_if_success guard_hyp L2); intro L2 cl2 w hL2 hM2 hS) | ((fail_if_success guard_hyp L3); intro L3 cl3 w hL3 hM3 hS) | ((fail_if_success guard_hyp L4); intro L4 cl4 w hL4 hM4 hS) | ((fail_if_success guard_hyp L5); intro L5 cl5 w hL5 hM5 hS) | fail)
                        (try simp only [Act.put, nA, nB, nC])
                        refine dr_end hS ?_
                        refine dA hS 8 rfl rfl rfl ?_
                        (try simp only [Act.put, nA, nB, nC])
                        refine dA hS 9 rfl rfl rfl ?_
                        (try simp only [Act.put, nA, nB, nC])
                        refine dr_done (by kernel_rfl) ?_
                        rotate_left
                        all_goals
                          go_wp2_with (first | (refine oL ?_; (first | refine sL1 hS rfl rfl rfl ?_ | refine sL2 hS rfl rfl rfl ?_ | refine sL3 hS rfl rfl ?_ | refine sL4 hS rfl rfl ?_ | refine sL5 hS rfl rfl ?_ | refine sL6 hS rfl rfl ?_ | refine sL7 hS rfl rfl ?_)) | (refine oS ?_; ((first | refine sS1 hS rfl rfl rfl ?_ | refine sS2 hS rfl rfl rfl ?_ | refine sS3 hS rfl rfl rfl ?_ | refine sS4 hS rfl rfl rfl ?_ | refine sS5 hS rfl rfl rfl ?_); clear hS; intro w hS)) | (refine oP ?_; ((first | refine sP1 hS rfl rfl rfl ?_ | refine sP2 hS rfl rfl rfl ?_ | refine sP3 hS rfl rfl rfl ?_); clear hS; first | ((fail_if_success guard_hyp L1); intro L1 cl1 w hL1 hM1 hS) | ((fail_if_success guard_hyp L2); intro L2 cl2 w hL2 hM2 hS) | ((fail_if_success guard_hyp L3); intro L3 cl3 w hL3 hM3 hS) | ((fail_if_success guard_hyp L4); intro L4 cl4 w hL4 hM4 hS) | ((fail_if_success guard_hyp L5); intro L5 cl5 w hL5 hM5 hS) | fail)) | ((first | (refine oB ?_; first | refine sB1 hS rfl rfl ?_ | refine sB2 hS rfl rfl ?_) | refine sN1 hS rfl ?_ | (refine oC ?_; first | refine sC0 hS rfl ?_ | refine sC1 hS rfl rfl ?_ | refine sC2 hS rfl rfl ?_ | refine sC3 hS rfl rfl rfl ?_ | refine sC4 hS rfl rfl rfl ?_)); clear hS; first | ((fail_if_success guard_hyp g1); intro g1 w hS) | ((fail_if_success guard_hyp g2); intro g2 w hS) | ((fail_if_success guard_hyp g3); intro g3 w hS) | ((fail_if_success guard_hyp g4); intro g4 w hS) | ((fail_if_success guard_hyp g5); intro g5 w hS) | ((fail_if_success guard_hyp g6); intro g6 w hS) | ((fail_if_success guard_hyp g7); intro g7 w hS) | ((fail_if_success guard_hyp g8); intro g8 w hS) | ((fail_if_success guard_hyp g9); intro g9 w hS) | ((fail_if_success guard_hyp g10); intro g10 w hS) | ((fail_if_success guard_hyp g11); intro g11 w hS) | ((fail_if_success guard_hyp g12); intro g12 w hS) | ((fail_if_success guard_hyp g13); intro g13 w hS) | ((fail_if_success guard_hyp g14); intro g14 w hS) | fail) | fail)
                          go_roundw
                          case measure => simp [intOf]; omega
                          refine ⟨j + 1, s ++ [(qy, ky)], t ++ [(qy, ky)], _, _, _, _, by omega, by go_num, by rw [HL1.out], by rw [HL2.out], by rw [HL1.out]; have := HI.out; have := HUN.out; omega, by rw [HL2.out]; have := HI.out; have := HKK.out; have := HUN.out; omega, Lib.hid ⟨HI.out.1.add HYR.out.1 HYR.out.2 HYA.out, by rw [HL1.out]; have := HI.out; have := HUN.out; omega, by rw [HL2.out]; have := HI.out; have := HUN.out; omega, fun v hv => ?_⟩, ?_⟩
                          · rw [HT.out] at hv
                            rcases List.mem_append.1 hv with hv | hv
                            · exact List.mem_append_left _ (HI.out.2.2.2 v hv)
                            · rw [List.mem_singleton.1 hv]; simp
                          · rw [HL1.out, HF1.out, HL2.out, HF2.out]; exact hS.re
              · have HD := Lib.hid (HI.out.1.done (fun y hy => HI.out.2.2.2 y (by rw [List.take_of_length_le (by omega)]; exact (HLP.out y).2 hy)))
                go_wp2_with (first | (refine oL ?_; (first | refine sL1 hS rfl rfl rfl ?_ | refine sL2 hS rfl rfl rfl ?_ | refine sL3 hS rfl rfl ?_ | refine sL4 hS rfl rfl ?_ | refine sL5 hS rfl rfl ?_ | refine sL6 hS rfl rfl ?_ | refine sL7 hS rfl rfl ?_)) | (refine oS ?_; ((first | refine sS1 hS rfl rfl rfl ?_ | refine sS2 hS rfl rfl rfl ?_ | refine sS3 hS rfl rfl rfl ?_ | refine sS4 hS rfl rfl rfl ?_ | refine sS5 hS rfl rfl rfl ?_); clear hS; intro w hS)) | (refine oP ?_; ((first | refine sP1 hS rfl rfl rfl ?_ | refine sP2 hS rfl rfl rfl ?_ | refine sP3 hS rfl rfl rfl ?_); clear hS; first | ((fail_if_success guard_hyp L1); intro L1 cl1 w hL1 hM1 hS) | ((fail_if_success guard_hyp L2); intro L2 cl2 w hL2 hM2 hS) | ((fail_if_success guard_hyp L3); intro L3 cl3 w hL3 hM3 hS) | ((fail_if_success guard_hyp L4); intro L4 cl4 w hL4 hM4 hS) | ((fail_if_success guard_hyp L5); intro L5 cl5 w hL5 hM5 hS) | fail)) | ((first | (refine oB ?_; first | refine sB1 hS rfl rfl ?_ | refine sB2 hS rfl rfl ?_) | refine sN1 hS rfl ?_ | (refine oC ?_; first | refine sC0 hS rfl ?_ | refine sC1 hS rfl rfl ?_ | refine sC2 hS rfl rfl ?_ | refine sC3 hS rfl rfl rfl ?_ | refine sC4 hS rfl rfl rfl ?_)); clear hS; first | ((fail_if_success guard_hyp g1); intro g1 w hS) | ((fail_if_success guard_hyp g2); intro g2 w hS) | ((fail_if_success guard_hyp g3); intro g3 w hS) | ((fail_if_success guard_hyp g4); intro g4 w hS) | ((fail_if_success guard_hyp g5); intro g5 w hS) | ((fail_if_success guard_hyp g6); intro g6 w hS) | ((fail_if_success guard_hyp g7); intro g7 w hS) | ((fail_if_success guard_hyp g8); intro g8 w hS) | ((fail_if_success guard_hyp g9); intro g9 w hS) | ((fail_if_success guard_hyp g10); intro g10 w hS) | ((fail_if_success guard_hyp g11); intro g11 w hS) | ((fail_if_success guard_hyp g12); intro g12 w hS) | ((fail_if_success guard_hyp g13); intro g13 w hS) | ((fail_if_success guard_hyp g14); intro g14 w hS) | fail) | fail)
                go_roundg (2 * unseen p (inL s) + t.length)
                case measure => have := HI.out; have := HKE.out; omega
                exact ⟨s, t, Ls, cs, Lt, ct, rfl, rfl, hs325, ht651, Lib.hid ⟨HD.out, rfl, by have := HI.out; have := HKK.out; omega, HI.out.2.1⟩, hS.re⟩
      · have d1 : decide (0 < k) = true := decide_eq_true (by omega)
        have HN := Lib.hid (HNP.out (by omega))
        clear hkz
        go_wp2_with (first | (refine oL ?_; (first | refine sL1 hS rfl rfl rfl ?_ | refine sL2 hS rfl rfl rfl ?_ | refine sL3 hS rfl rfl ?_ | refine sL4 hS rfl rfl ?_ | refine sL5 hS rfl rfl ?_ | refine sL6 hS rfl rfl ?_ | refine sL7 hS rfl rfl ?_)) | (refine oS ?_; ((first | refine sS1 hS rfl rfl rfl ?_ | refine sS2 hS rfl rfl rfl ?_ | refine sS3 hS rfl rfl rfl ?_ | refine sS4 hS rfl rfl rfl ?_ | refine sS5 hS rfl rfl rfl ?_); clear hS; intro w hS)) | (refine oP ?_; ((first | refine sP1 hS rfl rfl rfl ?_ | refine sP2 hS rfl rfl rfl ?_ | refine sP3 hS rfl rfl rfl ?_); clear hS; first | ((fail_if_success guard_hyp L1); intro L1 cl1 w hL1 hM1 hS) | ((fail_if_success guard_hyp L2); intro L2 cl2 w hL2 hM2 hS) | ((fail_if_success guard_hyp L3); intro L3 cl3 w hL3 hM3 hS) | ((fail_if_success guard_hyp L4); intro L4 cl4 w hL4 hM4 hS) | ((fail_if_success guard_hyp L5); intro L5 cl5 w hL5 hM5 hS) | fail)) | ((first | (refine oB ?_; first | refine sB1 hS rfl rfl ?_ | refine sB2 hS rfl rfl ?_) | refine sN1 hS rfl ?_ | (refine oC ?_; first | refine sC0 hS rfl ?_ | refine sC1 hS rfl rfl ?_ | refine sC2 hS rfl rfl ?_ | refine sC3 hS rfl rfl rfl ?_ | refine sC4 hS rfl rfl rfl ?_)); clear hS; first | ((fail_if_success guard_hyp g1); intro g1 w hS) | ((fail_if_success guard_hyp g2); intro g2 w hS) | ((fail_if_success guard_hyp g3); intro g3 w hS) | ((fail_if_success guard_hyp g4); intro g4 w hS) | ((fail_if_success guard_hyp g5); intro g5 w hS) | ((fail_if_success guard_hyp g6); intro g6 w hS) | ((fail_if_success guard_hyp g7); intro g7 w hS) | ((fail_if_success guard_hyp g8); intro g8 w hS) | ((fail_if_success guard_hyp g9); intro g9 w hS) | ((fail_if_success guard_hyp g10); intro g10 w hS) | ((fail_if_success guard_hyp g11); intro g11 w hS) | ((fail_if_success guard_hyp g12); intro g12 w hS) | ((fail_if_success guard_hyp g13); intro g13 w hS) | ((fail_if_success guard_hyp g14); intro g14 w hS) | fail) | fail)
        replace hS : St w0 NoM [row (.slice L1 1 cl1) 37 2 1 [.int .i64 (q : Int), .int .i64 (k - 1)], row (.slice Ls s.length cs) 37 2 s.length (s.flatMap ptCells), row (.slice (some ⟨gt, 0, none⟩) t'.length ct) 37 2 t'.length (t'.flatMap ptCells), blk g6 [.int .i64 (q : Int), .int .i64 k] 37, blk g3 [.int .i64 (qb : Int), .int .i64 kb] 37, blk g2 [.int .i64 (qa : Int), .int .i64 ka] 37, blk g1 [.slice A1 p.len.length c1, .slice A2 p.ck.length c2, .slice A3 p.arcs.length c3] 28] w := hS.re
        go_loopw [10, 50] (fun s10 s50 wr => ∃ (i : Nat) (L : Option Addr) (cl : Nat) (l : List (Nat × Int)), i ≤ p.arcs.length ∧ s50 = .int .i64 i ∧ s10 = .slice L l.length cl ∧ l.length ≤ i + 1 ∧ Hid (l = nexts p (q, k) i) ∧ St w0 NoM [row (.slice L l.length cl) 37 2 l.length (l.flatMap ptCells), row (.slice Ls s.length cs) 37 2 s.length (s.flatMap ptCells), row (.slice (some ⟨gt, 0, none⟩) t'.length ct) 37 2 t'.length (t'.flatMap ptCells), blk g6 [.int .i64 (q : Int), .int .i64 k] 37, blk g3 [.int .i64 (qb : Int), .int .i64 kb] 37, blk g2 [.int .i64 (qa : Int), .int .i64 ka] 37, blk g1 [.slice A1 p.len.length c1, .slice A2 p.ck.length c2, .slice A3 p.arcs.length c3] 28] wr) (fun _ s50 _ => p.arcs.length - (intOf s50).toNat)
        case atStart => exact ⟨0, L1, cl1, [(q, k - 1)], by omega, rfl, rfl, by simp, Lib.hid HN.out.symm, hS⟩
        case round =>
          clear hS d1 hk0
          obtain ⟨i, L, cl, l, hi, rfl, rfl, hl, HL, hS⟩ := hrel
          by_cases hlt : i < p.arcs.length
          · obtain ⟨b3, o3, hA3, _, hcs⟩ := HP.out.1.arcs.cells hlt
            simp only at hA3
            subst hA3
            have hlt' : (i : Int) < p.arcs.length := by omega
            have HNO := Lib.hid (fun h => nexts_no (p := p) (x := (q, k)) hlt h)
            have HYES := Lib.hid (fun h => nexts_yes (p := p) (x := (q, k)) hlt h)
            generalize p.arcs[i] = ar at *
            simp only [arcCells] at hcs
            have HST : Hid (sentTo (q, k) ar = decide (0 < ar.at_ ∧ ar.to = q ∧ ar.at_ = k)) := Lib.hid rfl
            by_cases h1 : 0 < ar.at_
            · have d1 : decide (0 < ar.at_) = true := decide_eq_true h1
              by_cases h2 : ar.to = q
              · have e2 : ((ar.to : Int) == (q : Int)) = true := by simp; omega
                by_cases h3 : ar.at_ = k
                · have e3 : (ar.at_ == k) = true := by simp [h3]
                  have HY := Lib.hid (HYES.out (by rw [HST.out]; exact decide_eq_true ⟨h1, h2, h3⟩))
                  have HLL := Lib.hid (show (l ++ [(ar.fr, ar.ix)]).length = l.length + 1 by simp)
                  have HFL := Lib.hid (show (l ++ [(ar.fr, ar.ix)]).flatMap ptCells = l.flatMap ptCells ++ [.int .i64 (ar.fr : Int), .int .i64 ar.ix] by simp [ptCells])
                  clear h1 h2 h3
                  go_upto_region 12 with (first | (refine oL ?_; (first | refine sL1 hS rfl rfl rfl ?_ | refine sL2 hS rfl rfl rfl ?_ | refine sL3 hS rfl rfl ?_ | refine sL4 hS rfl rfl ?_ | refine sL5 hS rfl rfl ?_ | refine sL6 hS rfl rfl ?_ | refine sL7 hS rfl rfl ?_)) | (refine oS ?_; ((first | refine sS1 hS rfl rfl rfl ?_ | refine sS2 hS rfl rfl rfl ?_ | refine sS3 hS rfl rfl rfl ?_ | refine sS4 hS rfl rfl rfl ?_ | refine sS5 hS rfl rfl rfl ?_); clear hS; intro w hS)) | (refine oP ?_; ((first | refine sP1 hS rfl rfl rfl ?_ | refine sP2 hS rfl rfl rfl ?_ | refine sP3 hS rfl rfl rfl ?_); clear hS; first | ((fail_if_success guard_hyp L1); intro L1 cl1 w hL1 hM1 hS) | ((fail_if_success guard_hyp L2); intro L2 cl2 w hL2 hM2 hS) | ((fail_if_success guard_hyp L3); intro L3 cl3 w hL3 hM3 hS) | ((fail_if_success guard_hyp L4); intro L4 cl4 w hL4 hM4 hS) | ((fail_if_success guard_hyp L5); intro L5 cl5 w hL5 hM5 hS) | fail)) | ((first | (refine oB ?_; first | refine sB1 hS rfl rfl ?_ | refine sB2 hS rfl rfl ?_) | refine sN1 hS rfl ?_ | (refine oC ?_; first | refine sC0 hS rfl ?_ | refine sC1 hS rfl rfl ?_ | refine sC2 hS rfl rfl ?_ | refine sC3 hS rfl rfl rfl ?_ | refine sC4 hS rfl rfl rfl ?_)); clear hS; first | ((fail_if_success guard_hyp g1); intro g1 w hS) | ((fail_if_success guard_hyp g2); intro g2 w hS) | ((fail_if_success guard_hyp g3); intro g3 w hS) | ((fail_if_success guard_hyp g4); intro g4 w hS) | ((fail_if_success guard_hyp g5); intro g5 w hS) | ((fail_if_success guard_hyp g6); intro g6 w hS) | ((fail_if_success guard_hyp g7); intro g7 w hS) | ((fail_if_success guard_hyp g8); intro g8 w hS) | ((fail_if_success guard_hyp g9); intro g9 w hS) | ((fail_if_success guard_hyp g10); intro g10 w hS) | ((fail_if_success guard_hyp g11); intro g11 w hS) | ((fail_if_success guard_hyp g12); intro g12 w hS) | ((fail_if_success guard_hyp g13); intro g13 w hS) | ((fail_if_success guard_hyp g14); intro g14 w hS) | fail) | fail)
                  refine lR ?_
                  refine lP rfl ?_
                  (try simp only [Act.put, nA, nB, nC])
                  (refine ⟨?_⟩; ((first | refine sL1 hS rfl rfl rfl ?_ | refine sL2 hS rfl rfl rfl ?_ | refine sL3 hS rfl rfl ?_ | refine sL4 hS rfl rfl ?_ | refine sL5 hS rfl rfl ?_ | refine sL6 hS rfl rfl ?_ | refine sL7 hS rfl rfl ?_)); refine WL.h ?_)
                  (try simp only [Act.put, nA, nB, nC])
                  refine lP rfl ?_
                  (try simp only [Act.put, nA, nB, nC])
                  refine lM rfl rfl ?_
                  (try simp only [Act.put, nA, nB, nC])
                  first | refine lQ rfl ?_ | refine lP rfl ?_ | fail
                  (try simp only [Act.put, nA, nB, nC])
                  first | refine lQ rfl ?_ | (refine ⟨?_⟩; ((first | refine sL1 hS rfl rfl rfl ?_ | refine sL2 hS rfl rfl rfl ?_ | refine sL3 hS rfl rfl ?_ | refine sL4 hS rfl rfl ?_ | refine sL5 hS rfl rfl ?_ | refine sL6 hS rfl rfl ?_ | refine sL7 hS rfl rfl ?_)); refine WL.h ?_) | fail
                  (try simp only [Act.put, nA, nB, nC])
                  first | refine lQ rfl ?_ | refine lP rfl ?_ | fail
                  (try simp only [Act.put, nA, nB, nC])
                  first | refine lQ rfl ?_ | (refine ⟨?_⟩; ((first | refine sL1 hS rfl rfl rfl ?_ | refine sL2 hS rfl rfl rfl ?_ | refine sL3 hS rfl rfl ?_ | refine sL4 hS rfl rfl ?_ | refine sL5 hS rfl rfl ?_ | refine sL6 hS rfl rfl ?_ | refine sL7 hS rfl rfl ?_)); refine WL.h ?_) | fail
                  (try simp only [Act.put, nA, nB, nC])
                  first | refine lQ rfl ?_ | refine lP rfl ?_ | fail
                  (try simp only [Act.put, nA, nB, nC])
                  refine lP rfl ?_
                  (try simp only [Act.put, nA, nB, nC])
                  refine lM rfl rfl ?_
                  (try simp only [Act.put, nA, nB, nC])
                  first | refine lQ rfl ?_ | refine lP rfl ?_ | fail
                  (try simp only [Act.put, nA, nB, nC])
                  first | refine lQ rfl ?_ | (refine ⟨?_⟩; ((first | refine sL1 hS rfl rfl rfl ?_ | refine sL2 hS rfl rfl rfl ?_ | refine sL3 hS rfl rfl ?_ | refine sL4 hS rfl rfl ?_ | refine sL5 hS rfl rfl ?_ | refine sL6 hS rfl rfl ?_ | refine sL7 hS rfl rfl ?_)); refine WL.h ?_) | fail
                  (try simp only [Act.put, nA, nB, nC])
                  first | refine lQ rfl ?_ | refine lP rfl ?_ | fail
                  (try simp only [Act.put, nA, nB, nC])
                  first | refine lQ rfl ?_ | (refine ⟨?_⟩; ((first | refine sL1 hS rfl rfl rfl ?_ | refine sL2 hS rfl rfl rfl ?_ | refine sL3 hS rfl rfl ?_ | refine sL4 hS rfl rfl ?_ | refine sL5 hS rfl rfl ?_ | refine sL6 hS rfl rfl ?_ | refine sL7 hS rfl rfl ?_)); refine WL.h ?_) | fail
                  (try simp only [Act.put, nA, nB, nC])
                  first | refine lQ rfl ?_ | refine lP rfl ?_ | fail
                  (try simp only [Act.put, nA, nB, nC])
                  refine lP rfl ?_
                  (try simp only [Act.put, nA, nB, nC])
                  refine lZ ?_
                  go_wp2_with (first | (refine oL ?_; (first | refine sL1 hS rfl rfl rfl ?_ | refine sL2 hS rfl rfl rfl ?_ | refine sL3 hS rfl rfl ?_ | refine sL4 hS rfl rfl ?_ | refine sL5 hS rfl rfl ?_ | refine sL6 hS rfl rfl ?_ | refine sL7 hS rfl rfl ?_)) | (refine oS ?_; ((first | refine sS1 hS rfl rfl rfl ?_ | refine sS2 hS rfl rfl rfl ?_ | refine sS3 hS rfl rfl rfl ?_ | refine sS4 hS rfl rfl rfl ?_ | refine sS5 hS rfl rfl rfl ?_); clear hS; intro w hS)) | (refine oP ?_; ((first | refine sP1 hS rfl rfl rfl ?_ | refine sP2 hS rfl rfl rfl ?_ | refine sP3 hS rfl rfl rfl ?_); clear hS; first | ((fail_if_success guard_hyp L1); intro L1 cl1 w hL1 hM1 hS) | ((fail_if_success guard_hyp L2); intro L2 cl2 w hL2 hM2 hS) | ((fail_if_success guard_hyp L3); intro L3 cl3 w hL3 hM3 hS) | ((fail_if_success guard_hyp L4); intro L4 cl4 w hL4 hM4 hS) | ((fail_if_success guard_hyp L5); intro L5 cl5 w hL5 hM5 hS) | fail)) | ((first | (refine oB ?_; first | refine sB1 hS rfl rfl ?_ | refine sB2 hS rfl rfl ?_) | refine sN1 hS rfl ?_ | (refine oC ?_; first | refine sC0 hS rfl ?_ | refine sC1 hS rfl rfl ?_ | refine sC2 hS rfl rfl ?_ | refine sC3 hS rfl rfl rfl ?_ | refine sC4 hS rfl rfl rfl ?_)); clear hS; first | ((fail_if_success guard_hyp g1); intro g1 w hS) | ((fail_if_success guard_hyp g2); intro g2 w hS) | ((fail_if_success guard_hyp g3); intro g3 w hS) | ((fail_if_success guard_hyp g4); intro g4 w hS) | ((fail_if_success guard_hyp g5); intro g5 w hS) | ((fail_if_success guard_hyp g6); intro g6 w hS) | ((fail_if_success guard_hyp g7); intro g7 w hS) | ((fail_if_success guard_hyp g8); intro g8 w hS) | ((fail_if_success guard_hyp g9); intro g9 w hS) | ((fail_if_success guard_hyp g10); intro g10 w hS) | ((fail_if_success guard_hyp g11); intro g11 w hS) | ((fail_if_success guard_hyp g12); intro g12 w hS) | ((fail_if_success guard_hyp g13); intro g13 w hS) | ((fail_if_success guard_hyp g14); intro g14 w hS) | fail) | fail)
                  go_roundw
                  case measure => simp [intOf]; omega
                  refine ⟨i + 1, L2, cl2, l ++ [(ar.fr, ar.ix)], by omega, by go_num, by rw [HLL.out], by rw [HLL.out]; omega, Lib.hid (by rw [HY.out, ← HL.out]), ?_⟩
                  rw [HLL.out, HFL.out]
                  exact hS.re
                · have e3 : (ar.at_ == k) = false := by simp [h3]
                  have HY := Lib.hid (HNO.out (by rw [HST.out]; exact decide_eq_false (fun h => h3 h.2.2)))
                  clear h1 h2 h3
                  go_upto_region 12 with (first | (refine oL ?_; (first | refine sL1 hS rfl rfl rfl ?_ | refine sL2 hS rfl rfl rfl ?_ | refine sL3 hS rfl rfl ?_ | refine sL4 hS rfl rfl ?_ | refine sL5 hS rfl rfl ?_ | refine sL6 hS rfl rfl ?_ | refine sL7 hS rfl rfl ?_)) | (refine oS ?_; ((first | refine sS1 hS rfl rfl rfl ?_ | refine sS2 hS rfl rfl rfl ?_ | refine sS3 hS rfl rfl rfl ?_ | refine sS4 hS rfl rfl rfl ?_ | refine sS5 hS rfl rfl rfl ?_); clear hS; intro w hS)) | (refine oP ?_; ((first | refine sP1 hS rfl rfl rfl ?_ | refine sP2 hS rfl rfl rfl ?_ | refine sP3 hS rfl rfl rfl ?_); clear hS; first | ((fail_if_success guard_hyp L1); intro L1 cl1 w hL1 hM1 hS) | ((fail_if_success guard_hyp L2); intro L2 cl2 w hL2 hM2 hS) | ((fail_if_success guard_hyp L3); intro L3 cl3 w hL3 hM3 hS) | ((fail_if_success guard_hyp L4); intro L4 cl4 w hL4 hM4 hS) | ((fail_if_success guard_hyp L5); intro L5 cl5 w hL5 hM5 hS) | fail)) | ((first | (refine oB ?_; first | refine sB1 hS rfl rfl ?_ | refine sB2 hS rfl rfl ?_) | refine sN1 hS rfl ?_ | (refine oC ?_; first | refine sC0 hS rfl ?_ | refine sC1 hS rfl rfl ?_ | refine sC2 hS rfl rfl ?_ | refine sC3 hS rfl rfl rfl ?_ | refine sC4 hS rfl rfl rfl ?_)); clear hS; first | ((fail_if_success guard_hyp g1); intro g1 w hS) | ((fail_if_success guard_hyp g2); intro g2 w hS) | ((fail_if_success guard_hyp g3); intro g3 w hS) | ((fail_if_success guard_hyp g4); intro g4 w hS) | ((fail_if_success guard_hyp g5); intro g5 w hS) | ((fail_if_success guard_hyp g6); intro g6 w hS) | ((fail_if_success guard_hyp g7); intro g7 w hS) | ((fail_if_success guard_hyp g8); intro g8 w hS) | ((fail_if_success guard_hyp g9); intro g9 w hS) | ((fail_if_success guard_hyp g10); intro g10 w hS) | ((fail_if_success guard_hyp g11); intro g11 w hS) | ((fail_if_success guard_hyp g12); intro g12 w hS) | ((fail_if_success guard_hyp g13); intro g13 w hS) | ((fail_if_success guard_hyp g14); intro g14 w hS) | fail) | fail)
                  refine lR ?_
                  refine lP rfl ?_
                  (try simp only [Act.put, nA, nB, nC])
                  (refine ⟨?_⟩; ((first | refine sL1 hS rfl rfl rfl ?_ | refine sL2 hS rfl rfl rfl ?_ | refine sL3 hS rfl rfl ?_ | refine sL4 hS rfl rfl ?_ | refine sL5 hS rfl rfl ?_ | refine sL6 hS rfl rfl ?_ | refine sL7 hS rfl rfl ?_)); refine WL.h ?_)
                  (try simp only [Act.put, nA, nB, nC])
                  refine lP rfl ?_
                  (try simp only [Act.put, nA, nB, nC])
                  refine lM rfl rfl ?_
                  (try simp only [Act.put, nA, nB, nC])
                  first | refine lQ rfl ?_ | refine lP rfl ?_ | fail
                  (try simp only [Act.put, nA, nB, nC])
                  first | refine lQ rfl ?_ | (refine ⟨?_⟩; ((first | refine sL1 hS rfl rfl rfl ?_ | refine sL2 hS rfl rfl rfl ?_ | refine sL3 hS rfl rfl ?_ | refine sL4 hS rfl rfl ?_ | refine sL5 hS rfl rfl ?_ | refine sL6 hS rfl rfl ?_ | refine sL7 hS rfl rfl ?_)); refine WL.h ?_) | fail
                  (try simp only [Act.put, nA, nB, nC])
                  first | refine lQ rfl ?_ | refine lP rfl ?_ | fail
                  (try simp only [Act.put, nA, nB, nC])
                  first | refine lQ rfl ?_ | (refine ⟨?_⟩; ((first | refine sL1 hS rfl rfl rfl ?_ | refine sL2 hS rfl rfl rfl ?_ | refine sL3 hS rfl rfl ?_ | refine sL4 hS rfl rfl ?_ | refine sL5 hS rfl rfl ?_ | refine sL6 hS rfl rfl ?_ | refine sL7 hS rfl rfl ?_)); refine WL.h ?_) | fail
                  (try simp only [Act.put, nA, nB, nC])
                  first | refine lQ rfl ?_ | refine lP rfl ?_ | fail
                  (try simp only [Act.put, nA, nB, nC])
                  refine lP rfl ?_
                  (try simp only [Act.put, nA, nB, nC])
                  refine lM rfl rfl ?_
                  (try simp only [Act.put, nA, nB, nC])
                  first | refine lQ rfl ?_ | refine lP rfl ?_ | fail
                  (try simp only [Act.put, nA, nB, nC])
                  first | refine lQ rfl ?_ | (refine ⟨?_⟩; ((first | refine sL1 hS rfl rfl rfl ?_ | refine sL2 hS rfl rfl rfl ?_ | refine sL3 hS rfl rfl ?_ | refine sL4 hS rfl rfl ?_ | refine sL5 hS rfl rfl ?_ | refine sL6 hS rfl rfl ?_ | refine sL7 hS rfl rfl ?_)); refine WL.h ?_) | fail
                  (try simp only [Act.put, nA, nB, nC])
                  first | refine lQ rfl ?_ | refine lP rfl ?_ | fail
                  (try simp only [Act.put, nA, nB, nC])
                  first | refine lQ rfl ?_ | (refine ⟨?_⟩; ((first | refine sL1 hS rfl rfl rfl ?_ | refine sL2 hS rfl rfl rfl ?_ | refine sL3 hS rfl rfl ?_ | refine sL4 hS rfl rfl ?_ | refine sL5 hS rfl rfl ?_ | refine sL6 hS rfl rfl ?_ | refine sL7 hS rfl rfl ?_)); refine WL.h ?_) | fail
                  (try simp only [Act.put, nA, nB, nC])
                  first | refine lQ rfl ?_ | refine lP rfl ?_ | fail
                  (try simp only [Act.put, nA, nB, nC])
                  refine lP rfl ?_
                  (try simp only [Act.put, nA, nB, nC])
                  refine lZ ?_
                  go_wp2_with (first | (refine oL ?_; (first | refine sL1 hS rfl rfl rfl ?_ | refine sL2 hS rfl rfl rfl ?_ | refine sL3 hS rfl rfl ?_ | refine sL4 hS rfl rfl ?_ | refine sL5 hS rfl rfl ?_ | refine sL6 hS rfl rfl ?_ | refine sL7 hS rfl rfl ?_)) | (refine oS ?_; ((first | refine sS1 hS rfl rfl rfl ?_ | refine sS2 hS rfl rfl rfl ?_ | refine sS3 hS rfl rfl rfl ?_ | refine sS4 hS rfl rfl rfl ?_ | refine sS5 hS rfl rfl rfl ?_); clear hS; intro w hS)) | (refine oP ?_; ((first | refine sP1 hS rfl rfl rfl ?_ | refine sP2 hS rfl rfl rfl ?_ | refine sP3 hS rfl rfl rfl ?_); clear hS; first | ((fail_if_success guard_hyp L1); intro L1 cl1 w hL1 hM1 hS) | ((fail_if_success guard_hyp L2); intro L2 cl2 w hL2 hM2 hS) | ((fail_if_success guard_hyp L3); intro L3 cl3 w hL3 hM3 hS) | ((fail_if_success guard_hyp L4); intro L4 cl4 w hL4 hM4 hS) | ((fail_if_success guard_hyp L5); intro L5 cl5 w hL5 hM5 hS) | fail)) | ((first | (refine oB ?_; first | refine sB1 hS rfl rfl ?_ | refine sB2 hS rfl rfl ?_) | refine sN1 hS rfl ?_ | (refine oC ?_; first | refine sC0 hS rfl ?_ | refine sC1 hS rfl rfl ?_ | refine sC2 hS rfl rfl ?_ | refine sC3 hS rfl rfl rfl ?_ | refine sC4 hS rfl rfl rfl ?_)); clear hS; first | ((fail_if_success guard_hyp g1); intro g1 w hS) | ((fail_if_success guard_hyp g2); intro g2 w hS) | ((fail_if_success guard_hyp g3); intro g3 w hS) | ((fail_if_success guard_hyp g4); intro g4 w hS) | ((fail_if_success guard_hyp g5); intro g5 w hS) | ((fail_if_success guard_hyp g6); intro g6 w hS) | ((fail_if_success guard_hyp g7); intro g7 w hS) | ((fail_if_success guard_hyp g8); intro g8 w hS) | ((fail_if_success guard_hyp g9); intro g9 w hS) | ((fail_if_success guard_hyp g10); intro g10 w hS) | ((fail_if_success guard_hyp g11); intro g11 w hS) | ((fail_if_success guard_hyp g12); intro g12 w hS) | ((fail_if_success guard_hyp g13); intro g13 w hS) | ((fail_if_success guard_hyp g14); intro g14 w hS) | fail) | fail)
                  go_roundw
                  case measure => simp [intOf]; omega
                  exact ⟨i + 1, L, cl, l, by omega, by go_num, rfl, by omega, Lib.hid (by rw [HY.out]; exact HL.out), hS.re⟩
              · have e2 : ((ar.to : Int) == (q : Int)) = false := by simp; omega
                have HY := Lib.hid (HNO.out (by rw [HST.out]; exact decide_eq_false (fun h => h2 h.2.1)))
                clear h1 h2
                go_upto_region 12 with (first | (refine oL ?_; (first | refine sL1 hS rfl rfl rfl ?_ | refine sL2 hS rfl rfl rfl ?_ | refine sL3 hS rfl rfl ?_ | refine sL4 hS rfl rfl ?_ | refine sL5 hS rfl rfl ?_ | refine sL6 hS rfl rfl ?_ | refine sL7 hS rfl rfl ?_)) | (refine oS ?_; ((first | refine sS1 hS rfl rfl rfl ?_ | refine sS2 hS rfl rfl rfl ?_ | refine sS3 hS rfl rfl rfl ?_ | refine sS4 hS rfl rfl rfl ?_ | refine sS5 hS rfl rfl rfl ?_); clear hS; intro w hS)) | (refine oP ?_; ((first | refine sP1 hS rfl rfl rfl ?_ | refine sP2 hS rfl rfl rfl ?_ | refine sP3 hS rfl rfl rfl ?_); clear hS; first | ((fail_if_success guard_hyp L1); intro L1 cl1 w hL1 hM1 hS) | ((fail_if_success guard_hyp L2); intro L2 cl2 w hL2 hM2 hS) | ((fail_if_success guard_hyp L3); intro L3 cl3 w hL3 hM3 hS) | ((fail_if_success guard_hyp L4); intro L4 cl4 w hL4 hM4 hS) | ((fail_if_success guard_hyp L5); intro L5 cl5 w hL5 hM5 hS) | fail)) | ((first | (refine oB ?_; first | refine sB1 hS rfl rfl ?_ | refine sB2 hS rfl rfl ?_) | refine sN1 hS rfl ?_ | (refine oC ?_; first | refine sC0 hS rfl ?_ | refine sC1 hS rfl rfl ?_ | refine sC2 hS rfl rfl ?_ | refine sC3 hS rfl rfl rfl ?_ | refine sC4 hS rfl rfl rfl ?_)); clear hS; first | ((fail_if_success guard_hyp g1); intro g1 w hS) | ((fail_if_success guard_hyp g2); intro g2 w hS) | ((fail_if_success guard_hyp g3); intro g3 w hS) | ((fail_if_success guard_hyp g4); intro g4 w hS) | ((fail_if_success guard_hyp g5); intro g5 w hS) | ((fail_if_success guard_hyp g6); intro g6 w hS) | ((fail_if_success guard_hyp g7); intro g7 w hS) | ((fail_if_success guard_hyp g8); intro g8 w hS) | ((fail_if_success guard_hyp g9); intro g9 w hS) | ((fail_if_success guard_hyp g10); intro g10 w hS) | ((fail_if_success guard_hyp g11); intro g11 w hS) | ((fail_if_success guard_hyp g12); intro g12 w hS) | ((fail_if_success guard_hyp g13); intro g13 w hS) | ((fail_if_success guard_hyp g14); intro g14 w hS) | fail) | fail)
                refine lR ?_
                refine lP rfl ?_
                (try simp only [Act.put, nA, nB, nC])
                (refine ⟨?_⟩; ((first | refine sL1 hS rfl rfl rfl ?_ | refine sL2 hS rfl rfl rfl ?_ | refine sL3 hS rfl rfl ?_ | refine sL4 hS rfl rfl ?_ | refine sL5 hS rfl rfl ?_ | refine sL6 hS rfl rfl ?_ | refine sL7 hS rfl rfl ?_)); refine WL.h ?_)
                (try simp only [Act.put, nA, nB, nC])
                refine lP rfl ?_
                (try simp only [Act.put, nA, nB, nC])
                refine lM rfl rfl ?_
                (try simp only [Act.put, nA, nB, nC])
                first | refine lQ rfl ?_ | refine lP rfl ?_ | fail
                (try simp only [Act.put, nA, nB, nC])
                first | refine lQ rfl ?_ | (refine ⟨?_⟩; ((first | refine sL1 hS rfl rfl rfl ?_ | refine sL2 hS rfl rfl rfl ?_ | refine sL3 hS rfl rfl ?_ | refine sL4 hS rfl rfl ?_ | refine sL5 hS rfl rfl ?_ | refine sL6 hS rfl rfl ?_ | refine sL7 hS rfl rfl ?_)); refine WL.h ?_) | fail
                (try simp only [Act.put, nA, nB, nC])
                first | refine lQ rfl ?_ | refine lP rfl ?_ | fail
                (try simp only [Act.put, nA, nB, nC])
                first | refine lQ rfl ?_ | (refine ⟨?_⟩; ((first | refine sL1 hS rfl rfl rfl ?_ | refine sL2 hS rfl rfl rfl ?_ | refine sL3 hS rfl rfl ?_ | refine sL4 hS rfl rfl ?_ | refine sL5 hS rfl rfl ?_ | refine sL6 hS rfl rfl ?_ | refine sL7 hS rfl rfl ?_)); refine WL.h ?_) | fail
                (try simp only [Act.put, nA, nB, nC])
                first | refine lQ rfl ?_ | refine lP rfl ?_ | fail
                (try simp only [Act.put, nA, nB, nC])
                refine lP rfl ?_
                (try simp only [Act.put, nA, nB, nC])
                refine lM rfl rfl ?_
                (try simp only [Act.put, nA, nB, nC])
                first | refine lQ rfl ?_ | refine lP rfl ?_ | fail
                (try simp only [Act.put, nA, nB, nC])
                first | refine lQ rfl ?_ | (refine ⟨?_⟩; ((first | refine sL1 hS rfl rfl rfl ?_ | refine sL2 hS rfl rfl rfl ?_ | refine sL3 hS rfl rfl ?_ | refine sL4 hS rfl rfl ?_ | refine sL5 hS rfl rfl ?_ | refine sL6 hS rfl rfl ?_ | refine sL7 hS rfl rfl ?_)); refine WL.h ?_) | fail
                (try simp only [Act.put, nA, nB, nC])
                first | refine lQ rfl ?_ | refine lP rfl ?_ | fail
                (try simp only [Act.put, nA, nB, nC])
                first | refine lQ rfl ?_ | (refine ⟨?_⟩; ((first | refine sL1 hS rfl rfl rfl ?_ | refine sL2 hS rfl rfl rfl ?_ | refine sL3 hS rfl rfl ?_ | refine sL4 hS rfl rfl ?_ | refine sL5 hS rfl rfl ?_ | refine sL6 hS rfl rfl ?_ | refine sL7 hS rfl rfl ?_)); refine WL.h ?_) | fail
                (try simp only [Act.put, nA, nB, nC])
                first | refine lQ rfl ?_ | refine lP rfl ?_ | fail
                (try simp only [Act.put, nA, nB, nC])
                refine lP rfl ?_
                (try simp only [Act.put, nA, nB, nC])
                refine lZ ?_
                go_wp2_with (first | (refine oL ?_; (first | refine sL1 hS rfl rfl rfl ?_ | refine sL2 hS rfl rfl rfl ?_ | refine sL3 hS rfl rfl ?_ | refine sL4 hS rfl rfl ?_ | refine sL5 hS rfl rfl ?_ | refine sL6 hS rfl rfl ?_ | refine sL7 hS rfl rfl ?_)) | (refine oS ?_; ((first | refine sS1 hS rfl rfl rfl ?_ | refine sS2 hS rfl rfl rfl ?_ | refine sS3 hS rfl rfl rfl ?_ | refine sS4 hS rfl rfl rfl ?_ | refine sS5 hS rfl rfl rfl ?_); clear hS; intro w hS)) | (refine oP ?_; ((first | refine sP1 hS rfl rfl rfl ?_ | refine sP2 hS rfl rfl rfl ?_ | refine sP3 hS rfl rfl rfl ?_); clear hS; first | ((fail_if_success guard_hyp L1); intro L1 cl1 w hL1 hM1 hS) | ((fail_if_success guard_hyp L2); intro L2 cl2 w hL2 hM2 hS) | ((fail_if_success guard_hyp L3); intro L3 cl3 w hL3 hM3 hS) | ((fail_if_success guard_hyp L4); intro L4 cl4 w hL4 hM4 hS) | ((fail_if_success guard_hyp L5); intro L5 cl5 w hL5 hM5 hS) | fail)) | ((first | (refine oB ?_; first | refine sB1 hS rfl rfl ?_ | refine sB2 hS rfl rfl ?_) | refine sN1 hS rfl ?_ | (refine oC ?_; first | refine sC0 hS rfl ?_ | refine sC1 hS rfl rfl ?_ | refine sC2 hS rfl rfl ?_ | refine sC3 hS rfl rfl rfl ?_ | refine sC4 hS rfl rfl rfl ?_)); clear hS; first | ((fail_if_success guard_hyp g1); intro g1 w hS) | ((fail_if_success guard_hyp g2); intro g2 w hS) | ((fail_if_success guard_hyp g3); intro g3 w hS) | ((fail_if_success guard_hyp g4); intro g4 w hS) | ((fail_if_success guard_hyp g5); intro g5 w hS) | ((fail_if_success guard_hyp g6); intro g6 w hS) | ((fail_if_success guard_hyp g7); intro g7 w hS) | ((fail_if_success guard_hyp g8); intro g8 w hS) | ((fail_if_success guard_hyp g9); intro g9 w hS) | ((fail_if_success guard_hyp g10); intro g10 w hS) | ((fail_if_success guard_hyp g11); intro g11 w hS) | ((fail_if_success guard_hyp g12); intro g12 w hS) | ((fail_if_success guard_hyp g13); intro g13 w hS) | ((fail_if_success guard_hyp g14); intro g14 w hS) | fail) | fail)
                go_roundw
                case measure => simp [intOf]; omega
                exact ⟨i + 1, L, cl, l, by omega, by go_num, rfl, by omega, Lib.hid (by rw [HY.out]; exact HL.out), hS.re⟩
            · have d1 : decide (0 < ar.at_) = false := decide_eq_false h1
              have HY := Lib.hid (HNO.out (by rw [HST.out]; exact decide_eq_false (fun h => h1 h.1)))
              clear h1
              go_upto_region 12 with (first | (refine oL ?_; (first | refine sL1 hS rfl rfl rfl ?_ | refine sL2 hS rfl rfl rfl ?_ | refine sL3 hS rfl rfl ?_ | refine sL4 hS rfl rfl ?_ | refine sL5 hS rfl rfl ?_ | refine sL6 hS rfl rfl ?_ | refine sL7 hS rfl rfl ?_)) | (refine oS ?_; ((first | refine sS1 hS rfl rfl rfl ?_ | refine sS2 hS rfl rfl rfl ?_ | refine sS3 hS rfl rfl rfl ?_ | refine sS4 hS rfl rfl rfl ?_ | refine sS5 hS rfl rfl rfl ?_); clear hS; intro w hS)) | (refine oP ?_; ((first | refine sP1 hS rfl rfl rfl ?_ | refine sP2 hS rfl rfl rfl ?_ | refine sP3 hS rfl rfl rfl ?_); clear hS; first | ((fail_if_success guard_hyp L1); intro L1 cl1 w hL1 hM1 hS) | ((fail_if_success guard_hyp L2); intro L2 cl2 w hL2 hM2 hS) | ((fail_if_success guard_hyp L3); intro L3 cl3 w hL3 hM3 hS) | ((fail_if_success guard_hyp L4); intro L4 cl4 w hL4 hM4 hS) | ((fail_if_success guard_hyp L5); intro L5 cl5 w hL5 hM5 hS) | fail)) | ((first | (refine oB ?_; first | refine sB1 hS rfl rfl ?_ | refine sB2 hS rfl rfl ?_) | refine sN1 hS rfl ?_ | (refine oC ?_; first | refine sC0 hS rfl ?_ | refine sC1 hS rfl rfl ?_ | refine sC2 hS rfl rfl ?_ | refine sC3 hS rfl rfl rfl ?_ | refine sC4 hS rfl rfl rfl ?_)); clear hS; first | ((fail_if_success guard_hyp g1); intro g1 w hS) | ((fail_if_success guard_hyp g2); intro g2 w hS) | ((fail_if_success guard_hyp g3); intro g3 w hS) | ((fail_if_success guard_hyp g4); intro g4 w hS) | ((fail_if_success guard_hyp g5); intro g5 w hS) | ((fail_if_success guard_hyp g6); intro g6 w hS) | ((fail_if_success guard_hyp g7); intro g7 w hS) | ((fail_if_success guard_hyp g8); intro g8 w hS) | ((fail_if_success guard_hyp g9); intro g9 w hS) | ((fail_if_success guard_hyp g10); intro g10 w hS) | ((fail_if_success guard_hyp g11); intro g11 w hS) | ((fail_if_success guard_hyp g12); intro g12 w hS) | ((fail_if_success guard_hyp g13); intro g13 w hS) | ((fail_if_success guard_hyp g14); intro g14 w hS) | fail) | fail)
              refine lR ?_
              refine lP rfl ?_
              (try simp only [Act.put, nA, nB, nC])
              (refine ⟨?_⟩; ((first | refine sL1 hS rfl rfl rfl ?_ | refine sL2 hS rfl rfl rfl ?_ | refine sL3 hS rfl rfl ?_ | refine sL4 hS rfl rfl ?_ | refine sL5 hS rfl rfl ?_ | refine sL6 hS rfl rfl ?_ | refine sL7 hS rfl rfl ?_)); refine WL.h ?_)
              (try simp only [Act.put, nA, nB, nC])
              refine lP rfl ?_
              (try simp only [Act.put, nA, nB, nC])
              refine lM rfl rfl ?_
              (try simp only [Act.put, nA, nB, nC])
              first | refine lQ rfl ?_ | refine lP rfl ?_ | fail
              (try simp only [Act.put, nA, nB, nC])
              first | refine lQ rfl ?_ | (refine ⟨?_⟩; ((first | refine sL1 hS rfl rfl rfl ?_ | refine sL2 hS rfl rfl rfl ?_ | refine sL3 hS rfl rfl ?_ | refine sL4 hS rfl rfl ?_ | refine sL5 hS rfl rfl ?_ | refine sL6 hS rfl rfl ?_ | refine sL7 hS rfl rfl ?_)); refine WL.h ?_) | fail
              (try simp only [Act.put, nA, nB, nC])
              first | refine lQ rfl ?_ | refine lP rfl ?_ | fail
              (try simp only [Act.put, nA, nB, nC])
              first | refine lQ rfl ?_ | (refine ⟨?_⟩; ((first | refine sL1 hS rfl rfl rfl ?_ | refine sL2 hS rfl rfl rfl ?_ | refine sL3 hS rfl rfl ?_ | refine sL4 hS rfl rfl ?_ | refine sL5 hS rfl rfl ?_ | refine sL6 hS rfl rfl ?_ | refine sL7 hS rfl rfl ?_)); refine WL.h ?_) | fail
              (try simp only [Act.put, nA, nB, nC])
              first | refine lQ rfl ?_ | refine lP rfl ?_ | fail
              (try simp only [Act.put, nA, nB, nC])
              refine lP rfl ?_
              (try simp only [Act.put, nA, nB, nC])
              refine lM rfl rfl ?_
              (try simp only [Act.put, nA, nB, nC])
              first | refine lQ rfl ?_ | refine lP rfl ?_ | fail
              (try simp only [Act.put, nA, nB, nC])
              first | refine lQ rfl ?_ | (refine ⟨?_⟩; ((first | refine sL1 hS rfl rfl rfl ?_ | refine sL2 hS rfl rfl rfl ?_ | refine sL3 hS rfl rfl ?_ | refine sL4 hS rfl rfl ?_ | refine sL5 hS rfl rfl ?_ | refine sL6 hS rfl rfl ?_ | refine sL7 hS rfl rfl ?_)); refine WL.h ?_) | fail
              (try simp only [Act.put, nA, nB, nC])
              first | refine lQ rfl ?_ | refine lP rfl ?_ | fail
              (try simp only [Act.put, nA, nB, nC])
              first | refine lQ rfl ?_ | (refine ⟨?_⟩; ((first | refine sL1 hS rfl rfl rfl ?_ | refine sL2 hS rfl rfl rfl ?_ | refine sL3 hS rfl rfl ?_ | refine sL4 hS rfl rfl ?_ | refine sL5 hS rfl rfl ?_ | refine sL6 hS rfl rfl ?_ | refine sL7 hS rfl rfl ?_)); refine WL.h ?_) | fail
              (try simp only [Act.put, nA, nB, nC])
              first | refine lQ rfl ?_ | refine lP rfl ?_ | fail
              (try simp only [Act.put, nA, nB, nC])
              refine lP rfl ?_
              (try simp only [Act.put, nA, nB, nC])
              refine lZ ?_
              go_wp2_with (first | (refine oL ?_; (first | refine sL1 hS rfl rfl rfl ?_ | refine sL2 hS rfl rfl rfl ?_ | refine sL3 hS rfl rfl ?_ | refine sL4 hS rfl rfl ?_ | refine sL5 hS rfl rfl ?_ | refine sL6 hS rfl rfl ?_ | refine sL7 hS rfl rfl ?_)) | (refine oS ?_; ((first | refine sS1 hS rfl rfl rfl ?_ | refine sS2 hS rfl rfl rfl ?_ | refine sS3 hS rfl rfl rfl ?_ | refine sS4 hS rfl rfl rfl ?_ | refine sS5 hS rfl rfl rfl ?_); clear hS; intro w hS)) | (refine oP ?_; ((first | refine sP1 hS rfl rfl rfl ?_ | refine sP2 hS rfl rfl rfl ?_ | refine sP3 hS rfl rfl rfl ?_); clear hS; first | ((fail_if_success guard_hyp L1); intro L1 cl1 w hL1 hM1 hS) | ((fail_if_success guard_hyp L2); intro L2 cl2 w hL2 hM2 hS) | ((fail_if_success guard_hyp L3); intro L3 cl3 w hL3 hM3 hS) | ((fail_if_success guard_hyp L4); intro L4 cl4 w hL4 hM4 hS) | ((fail_if_success guard_hyp L5); intro L5 cl5 w hL5 hM5 hS) | fail)) | ((first | (refine oB ?_; first | refine sB1 hS rfl rfl ?_ | refine sB2 hS rfl rfl ?_) | refine sN1 hS rfl ?_ | (refine oC ?_; first | refine sC0 hS rfl ?_ | refine sC1 hS rfl rfl ?_ | refine sC2 hS rfl rfl ?_ | refine sC3 hS rfl rfl rfl ?_ | refine sC4 hS rfl rfl rfl ?_)); clear hS; first | ((fail_if_success guard_hyp g1); intro g1 w hS) | ((fail_if_success guard_hyp g2); intro g2 w hS) | ((fail_if_success guard_hyp g3); intro g3 w hS) | ((fail_if_success guard_hyp g4); intro g4 w hS) | ((fail_if_success guard_hyp g5); intro g5 w hS) | ((fail_if_success guard_hyp g6); intro g6 w hS) | ((fail_if_success guard_hyp g7); intro g7 w hS) | ((fail_if_success guard_hyp g8); intro g8 w hS) | ((fail_if_success guard_hyp g9); intro g9 w hS) | ((fail_if_success guard_hyp g10); intro g10 w hS) | ((fail_if_success guard_hyp g11); intro g11 w hS) | ((fail_if_success guard_hyp g12); intro g12 w hS) | ((fail_if_success guard_hyp g13); intro g13 w hS) | ((fail_if_success guard_hyp g14); intro g14 w hS) | fail) | fail)
              go_roundw
              case measure => simp [intOf]; omega
              exact ⟨i + 1, L, cl, l, by omega, by go_num, rfl, by omega, Lib.hid (by rw [HY.out]; exact HL.out), hS.re⟩
          · have HLP := Lib.hid (fun y => (show y ∈ l ↔ Pred p (q, k) y by rw [HL.out, show i = p.arcs.length by omega]; exact mem_nexts HP.out.2.1))
            clear HL
            go_wp2_with (first | (refine oL ?_; (first | refine sL1 hS rfl rfl rfl ?_ | refine sL2 hS rfl rfl rfl ?_ | refine sL3 hS rfl rfl ?_ | refine sL4 hS rfl rfl ?_ | refine sL5 hS rfl rfl ?_ | refine sL6 hS rfl rfl ?_ | refine sL7 hS rfl rfl ?_)) | (refine oS ?_; ((first | refine sS1 hS rfl rfl rfl ?_ | refine sS2 hS rfl rfl rfl ?_ | refine sS3 hS rfl rfl rfl ?_ | refine sS4 hS rfl rfl rfl ?_ | refine sS5 hS rfl rfl rfl ?_); clear hS; intro w hS)) | (refine oP ?_; ((first | refine sP1 hS rfl rfl rfl ?_ | refine sP2 hS rfl rfl rfl ?_ | refine sP3 hS rfl rfl rfl ?_); clear hS; first | ((fail_if_success guard_hyp L1); intro L1 cl1 w hL1 hM1 hS) | ((fail_if_success guard_hyp L2); intro L2 cl2 w hL2 hM2 hS) | ((fail_if_success guard_hyp L3); intro L3 cl3 w hL3 hM3 hS) | ((fail_if_success guard_hyp L4); intro L4 cl4 w hL4 hM4 hS) | ((fail_if_success guard_hyp L5); intro L5 cl5 w hL5 hM5 hS) | fail)) | ((first | (refine oB ?_; first | refine sB1 hS rfl rfl ?_ | refine sB2 hS rfl rfl ?_) | refine sN1 hS rfl ?_ | (refine oC ?_; first | refine sC0 hS rfl ?_ | refine sC1 hS rfl rfl ?_ | refine sC2 hS rfl rfl ?_ | refine sC3 hS rfl rfl rfl ?_ | refine sC4 hS rfl rfl rfl ?_)); clear hS; first | ((fail_if_success guard_hyp g1); intro g1 w hS) | ((fail_if_success guard_hyp g2); intro g2 w hS) | ((fail_if_success guard_hyp g3); intro g3 w hS) | ((fail_if_success guard_hyp g4); intro g4 w hS) | ((fail_if_success guard_hyp g5); intro g5 w hS) | ((fail_if_success guard_hyp g6); intro g6 w hS) | ((fail_if_success guard_hyp g7); intro g7 w hS) | ((fail_if_success guard_hyp g8); intro g8 w hS) | ((fail_if_success guard_hyp g9); intro g9 w hS) | ((fail_if_success guard_hyp g10); intro g10 w hS) | ((fail_if_success guard_hyp g11); intro g11 w hS) | ((fail_if_success guard_hyp g12); intro g12 w hS) | ((fail_if_success guard_hyp g13); intro g13 w hS) | ((fail_if_success guard_hyp g14); intro g14 w hS) | fail) | fail)
            go_loopw [7, 8, 82] (fun s7 s8 s82 wr => ∃ (j : Nat) (s t : List (Nat × Int)) (Ls : Option Addr) (cs : Nat) (Lt : Option Addr) (ct : Nat), j ≤ l.length ∧ s82 = .int .i64 j ∧ s7 = .slice Ls s.length cs ∧ s8 = .slice Lt t.length ct ∧ s.length ≤ 325 ∧ t.length ≤ 651 ∧ Hid (Fol p (qa, ka) (qb, kb) s t (some (q, k)) ∧ s.length + unseen p (inL s) ≤ 325 ∧ 2 * unseen p (inL s) + t.length < kk ∧ ∀ y ∈ l.take j, y ∈ s) ∧ St w0 NoM [row (.slice L l.length cl) 37 2 l.length (l.flatMap ptCells), row (.slice Ls s.length cs) 37 2 s.length (s.flatMap ptCells), row (.slice Lt t.length ct) 37 2 t.length (t.flatMap ptCells), blk g6 [.int .i64 (q : Int), .int .i64 k] 37, blk g3 [.int .i64 (qb : Int), .int .i64 kb] 37, blk g2 [.int .i64 (qa : Int), .int .i64 ka] 37, blk g1 [.slice A1 p.len.length c1, .slice A2 p.ck.length c2, .slice A3 p.arcs.length c3] 28] wr) (fun _ _ s82 _ => l.length - (intOf s82).toNat)
            case atStart => exact ⟨0, s, t', Ls, cs, some ⟨gt, 0, none⟩, ct, by omega, rfl, rfl, rfl, by omega, by omega, Lib.hid ⟨HX2.out.1, HX2.out.2.1, HX2.out.2.2.1, by simp⟩, hS.re⟩
            case round =>
              have HKK := Lib.hid HX2.out.2.2.2
              clear hS HX2 hs325 ht651 hcap hcap1 hlt1
              obtain ⟨j, s, t, Ls, cs, Lt, ct, hj, rfl, rfl, rfl, hs325, ht651, HI, hS⟩ := hrel
              by_cases hjl : j < l.length
              · obtain ⟨gl, rfl⟩ := hS.rowSome L (by omega)
                have HPT := Lib.hid (pt_at' hjl)
                have HYP := Lib.hid ((HLP.out l[j]).1 (List.getElem_mem hjl))
                have HT := Lib.hid (List.take_succ_eq_append_getElem hjl)
                generalize l[j] = y at *
                obtain ⟨qy, ky⟩ := y
                have HYR := Lib.hid (And.intro (HYP.out.ok HP.out.2.1 HXP.out.1) (HXP.out.2.step HYP.out))
                by_cases hya : (qy, ky) = (qa, ka)
                · have HYA := Lib.hid hya
                  clear hya
                  go_upto_region 18 with (first | (refine oL ?_; refine sL8 hS rfl rfl HPT.out rfl ?_) | (refine oL ?_; (first | refine sL1 hS rfl rfl rfl ?_ | refine sL2 hS rfl rfl rfl ?_ | refine sL3 hS rfl rfl ?_ | refine sL4 hS rfl rfl ?_ | refine sL5 hS rfl rfl ?_ | refine sL6 hS rfl rfl ?_ | refine sL7 hS rfl rfl ?_)) | (refine oS ?_; ((first | refine sS1 hS rfl rfl rfl ?_ | refine sS2 hS rfl rfl rfl ?_ | refine sS3 hS rfl rfl rfl ?_ | refine sS4 hS rfl rfl rfl ?_ | refine sS5 hS rfl rfl rfl ?_); clear hS; intro w hS)) | (refine oP ?_; ((first | refine sP1 hS rfl rfl rfl ?_ | refine sP2 hS rfl rfl rfl ?_ | refine sP3 hS rfl rfl rfl ?_); clear hS; first | ((fail_if_success guard_hyp L1); intro L1 cl1 w hL1 hM1 hS) | ((fail_if_success guard_hyp L2); intro L2 cl2 w hL2 hM2 hS) | ((fail_if_success guard_hyp L3); intro L3 cl3 w hL3 hM3 hS) | ((fail_if_success guard_hyp L4); intro L4 cl4 w hL4 hM4 hS) | ((fail_if_success guard_hyp L5); intro L5 cl5 w hL5 hM5 hS) | fail)) | ((first | (refine oB ?_; first | refine sB1 hS rfl rfl ?_ | refine sB2 hS rfl rfl ?_) | refine sN1 hS rfl ?_ | (refine oC ?_; first | refine sC0 hS rfl ?_ | refine sC1 hS rfl rfl ?_ | refine sC2 hS rfl rfl ?_ | refine sC3 hS rfl rfl rfl ?_ | refine sC4 hS rfl rfl rfl ?_)); clear hS; first | ((fail_if_success guard_hyp g1); intro g1 w hS) | ((fail_if_success guard_hyp g2); intro g2 w hS) | ((fail_if_success guard_hyp g3); intro g3 w hS) | ((fail_if_success guard_hyp g4); intro g4 w hS) | ((fail_if_success guard_hyp g5); intro g5 w hS) | ((fail_if_success guard_hyp g6); intro g6 w hS) | ((fail_if_success guard_hyp g7); intro g7 w hS) | ((fail_if_success guard_hyp g8); intro g8 w hS) | ((fail_if_success guard_hyp g9); intro g9 w hS) | ((fail_if_success guard_hyp g10); intro g10 w hS) | ((fail_if_success guard_hyp g11); intro g11 w hS) | ((fail_if_success guard_hyp g12); intro g12 w hS) | ((fail_if_success guard_hyp g13); intro g13 w hS) | ((fail_if_success guard_hyp g14); intro g14 w hS) | fail) | fail)
                  refine lR ?_
                  (refine ⟨?_⟩; ((first | refine sL1 hS rfl rfl rfl ?_ | refine sL2 hS rfl rfl rfl ?_ | refine sL3 hS rfl rfl ?_ | refine sL4 hS rfl rfl ?_ | refine sL5 hS rfl rfl ?_ | refine sL6 hS rfl rfl ?_ | refine sL7 hS rfl rfl ?_)); refine WL.h ?_)
                  (try simp only [Act.put, nA, nB, nC])
                  (refine ⟨?_⟩; ((first | refine sL1 hS rfl rfl rfl ?_ | refine sL2 hS rfl rfl rfl ?_ | refine sL3 hS rfl rfl ?_ | refine sL4 hS rfl rfl ?_ | refine sL5 hS rfl rfl ?_ | refine sL6 hS rfl rfl ?_ | refine sL7 hS rfl rfl ?_)); refine WL.h ?_)
                  (try simp only [Act.put, nA, nB, nC])
                  (refine ⟨?_⟩; (refine sEq rfl rfl rfl ?_; intro r hr; obtain rfl : r = true := hr.2 HYA.out; clear hr); refine WL.h ?_)
                  (try simp only [Act.put, nA, nB, nC])
                  refine lZ ?_
                  go_wp2_with (first | (refine oL ?_; (first | refine sL1 hS rfl rfl rfl ?_ | refine sL2 hS rfl rfl rfl ?_ | refine sL3 hS rfl rfl ?_ | refine sL4 hS rfl rfl ?_ | refine sL5 hS rfl rfl ?_ | refine sL6 hS rfl rfl ?_ | refine sL7 hS rfl rfl ?_)) | (refine oS ?_; ((first | refine sS1 hS rfl rfl rfl ?_ | refine sS2 hS rfl rfl rfl ?_ | refine sS3 hS rfl rfl rfl ?_ | refine sS4 hS rfl rfl rfl ?_ | refine sS5 hS rfl rfl rfl ?_); clear hS; intro w hS)) | (refine oP ?_; ((first | refine sP1 hS rfl rfl rfl ?_ | refine sP2 hS rfl rfl rfl ?_ | refine sP3 hS rfl rfl rfl ?_); clear hS; first | ((fail_if_success guard_hyp L1); intro L1 cl1 w hL1 hM1 hS) | ((fail_if_success guard_hyp L2); intro L2 cl2 w hL2 hM2 hS) | ((fail_if_success guard_hyp L3); intro L3 cl3 w hL3 hM3 hS) | ((fail_if_success guard_hyp L4); intro L4 cl4 w hL4 hM4 hS) | ((fail_if_success guard_hyp L5); intro L5 cl5 w hL5 hM5 hS) | fail)) | ((first | (refine oB ?_; first | refine sB1 hS rfl rfl ?_ | refine sB2 hS rfl rfl ?_) | refine sN1 hS rfl ?_ | (refine oC ?_; first | refine sC0 hS rfl ?_ | refine sC1 hS rfl rfl ?_ | refine sC2 hS rfl rfl ?_ | refine sC3 hS rfl rfl rfl ?_ | refine sC4 hS rfl rfl rfl ?_)); clear hS; first | ((fail_if_success guard_hyp g1); intro g1 w hS) | ((fail_if_success guard_hyp g2); intro g2 w hS) | ((fail_if_success guard_hyp g3); intro g3 w hS) | ((fail_if_success guard_hyp g4); intro g4 w hS) | ((fail_if_success guard_hyp g5); intro g5 w hS) | ((fail_if_success guard_hyp g6); intro g6 w hS) | ((fail_if_success guard_hyp g7); intro g7 w hS) | ((fail_if_success guard_hyp g8); intro g8 w hS) | ((fail_if_success guard_hyp g9); intro g9 w hS) | ((fail_if_success guard_hyp g10); intro g10 w hS) | ((fail_if_success guard_hyp g11); intro g11 w hS) | ((fail_if_success guard_hyp g12); intro g12 w hS) | ((fail_if_success guard_hyp g13); intro g13 w hS) | ((fail_if_success guard_hyp g14); intro g14 w hS) | fail) | fail)
                  go_ret
                  exact ⟨true, ⟨fun _ => hit HP.out.2.1 HP.out.2.2.2 HXP.out.2 (by rw [← HYA.out]; exact HYP.out), fun _ => rfl⟩, rfl, hS.toExt⟩
                · have HYA := Lib.hid hya
                  clear hya
                  go_upto_region 18 with (first | (refine oL ?_; refine sL8 hS rfl rfl HPT.out rfl ?_) | (refine oL ?_; (first | refine sL1 hS rfl rfl rfl ?_ | refine sL2 hS rfl rfl rfl ?_ | refine sL3 hS rfl rfl ?_ | refine sL4 hS rfl rfl ?_ | refine sL5 hS rfl rfl ?_ | refine sL6 hS rfl rfl ?_ | refine sL7 hS rfl rfl ?_)) | (refine oS ?_; ((first | refine sS1 hS rfl rfl rfl ?_ | refine sS2 hS rfl rfl rfl ?_ | refine sS3 hS rfl rfl rfl ?_ | refine sS4 hS rfl rfl rfl ?_ | refine sS5 hS rfl rfl rfl ?_); clear hS; intro w hS)) | (refine oP ?_; ((first | refine sP1 hS rfl rfl rfl ?_ | refine sP2 hS rfl rfl rfl ?_ | refine sP3 hS rfl rfl rfl ?_); clear hS; first | ((fail_if_success guard_hyp L1); intro L1 cl1 w hL1 hM1 hS) | ((fail_if_success guard_hyp L2); intro L2 cl2 w hL2 hM2 hS) | ((fail_if_success guard_hyp L3); intro L3 cl3 w hL3 hM3 hS) | ((fail_if_success guard_hyp L4); intro L4 cl4 w hL4 hM4 hS) | ((fail_if_success guard_hyp L5); intro L5 cl5 w hL5 hM5 hS) | fail)) | ((first | (refine oB ?_; first | refine sB1 hS rfl rfl ?_ | refine sB2 hS rfl rfl ?_) | refine sN1 hS rfl ?_ | (refine oC ?_; first | refine sC0 hS rfl ?_ | refine sC1 hS rfl rfl ?_ | refine sC2 hS rfl rfl ?_ | refine sC3 hS rfl rfl rfl ?_ | refine sC4 hS rfl rfl rfl ?_)); clear hS; first | ((fail_if_success guard_hyp g1); intro g1 w hS) | ((fail_if_success guard_hyp g2); intro g2 w hS) | ((fail_if_success guard_hyp g3); intro g3 w hS) | ((fail_if_success guard_hyp g4); intro g4 w hS) | ((fail_if_success guard_hyp g5); intro g5 w hS) | ((fail_if_success guard_hyp g6); intro g6 w hS) | ((fail_if_success guard_hyp g7); intro g7 w hS) | ((fail_if_success guard_hyp g8); intro g8 w hS) | ((fail_if_success guard_hyp g9); intro g9 w hS) | ((fail_if_success guard_hyp g10); intro g10 w hS) | ((fail_if_success guard_hyp g11); intro g11 w hS) | ((fail_if_success guard_hyp g12); intro g12 w hS) | ((fail_if_success guard_hyp g13); intro g13 w hS) | ((fail_if_success guard_hyp g14); intro g14 w hS) | fail) | fail)
                  refine lR ?_
                  (refine ⟨?_⟩; ((first | refine sL1 hS rfl rfl rfl ?_ | refine sL2 hS rfl rfl rfl ?_ | refine sL3 hS rfl rfl ?_ | refine sL4 hS rfl rfl ?_ | refine sL5 hS rfl rfl ?_ | refine sL6 hS rfl rfl ?_ | refine sL7 hS rfl rfl ?_)); refine WL.h ?_)
                  (try simp only [Act.put, nA, nB, nC])
                  (refine ⟨?_⟩; ((first | refine sL1 hS rfl rfl rfl ?_ | refine sL2 hS rfl rfl rfl ?_ | refine sL3 hS rfl rfl ?_ | refine sL4 hS rfl rfl ?_ | refine sL5 hS rfl rfl ?_ | refine sL6 hS rfl rfl ?_ | refine sL7 hS rfl rfl ?_)); refine WL.h ?_)
                  (try simp only [Act.put, nA, nB, nC])
                  (refine ⟨?_⟩; (refine sEq rfl rfl rfl ?_; intro r hr; obtain rfl : r = false := (by cases r; rfl; exact absurd (hr.1 rfl) HYA.out); clear hr); refine WL.h ?_)
                  (try simp only [Act.put, nA, nB, nC])
                  refine lZ ?_
                  go_wp2_with (first | (refine oL ?_; (first | refine sL1 hS rfl rfl rfl ?_ | refine sL2 hS rfl rfl rfl ?_ | refine sL3 hS rfl rfl ?_ | refine sL4 hS rfl rfl ?_ | refine sL5 hS rfl rfl ?_ | refine sL6 hS rfl rfl ?_ | refine sL7 hS rfl rfl ?_)) | (refine oS ?_; ((first | refine sS1 hS rfl rfl rfl ?_ | refine sS2 hS rfl rfl rfl ?_ | refine sS3 hS rfl rfl rfl ?_ | refine sS4 hS rfl rfl rfl ?_ | refine sS5 hS rfl rfl rfl ?_); clear hS; intro w hS)) | (refine oP ?_; ((first | refine sP1 hS rfl rfl rfl ?_ | refine sP2 hS rfl rfl rfl ?_ | refine sP3 hS rfl rfl rfl ?_); clear hS; first | ((fail_if_success guard_hyp L1); intro L1 cl1 w hL1 hM1 hS) | ((fail_if_success guard_hyp L2); intro L2 cl2 w hL2 hM2 hS) | ((fail_if_success guard_hyp L3); intro L3 cl3 w hL3 hM3 hS) | ((fail_if_success guard_hyp L4); intro L4 cl4 w hL4 hM4 hS) | ((fail_if_success guard_hyp L5); intro L5 cl5 w hL5 hM5 hS) | fail)) | ((first | (refine oB ?_; first | refine sB1 hS rfl rfl ?_ | refine sB2 hS rfl rfl ?_) | refine sN1 hS rfl ?_ | (refine oC ?_; first | refine sC0 hS rfl ?_ | refine sC1 hS rfl rfl ?_ | refine sC2 hS rfl rfl ?_ | refine sC3 hS rfl rfl rfl ?_ | refine sC4 hS rfl rfl rfl ?_)); clear hS; first | ((fail_if_success guard_hyp g1); intro g1 w hS) | ((fail_if_success guard_hyp g2); intro g2 w hS) | ((fail_if_success guard_hyp g3); intro g3 w hS) | ((fail_if_success guard_hyp g4); intro g4 w hS) | ((fail_if_success guard_hyp g5); intro g5 w hS) | ((fail_if_success guard_hyp g6); intro g6 w hS) | ((fail_if_success guard_hyp g7); intro g7 w hS) | ((fail_if_success guard_hyp g8); intro g8 w hS) | ((fail_if_success guard_hyp g9); intro g9 w hS) | ((fail_if_success guard_hyp g10); intro g10 w hS) | ((fail_if_success guard_hyp g11); intro g11 w hS) | ((fail_if_success guard_hyp g12); intro g12 w hS) | ((fail_if_success guard_hyp g13); intro g13 w hS) | ((fail_if_success guard_hyp g14); intro g14 w hS) | fail) | fail)
                  go_loopw [15, 91] (fun s15 s91 wr => ∃ (i : Nat) (kn : Bool), i ≤ s.length ∧ s91 = .int .i64 i ∧ s15 = .bool kn ∧ Hid (kn = true ↔ (qy, ky) ∈ s.take i) ∧ St w0 NoM [blk g8 [.int .i64 (qy : Int), .int .i64 ky] 37, row (.slice (some ⟨gl, 0, none⟩) l.length cl) 37 2 l.length (l.flatMap ptCells), row (.slice Ls s.length cs) 37 2 s.length (s.flatMap ptCells), row (.slice Lt t.length ct) 37 2 t.length (t.flatMap ptCells), blk g6 [.int .i64 (q : Int), .int .i64 k] 37, blk g3 [.int .i64 (qb : Int), .int .i64 kb] 37, blk g2 [.int .i64 (qa : Int), .int .i64 ka] 37, blk g1 [.slice A1 p.len.length c1, .slice A2 p.ck.length c2, .slice A3 p.arcs.length c3] 28] wr) (fun _ s91 _ => s.length - (intOf s91).toNat)
                  case atStart => exact ⟨0, false, by omega, rfl, rfl, Lib.hid (by simp), hS.re⟩
                  case round =>
                    clear hS
                    obtain ⟨i, kn, hi, rfl, rfl, HKN, hS⟩ := hrel
                    by_cases hil : i < s.length
                    · obtain ⟨gs, rfl⟩ := hS.rowSome Ls (by omega)
                      have HPZ := Lib.hid (pt_at' hil)
                      have HTK := Lib.hid (fun kb' h => take_known (kb' := kb') hil HKN.out h)
                      clear HKN
                      generalize s[i] = z at *
                      obtain ⟨qz, kz⟩ := z
                      cases kn with
                      | true =>
                        go_upto_region 24 with (first | (refine oL ?_; refine sL8 hS rfl rfl HPZ.out rfl ?_) | (refine oL ?_; (first | refine sL1 hS rfl rfl rfl ?_ | refine sL2 hS rfl rfl rfl ?_ | refine sL3 hS rfl rfl ?_ | refine sL4 hS rfl rfl ?_ | refine sL5 hS rfl rfl ?_ | refine sL6 hS rfl rfl ?_ | refine sL7 hS rfl rfl ?_)) | (refine oS ?_; ((first | refine sS1 hS rfl rfl rfl ?_ | refine sS2 hS rfl rfl rfl ?_ | refine sS3 hS rfl rfl rfl ?_ | refine sS4 hS rfl rfl rfl ?_ | refine sS5 hS rfl rfl rfl ?_); clear hS; intro w hS)) | (refine oP ?_; ((first | refine sP1 hS rfl rfl rfl ?_ | refine sP2 hS rfl rfl rfl ?_ | refine sP3 hS rfl rfl rfl ?_); clear hS; first | ((fail_if_success guard_hyp L1); intro L1 cl1 w hL1 hM1 hS) | ((fail_if_success guard_hyp L2); intro L2 cl2 w hL2 hM2 hS) | ((fail_if_success guard_hyp L3); intro L3 cl3 w hL3 hM3 hS) | ((fail_if_success guard_hyp L4); intro L4 cl4 w hL4 hM4 hS) | ((fail_if_success guard_hyp L5); intro L5 cl5 w hL5 hM5 hS) | fail)) | ((first | (refine oB ?_; first | refine sB1 hS rfl rfl ?_ | refine sB2 hS rfl rfl ?_) | refine sN1 hS rfl ?_ | (refine oC ?_; first | refine sC0 hS rfl ?_ | refine sC1 hS rfl rfl ?_ | refine sC2 hS rfl rfl ?_ | refine sC3 hS rfl rfl rfl ?_ | refine sC4 hS rfl rfl rfl ?_)); clear hS; first | ((fail_if_success guard_hyp g1); intro g1 w hS) | ((fail_if_success guard_hyp g2); intro g2 w hS) | ((fail_if_success guard_hyp g3); intro g3 w hS) | ((fail_if_success guard_hyp g4); intro g4 w hS) | ((fail_if_success guard_hyp g5); intro g5 w hS) | ((fail_if_success guard_hyp g6); intro g6 w hS) | ((fail_if_success guard_hyp g7); intro g7 w hS) | ((fail_if_success guard_hyp g8); intro g8 w hS) | ((fail_if_success guard_hyp g9); intro g9 w hS) | ((fail_if_success guard_hyp g10); intro g10 w hS) | ((fail_if_success guard_hyp g11); intro g11 w hS) | ((fail_if_success guard_hyp g12); intro g12 w hS) | ((fail_if_success guard_hyp g13); intro g13 w hS) | ((fail_if_success guard_hyp g14); intro g14 w hS) | fail) | fail)
                        refine lR ?_
                        refine lM rfl rfl ?_
                        (try simp only [Act.put, nA, nB, nC])
                        refine lM rfl rfl ?_
                        (try simp only [Act.put, nA, nB, nC])
                        first | refine lQ rfl ?_ | (refine ⟨?_⟩; ((first | refine sL1 hS rfl rfl rfl ?_ | refine sL2 hS rfl rfl rfl ?_ | refine sL3 hS rfl rfl ?_ | refine sL4 hS rfl rfl ?_ | refine sL5 hS rfl rfl ?_ | refine sL6 hS rfl rfl ?_ | refine sL7 hS rfl rfl ?_)); refine WL.h ?_) | fail
                        (try simp only [Act.put, nA, nB, nC])
                        first | refine lQ rfl ?_ | (refine ⟨?_⟩; ((first | refine sL1 hS rfl rfl rfl ?_ | refine sL2 hS rfl rfl rfl ?_ | refine sL3 hS rfl rfl ?_ | refine sL4 hS rfl rfl ?_ | refine sL5 hS rfl rfl ?_ | refine sL6 hS rfl rfl ?_ | refine sL7 hS rfl rfl ?_)); refine WL.h ?_) | fail
                        (try simp only [Act.put, nA, nB, nC])
                        first | refine lQ rfl ?_ | refine lP rfl ?_ | fail
                        (try simp only [Act.put, nA, nB, nC])
                        refine lP rfl ?_
                        (try simp only [Act.put, nA, nB, nC])
                        refine lA rfl rfl ?_
                        (try simp only [Act.put, nA, nB, nC])
                        refine lZ ?_
                        go_wp2_with (first | (refine oL ?_; (first | refine sL1 hS rfl rfl rfl ?_ | refine sL2 hS rfl rfl rfl ?_ | refine sL3 hS rfl rfl ?_ | refine sL4 hS rfl rfl ?_ | refine sL5 hS rfl rfl ?_ | refine sL6 hS rfl rfl ?_ | refine sL7 hS rfl rfl ?_)) | (refine oS ?_; ((first | refine sS1 hS rfl rfl rfl ?_ | refine sS2 hS rfl rfl rfl ?_ | refine sS3 hS rfl rfl rfl ?_ | refine sS4 hS rfl rfl rfl ?_ | refine sS5 hS rfl rfl rfl ?_); clear hS; intro w hS)) | (refine oP ?_; ((first | refine sP1 hS rfl rfl rfl ?_ | refine sP2 hS rfl rfl rfl ?_ | refine sP3 hS rfl rfl rfl ?_); clear hS; first | ((fail_if_success guard_hyp L1); intro L1 cl1 w hL1 hM1 hS) | ((fail_if_success guard_hyp L2); intro L2 cl2 w hL2 hM2 hS) | ((fail_if_success guard_hyp L3); intro L3 cl3 w hL3 hM3 hS) | ((fail_if_success guard_hyp L4); intro L4 cl4 w hL4 hM4 hS) | ((fail_if_success guard_hyp L5); intro L5 cl5 w hL5 hM5 hS) | fail)) | ((first | (refine oB ?_; first | refine sB1 hS rfl rfl ?_ | refine sB2 hS rfl rfl ?_) | refine sN1 hS rfl ?_ | (refine oC ?_; first | refine sC0 hS rfl ?_ | refine sC1 hS rfl rfl ?_ | refine sC2 hS rfl rfl ?_ | refine sC3 hS rfl rfl rfl ?_ | refine sC4 hS rfl rfl rfl ?_)); clear hS; first | ((fail_if_success guard_hyp g1); intro g1 w hS) | ((fail_if_success guard_hyp g2); intro g2 w hS) | ((fail_if_success guard_hyp g3); intro g3 w hS) | ((fail_if_success guard_hyp g4); intro g4 w hS) | ((fail_if_success guard_hyp g5); intro g5 w hS) | ((fail_if_success guard_hyp g6); intro g6 w hS) | ((fail_if_success guard_hyp g7); intro g7 w hS) | ((fail_if_success guard_hyp g8); intro g8 w hS) | ((fail_if_success guard_hyp g9); intro g9 w hS) | ((fail_if_success guard_hyp g10); intro g10 w hS) | ((fail_if_success guard_hyp g11); intro g11 w hS) | ((fail_if_success guard_hyp g12); intro g12 w hS) | ((fail_if_success guard_hyp g13); intro g13 w hS) | ((fail_if_success guard_hyp g14); intro g14 w hS) | fail) | fail)
                        go_roundw
                        case measure => simp [intOf]; omega
                        exact ⟨i + 1, true, by omega, by go_num, rfl, Lib.hid (HTK.out true (by simp)), hS.re⟩
                      | false =>
                        go_upto_region 24 with (first | (refine oL ?_; refine sL8 hS rfl rfl HPZ.out rfl ?_) | (refine oL ?_; (first | refine sL1 hS rfl rfl rfl ?_ | refine sL2 hS rfl rfl rfl ?_ | refine sL3 hS rfl rfl ?_ | refine sL4 hS rfl rfl ?_ | refine sL5 hS rfl rfl ?_ | refine sL6 hS rfl rfl ?_ | refine sL7 hS rfl rfl ?_)) | (refine oS ?_; ((first | refine sS1 hS rfl rfl rfl ?_ | refine sS2 hS rfl rfl rfl ?_ | refine sS3 hS rfl rfl rfl ?_ | refine sS4 hS rfl rfl rfl ?_ | refine sS5 hS rfl rfl rfl ?_); clear hS; intro w hS)) | (refine oP ?_; ((first | refine sP1 hS rfl rfl rfl ?_ | refine sP2 hS rfl rfl rfl ?_ | refine sP3 hS rfl rfl rfl ?_); clear hS; first | ((fail_if_success guard_hyp L1); intro L1 cl1 w hL1 hM1 hS) | ((fail_if_success guard_hyp L2); intro L2 cl2 w hL2 hM2 hS) | ((fail_if_success guard_hyp L3); intro L3 cl3 w hL3 hM3 hS) | ((fail_if_success guard_hyp L4); intro L4 cl4 w hL4 hM4 hS) | ((fail_if_success guard_hyp L5); intro L5 cl5 w hL5 hM5 hS) | fail)) | ((first | (refine oB ?_; first | refine sB1 hS rfl rfl ?_ | refine sB2 hS rfl rfl ?_) | refine sN1 hS rfl ?_ | (refine oC ?_; first | refine sC0 hS rfl ?_ | refine sC1 hS rfl rfl ?_ | refine sC2 hS rfl rfl ?_ | refine sC3 hS rfl rfl rfl ?_ | refine sC4 hS rfl rfl rfl ?_)); clear hS; first | ((fail_if_success guard_hyp g1); intro g1 w hS) | ((fail_if_success guard_hyp g2); intro g2 w hS) | ((fail_if_success guard_hyp g3); intro g3 w hS) | ((fail_if_success guard_hyp g4); intro g4 w hS) | ((fail_if_success guard_hyp g5); intro g5 w hS) | ((fail_if_success guard_hyp g6); intro g6 w hS) | ((fail_if_success guard_hyp g7); intro g7 w hS) | ((fail_if_success guard_hyp g8); intro g8 w hS) | ((fail_if_success guard_hyp g9); intro g9 w hS) | ((fail_if_success guard_hyp g10); intro g10 w hS) | ((fail_if_success guard_hyp g11); intro g11 w hS) | ((fail_if_success guard_hyp g12); intro g12 w hS) | ((fail_if_success guard_hyp g13); intro g13 w hS) | ((fail_if_success guard_hyp g14); intro g14 w hS) | fail) | fail)
                        refine lR ?_
                        refine lM rfl rfl ?_
                        (try simp only [Act.put, nA, nB, nC])
                        refine lM rfl rfl ?_
                        (try simp only [Act.put, nA, nB, nC])
                        first | refine lQ rfl ?_ | (refine ⟨?_⟩; ((first | refine sL1 hS rfl rfl rfl ?_ | refine sL2 hS rfl rfl rfl ?_ | refine sL3 hS rfl rfl ?_ | refine sL4 hS rfl rfl ?_ | refine sL5 hS rfl rfl ?_ | refine sL6 hS rfl rfl ?_ | refine sL7 hS rfl rfl ?_)); refine WL.h ?_) | fail
                        (try simp only [Act.put, nA, nB, nC])
                        first | refine lQ rfl ?_ | (refine ⟨?_⟩; ((first | refine sL1 hS rfl rfl rfl ?_ | refine sL2 hS rfl rfl rfl ?_ | refine sL3 hS rfl rfl ?_ | refine sL4 hS rfl rfl ?_ | refine sL5 hS rfl rfl ?_ | refine sL6 hS rfl rfl ?_ | refine sL7 hS rfl rfl ?_)); refine WL.h ?_) | fail
                        (try simp only [Act.put, nA, nB, nC])
                        first | refine lQ rfl ?_ | (refine ⟨?_⟩; (refine sEq rfl rfl rfl ?_; intro r hr; have HR := Lib.hid hr; clear hr); refine WL.h ?_) | fail
                        (try simp only [Act.put, nA, nB, nC])
                        refine lP rfl ?_
                        (try simp only [Act.put, nA, nB, nC])
                        refine lA rfl rfl ?_
                        (try simp only [Act.put, nA, nB, nC])
                        refine lZ ?_
                        go_wp2_with (first | (refine oL ?_; (first | refine sL1 hS rfl rfl rfl ?_ | refine sL2 hS rfl rfl rfl ?_ | refine sL3 hS rfl rfl ?_ | refine sL4 hS rfl rfl ?_ | refine sL5 hS rfl rfl ?_ | refine sL6 hS rfl rfl ?_ | refine sL7 hS rfl rfl ?_)) | (refine oS ?_; ((first | refine sS1 hS rfl rfl rfl ?_ | refine sS2 hS rfl rfl rfl ?_ | refine sS3 hS rfl rfl rfl ?_ | refine sS4 hS rfl rfl rfl ?_ | refine sS5 hS rfl rfl rfl ?_); clear hS; intro w hS)) | (refine oP ?_; ((first | refine sP1 hS rfl rfl rfl ?_ | refine sP2 hS rfl rfl rfl ?_ | refine sP3 hS rfl rfl rfl ?_); clear hS; first | ((fail_if_success guard_hyp L1); intro L1 cl1 w hL1 hM1 hS) | ((fail_if_success guard_hyp L2); intro L2 cl2 w hL2 hM2 hS) | ((fail_if_success guard_hyp L3); intro L3 cl3 w hL3 hM3 hS) | ((fail_if_success guard_hyp L4); intro L4 cl4 w hL4 hM4 hS) | ((fail_if_success guard_hyp L5); intro L5 cl5 w hL5 hM5 hS) | fail)) | ((first | (refine oB ?_; first | refine sB1 hS rfl rfl ?_ | refine sB2 hS rfl rfl ?_) | refine sN1 hS rfl ?_ | (refine oC ?_; first | refine sC0 hS rfl ?_ | refine sC1 hS rfl rfl ?_ | refine sC2 hS rfl rfl ?_ | refine sC3 hS rfl rfl rfl ?_ | refine sC4 hS rfl rfl rfl ?_)); clear hS; first | ((fail_if_success guard_hyp g1); intro g1 w hS) | ((fail_if_success guard_hyp g2); intro g2 w hS) | ((fail_if_success guard_hyp g3); intro g3 w hS) | ((fail_if_success guard_hyp g4); intro g4 w hS) | ((fail_if_success guard_hyp g5); intro g5 w hS) | ((fail_if_success guard_hyp g6); intro g6 w hS) | ((fail_if_success guard_hyp g7); intro g7 w hS) | ((fail_if_success guard_hyp g8); intro g8 w hS) | ((fail_if_success guard_hyp g9); intro g9 w hS) | ((fail_if_success guard_hyp g10); intro g10 w hS) | ((fail_if_success guard_hyp g11); intro g11 w hS) | ((fail_if_success guard_hyp g12); intro g12 w hS) | ((fail_if_success guard_hyp g13); intro g13 w hS) | ((fail_if_success guard_hyp g14); intro g14 w hS) | fail) | fail)
                        go_roundw
                        case measure => simp [intOf]; omega
                        exact ⟨i + 1, r, by omega, by go_num, rfl, Lib.hid (HTK.out r (by simpa using HR.out)), hS.re⟩
                    · have HK2 := Lib.hid (show kn = true ↔ (qy, ky) ∈ s by have := HKN.out; rw [List.take_of_length_le (by omega)] at this; exact this)
                      clear HKN
                      cases kn with
                      | true =>
                        go_wp2_with (first | (refine oL ?_; (first | refine sL1 hS rfl rfl rfl ?_ | refine sL2 hS rfl rfl rfl ?_ | refine sL3 hS rfl rfl ?_ | refine sL4 hS rfl rfl ?_ | refine sL5 hS rfl rfl ?_ | refine sL6 hS rfl rfl ?_ | refine sL7 hS rfl rfl ?_)) | (refine oS ?_; ((first | refine sS1 hS rfl rfl rfl ?_ | refine sS2 hS rfl rfl rfl ?_ | refine sS3 hS rfl rfl rfl ?_ | refine sS4 hS rfl rfl rfl ?_ | refine sS5 hS rfl rfl rfl ?_); clear hS; intro w hS)) | (refine oP ?_; ((first | refine sP1 hS rfl rfl rfl ?_ | refine sP2 hS rfl rfl rfl ?_ | refine sP3 hS rfl rfl rfl ?_); clear hS; first | ((fail_if_success guard_hyp L1); intro L1 cl1 w hL1 hM1 hS) | ((fail_if_success guard_hyp L2); intro L2 cl2 w hL2 hM2 hS) | ((fail_if_success guard_hyp L3); intro L3 cl3 w hL3 hM3 hS) | ((fail_if_success guard_hyp L4); intro L4 cl4 w hL4 hM4 hS) | ((fail_if_success guard_hyp L5); intro L5 cl5 w hL5 hM5 hS) | fail)) | ((first | (refine oB ?_; first | refine sB1 hS rfl rfl ?_ | refine sB2 hS rfl rfl ?_) | refine sN1 hS rfl ?_ | (refine oC ?_; first | refine sC0 hS rfl ?_ | refine sC1 hS rfl rfl ?_ | refine sC2 hS rfl rfl ?_ | refine sC3 hS rfl rfl rfl ?_ | refine sC4 hS rfl rfl rfl ?_)); clear hS; first | ((fail_if_success guard_hyp g1); intro g1 w hS) | ((fail_if_success guard_hyp g2); intro g2 w hS) | ((fail_if_success guard_hyp g3); intro g3 w hS) | ((fail_if_success guard_hyp g4); intro g4 w hS) | ((fail_if_success guard_hyp g5); intro g5 w hS) | ((fail_if_success guard_hyp g6); intro g6 w hS) | ((fail_if_success guard_hyp g7); intro g7 w hS) | ((fail_if_success guard_hyp g8); intro g8 w hS) | ((fail_if_success guard_hyp g9); intro g9 w hS) | ((fail_if_success guard_hyp g10); intro g10 w hS) | ((fail_if_success guard_hyp g11); intro g11 w hS) | ((fail_if_success guard_hyp g12); intro g12 w hS) | ((fail_if_success guard_hyp g13); intro g13 w hS) | ((fail_if_success guard_hyp g14); intro g14 w hS) | fail) | fail)
                        go_roundw
                        case measure => simp [intOf]; omega
                        refine ⟨j + 1, s, t, Ls, cs, Lt, ct, by omega, by go_num, rfl, rfl, hs325, ht651, Lib.hid ⟨HI.out.1, HI.out.2.1, HI.out.2.2.1, fun v hv => ?_⟩, hS.re⟩
                        rw [HT.out] at hv
                        rcases List.mem_append.1 hv with hv | hv
                        · exact HI.out.2.2.2 v hv
                        · rw [List.mem_singleton.1 hv]; exact HK2.out.1 rfl
                      | false =>
                        have HNI := Lib.hid (show (qy, ky) ∉ s from fun h => by have := HK2.out.2 h; cases this)
                        have HUN := Lib.hid (show unseen p (inL (s ++ [(qy, ky)])) < unseen p (inL s) by rw [inL_snoc]; exact unseen_lt HP.out.2.1 HYR.out.1 (inL_false HNI.out))
                        have HL1 := Lib.hid (show (s ++ [(qy, ky)]).length = s.length + 1 by simp)
                        have HF1 := Lib.hid (show (s ++ [(qy, ky)]).flatMap ptCells = s.flatMap ptCells ++ [.int .i64 (qy : Int), .int .i64 ky] by simp [ptCells])
                        have HL2 := Lib.hid (show (t ++ [(qy, ky)]).length = t.length + 1 by simp)
                        have HF2 := Lib.hid (show (t ++ [(qy, ky)]).flatMap ptCells = t.flatMap ptCells ++ [.int .i64 (qy : Int), .int .i64 ky] by simp [ptCells])
                        go_wp2_with (first | (refine oL ?_; (first | refine sL1 hS rfl rfl rfl ?_ | refine sL2 hS rfl rfl rfl ?_ | refine sL3 hS rfl rfl ?_ | refine sL4 hS rfl rfl ?_ | refine sL5 hS rfl rfl ?_ | refine sL6 hS rfl rfl ?_ | refine sL7 hS rfl rfl ?_)) | (refine oS ?_; ((first | refine sS1 hS rfl rfl rfl ?_ | refine sS2 hS rfl rfl rfl ?_ | refine sS3 hS rfl rfl rfl ?_ | refine sS4 hS rfl rfl rfl ?_ | refine sS5 hS rfl rfl rfl ?_); clear hS; intro w hS)) | (refine oP ?_; ((first | refine sP1 hS rfl rfl rfl ?_ | refine sP2 hS rfl rfl rfl ?_ | refine sP3 hS rfl rfl rfl ?_); clear hS; first | ((fail_if_success guard_hyp L1); intro L1 cl1 w hL1 hM1 hS) | ((fail_if_success guard_hyp L2); intro L2 cl2 w hL2 hM2 hS) | ((fail_if_success guard_hyp L3); intro L3 cl3 w hL3 hM3 hS) | ((fail_if_success guard_hyp L4); intro L4 cl4 w hL4 hM4 hS) | ((fail_if_success guard_hyp L5); intro L5 cl5 w hL5 hM5 hS) | fail)) | ((first | (refine oB ?_; first | refine sB1 hS rfl rfl ?_ | refine sB2 hS rfl rfl ?_) | refine sN1 hS rfl ?_ | (refine oC ?_; first | refine sC0 hS rfl ?_ | refine sC1 hS rfl rfl ?_ | refine sC2 hS rfl rfl ?_ | refine sC3 hS rfl rfl rfl ?_ | refine sC4 hS rfl rfl rfl ?_)); clear hS; first | ((fail_if_success guard_hyp g1); intro g1 w hS) | ((fail_if_success guard_hyp g2); intro g2 w hS) | ((fail_if_success guard_hyp g3); intro g3 w hS) | ((fail_if_success guard_hyp g4); intro g4 w hS) | ((fail_if_success guard_hyp g5); intro g5 w hS) | ((fail_if_success guard_hyp g6); intro g6 w hS) | ((fail_if_success guard_hyp g7); intro g7 w hS) | ((fail_if_success guard_hyp g8); intro g8 w hS) | ((fail_if_success guard_hyp g9); intro g9 w hS) | ((fail_if_success guard_hyp g10); intro g10 w hS) | ((fail_if_success guard_hyp g11); intro g11 w hS) | ((fail_if_success guard_hyp g12); intro g12 w hS) | ((fail_if_success guard_hyp g13); intro g13 w hS) | ((fail_if_success guard_hyp g14); intro g14 w hS) | fail) | fail)
                        refine dr_start2 [] 2 2 hS (by kernel_rfl) rfl ?_; clear hS; intro w hS
                        refine dM hS 0 rfl rfl rfl ?_
                        (try simp only [Act.put, nA, nB, nC])
                        first | refine dL1 hS 1 rfl rfl rfl rfl ?_ | refine dL2 hS 1 rfl rfl rfl rfl ?_ | refine dL3 hS 1 rfl rfl rfl ?_ | refine dL4 hS 1 rfl rfl rfl ?_ | refine dL5 hS 1 rfl rfl rfl ?_ | refine dL6 hS 1 rfl rfl rfl ?_ | refine dL7 hS 1 rfl rfl rfl ?_
                        (try simp only [Act.put, nA, nB, nC])
                        refine dM hS 4 rfl rfl rfl ?_
                        (try simp only [Act.put, nA, nB, nC])
                        first | refine dL1 hS 5 rfl rfl rfl rfl ?_ | refine dL2 hS 5 rfl rfl rfl rfl ?_ | refine dL3 hS 5 rfl rfl rfl ?_ | refine dL4 hS 5 rfl rfl rfl ?_ | refine dL5 hS 5 rfl rfl rfl ?_ | refine dL6 hS 5 rfl rfl rfl ?_ | refine dL7 hS 5 rfl rfl rfl ?_
                        (try simp only [Act.put, nA, nB, nC])
                        refine dr_two 2 6 (by kernel_rfl) rfl rfl ?_ ?_
                        ((first | refine sC0 hS rfl ?_ | refine sC1 hS rfl rfl ?_ | refine sC2 hS rfl rfl ?_ | refine sC3 hS rfl rfl rfl ?_ | refine sC4 hS rfl rfl rfl ?_); clear hS; first | ((fail_if_success guard_hyp g1); intro g1 w hS) | ((fail_if_success guard_hyp g2); intro g2 w hS) | ((fail_if_success guard_hyp g3); intro g3 w hS) | ((fail_if_success guard_hyp g4); intro g4 w hS) | ((fail_if_success guard_hyp g5); intro g5 w hS) | ((fail_if_success guard_hyp g6); intro g6 w hS) | ((fail_if_success guard_hyp g7); intro g7 w hS) | ((fail_if_success guard_hyp g8); intro g8 w hS) | ((fail_if_success guard_hyp g9); intro g9 w hS) | ((fail_if_success guard_hyp g10); intro g10 w hS) | ((fail_if_success guard_hyp g11); intro g11 w hS) | ((fail_if_success guard_hyp g12); intro g12 w hS) | ((fail_if_success guard_hyp g13); intro g13 w hS) | ((fail_if_success guard_hyp g14); intro g14 w hS) | fail)
                        (try simp only [Act.put, nA, nB, nC])
                        refine dr_end hS ?_
                        refine dr_two 3 6 (by kernel_rfl) rfl rfl ?_ ?_
                        ((first | refine sP1 hS rfl rfl rfl ?_ | refine sP2 hS rfl rfl rfl ?_ | refine sP3 hS rfl rfl rfl ?_); clear hS; first | ((fail_if_success guard_hyp L1); intro L1 cl1 w hL1 hM1 hS) | ((fail_if_success guard_hyp L2); intro L2 cl2 w hL2 hM2 hS) | ((fail_if_success guard_hyp L3); intro L3 cl3 w hL3 hM3 hS) | ((fail_if_success guard_hyp L4); intro L4 cl4 w hL4 hM4 hS) | ((fail_if_success guard_hyp L5); intro L5 cl5 w hL5 hM5 hS) | fail)
                        (try simp only [Act.put, nA, nB, nC])
                        refine dr_end hS ?_
                        refine dr_one 6 (by kernel_rfl) rfl ?_
                        ((first | refine sC0 hS rfl ?_ | refine sC1 hS rfl rfl ?_ | refine sC2 hS rfl rfl ?_ | refine sC3 hS rfl rfl rfl ?_ | refine sC4 hS rfl rfl rfl ?_); clear hS; first | ((fail_if_success guard_hyp g1); intro g1 w hS) | ((fail_if_success guard_hyp g2); intro g2 w hS) | ((fail_if_success guard_hyp g3); intro g3 w hS) | ((fail_if_success guard_hyp g4); intro g4 w hS) | ((fail_if_success guard_hyp g5); intro g5 w hS) | ((fail_if_success guard_hyp g6); intro g6 w hS) | ((fail_if_success guard_hyp g7); intro g7 w hS) | ((fail_if_success guard_hyp g8); intro g8 w hS) | ((fail_if_success guard_hyp g9); intro g9 w hS) | ((fail_if_success guard_hyp g10); intro g10 w hS) | ((fail_if_success guard_hyp g11); intro g11 w hS) | ((fail_if_success guard_hyp g12); intro g12 w hS) | ((fail_if_success guard_hyp g13); intro g13 w hS) | ((fail_if_success guard_hyp g14); intro g14 w hS) | fail)
                        (try simp only [Act.put, nA, nB, nC])
                        refine dr_end hS ?_
                        refine dr_one 7 (by kernel_rfl) rfl ?_
                        ((first | refine sP1 hS rfl rfl rfl ?_ | refine sP2 hS rfl rfl rfl ?_ | refine sP3 hS rfl rfl rfl ?_); clear hS; first | ((fail_if_success guard_hyp L1); intro L1 cl1 w hL1 hM1 hS) | ((fail_if_success guard_hyp L2); intro L2 cl2 w hL2 hM2 hS) | ((fail_if_success guard_hyp L3); intro L3 cl3 w hL3 hM3 hS) | ((fail_if_success guard_hyp L4); intro L4 cl4 w hL4 hM4 hS) | ((fail_if_success guard_hyp L5); intro L5 cl5 w hL5 hM5 hS) | fail)
                        (try simp only [Act.put, nA, nB, nC])
                        refine dr_end hS ?_
                        refine dA hS 8 rfl rfl rfl ?_
                        (try simp only [Act.put, nA, nB, nC])
                        refine dA hS 9 rfl rfl rfl ?_
                        (try simp only [Act.put, nA, nB, nC])
                        refine dr_done (by kernel_rfl) ?_
                        rotate_left
                        ((first | refine sC0 hS rfl ?_ | refine sC1 hS rfl rfl ?_ | refine sC2 hS rfl rfl ?_ | refine sC3 hS rfl rfl rfl ?_ | refine sC4 hS rfl rfl rfl ?_); clear hS; first | ((fail_if_success guard_hyp g1); intro g1 w hS) | ((fail_if_success guard_hyp g2); intro g2 w hS) | ((fail_if_success guard_hyp g3); intro g3 w hS) | ((fail_if_success guard_hyp g4); intro g4 w hS) | ((fail_if_success guard_hyp g5); intro g5 w hS) | ((fail_if_success guard_hyp g6); intro g6 w hS) | ((fail_if_success guard_hyp g7); intro g7 w hS) | ((fail_if_success guard_hyp g8); intro g8 w hS) | ((fail_if_success guard_hyp g9); intro g9 w hS) | ((fail_if_success guard_hyp g10); intro g10 w hS) | ((fail_if_success guard_hyp g11); intro g11 w hS) | ((fail_if_success guard_hyp g12); intro g12 w hS) | ((fail_if_success guard_hyp g13); intro g13 w hS) | ((fail_if_success guard_hyp g14); intro g14 w hS) | fail)
                        (try simp only [Act.put, nA, nB, nC])
                        refine dr_end hS ?_
                        refine dr_one 3 (by kernel_rfl) rfl ?_
                        ((first | refine sP1 hS rfl rfl rfl ?_ | refine sP2 hS rfl rfl rfl ?_ | refine sP3 hS rfl rfl rfl ?_); clear hS; first | ((fail_if_success guard_hyp L1); intro L1 cl1 w hL1 hM1 hS) | ((fail_if_success guard_hyp L2); intro L2 cl2 w hL2 hM2 hS) | ((fail_if_success guard_hyp L3); intro L3 cl3 w hL3 hM3 hS) | ((fail_if_success guard_hyp L4); intro L4 cl4 w hL4 hM4 hS) | ((fail_if_success guard_hyp L5); intro L5 cl5 w hL5 hM5 hS) | fail)
                        (try simp only [Act.put, nA, nB, nC])
                        refine dr_end hS ?_
                        refine dr_one 7 (by kernel_rfl) rfl ?_
                        ((first | refine sP1 hS rfl rfl rfl ?_ | refine sP2 hS rfl rfl rfl ?_ | refine sP3 hS rfl rfl rfl ?_); clear hS; first | ((fail_if_success guard_hyp L1); intro L1 cl1 w hL1 hM1 hS) | ((fail_if_success guard_hyp L2); intro L2 cl2 w hL2 hM2 hS) | ((fail_if_success guard_hyp L3); intro L3 cl3 w hL3 hM3 hS) | ((fail_if_success guard_hyp L4); intro L4 cl4 w hL4 hM4 hS) | ((fail_if_success guard_hyp L5); intro L5 cl5 w hL5 hM5 hS) | fail)
                        (try simp only [Act.put, nA, nB, nC])
                        refine dr_end hS ?_
                        refine dA hS 8 rfl rfl rfl ?_
                        (try simp only [Act.put, nA, nB, nC])
                        refine dA hS 9 rfl rfl rfl ?_
                        (try simp only [Act.put, nA, nB, nC])
                        refine dr_done (by kernel_rfl) ?_
                        rotate_left
                        ((first | refine sC0 hS rfl ?_ | refine sC1 hS rfl rfl ?_ | refine sC2 hS rfl rfl ?_ | refine sC3 hS rfl rfl rfl ?_ | refine sC4 hS rfl rfl rfl ?_); clear hS; first | ((fail_if_success guard_hyp g1); intro g1 w hS) | ((fail_if_success guard_hyp g2); intro g2 w hS) | ((fail_if_success guard_hyp g3); intro g3 w hS) | ((fail_if_success guard_hyp g4); intro g4 w hS) | ((fail_if_success guard_hyp g5); intro g5 w hS) | ((fail_if_success guard_hyp g6); intro g6 w hS) | ((fail_if_success guard_hyp g7); intro g7 w hS) | ((fail_if_success guard_hyp g8); intro g8 w hS) | ((fail_if_success guard_hyp g9); intro g9 w hS) | ((fail_if_success guard_hyp g10); intro g10 w hS) | ((fail_if_success guard_hyp g11); intro g11 w hS) | ((fail_if_success guard_hyp g12); intro g12 w hS) | ((fail_if_success guard_hyp g13); intro g13 w hS) | ((fail_if_success guard_hyp g14); intro g14 w hS) | fail)
                        (try simp only [Act.put, nA, nB, nC])
                        refine dr_end hS ?_
                        refine dr_one 2 (by kernel_rfl) rfl ?_
                        ((first | refine sC0 hS rfl ?_ | refine sC1 hS rfl rfl ?_ | refine sC2 hS rfl rfl ?_ | refine sC3 hS rfl rfl rfl ?_ | refine sC4 hS rfl rfl rfl ?_); clear hS; first | ((fail_if_success guard_hyp g1); intro g1 w hS) | ((fail_if_success guard_hyp g2); intro g2 w hS) | ((fail_if_success guard_hyp g3); intro g3 w hS) | ((fail_if_success guard_hyp g4); intro g4 w hS) | ((fail_if_success guard_hyp g5); intro g5 w hS) | ((fail_if_success guard_hyp g6); intro g6 w hS) | ((fail_if_success guard_hyp g7); intro g7 w hS) | ((fail_if_success guard_hyp g8); intro g8 w hS) | ((fail_if_success guard_hyp g9); intro g9 w hS) | ((fail_if_success guard_hyp g10); intro g10 w hS) | ((fail_if_success guard_hyp g11); intro g11 w hS) | ((fail_if_success guard_hyp g12); intro g12 w hS) | ((fail_if_success guard_hyp g13); intro g13 w hS) | ((fail_if_success guard_hyp g14); intro g14 w hS) | fail)
                        (try simp only [Act.put, nA, nB, nC])
                        refine dr_end hS ?_
                        refine dr_one 3 (by kernel_rfl) rfl ?_
                        ((first | refine sP1 hS rfl rfl rfl ?_ | refine sP2 hS rfl rfl rfl ?_ | refine sP3 hS rfl rfl rfl ?_); clear hS; first | ((fail_if_success guard_hyp L1); intro L1 cl1 w hL1 hM1 hS) | ((fail_if_success guard_hyp L2); intro L2 cl2 w hL2 hM2 hS) | ((fail_if_success guard_hyp L3); intro L3 cl3 w hL3 hM3 hS) | ((fail_if_success guard_hyp L4); intro L4 cl4 w hL4 hM4 hS) | ((fail_if_success guard_hyp L5); intro L5 cl5 w hL5 hM5 hS) | fail)
                        (try simp only [Act.put, nA, nB, nC])
                        refine dr_end hS ?_
                        refine dr_one 7 (by kernel_rfl) rfl ?_
                        ((first | refine sP1 hS rfl rfl rfl ?_ | refine sP2 hS rfl rfl rfl ?_ | refine sP3 hS rfl rfl rfl ?_); clear hS; first | ((fail_if_success guard_hyp L1); intro L1 cl1 w hL1 hM1 hS) | ((fail_if_success guard_hyp L2); intro L2 cl2 w hL2 hM2 hS) | ((fail_if_success guard_hyp L3); intro L3 cl3 w hL3 hM3 hS) | ((fail_if_success guard_hyp L4); intro L4 cl4 w hL4 hM4 hS) | ((fail_if_success guard_hyp L5); intro L5 cl5 w hL5 hM5 hS) | fail)
                        (try simp only [Act.put, nA, nB, nC])
                        refine dr_end hS ?_
                        refine dA hS 8 rfl rfl rfl ?_
                        (try simp only [Act.put, nA, nB, nC])
                        refine dA hS 9 rfl rfl rfl ?_
                        (try simp only [Act.put, nA, nB, nC])
                        refine dr_done (by kernel_rfl) ?_
                        rotate_left
                        all_goals
                          go_wp2_with (first | (refine oL ?_; (first | refine sL1 hS rfl rfl rfl ?_ | refine sL2 hS rfl rfl rfl ?_ | refine sL3 hS rfl rfl ?_ | refine sL4 hS rfl rfl ?_ | refine sL5 hS rfl rfl ?_ | refine sL6 hS rfl rfl ?_ | refine sL7 hS rfl rfl ?_)) | (refine oS ?_; ((first | refine sS1 hS rfl rfl rfl ?_ | refine sS2 hS rfl rfl rfl ?_ | refine sS3 hS rfl rfl rfl ?_ | refine sS4 hS rfl rfl rfl ?_ | refine sS5 hS rfl rfl rfl ?_); clear hS; intro w hS)) | (refine oP ?_; ((first | refine sP1 hS rfl rfl rfl ?_ | refine sP2 hS rfl rfl rfl ?_ | refine sP3 hS rfl rfl rfl ?_); clear hS; first | ((fail_if_success guard_hyp L1); intro L1 cl1 w hL1 hM1 hS) | ((fail_if_success guard_hyp L2); intro L2 cl2 w hL2 hM2 hS) | ((fail_if_success guard_hyp L3); intro L3 cl3 w hL3 hM3 hS) | ((fail_if_success guard_hyp L4); intro L4 cl4 w hL4 hM4 hS) | ((fail_if_success guard_hyp L5); intro L5 cl5 w hL5 hM5 hS) | fail)) | ((first | (refine oB ?_; first | refine sB1 hS rfl rfl ?_ | refine sB2 hS rfl rfl ?_) | refine sN1 hS rfl ?_ | (refine oC ?_; first | refine sC0 hS rfl ?_ | refine sC1 hS rfl rfl ?_ | refine sC2 hS rfl rfl ?_ | refine sC3 hS rfl rfl rfl ?_ | refine sC4 hS rfl rfl rfl ?_)); clear hS; first | ((fail_if_success guard_hyp g1); intro g1 w hS) | ((fail_if_success guard_hyp g2); intro g2 w hS) | ((fail_if_success guard_hyp g3); intro g3 w hS) | ((fail_if_success guard_hyp g4); intro g4 w hS) | ((fail_if_success guard_hyp g5); intro g5 w hS) | ((fail_if_success guard_hyp g6); intro g6 w hS) | ((fail_if_success guard_hyp g7); intro g7 w hS) | ((fail_if_success guard_hyp g8); intro g8 w hS) | ((fail_if_success guard_hyp g9); intro g9 w hS) | ((fail_if_success guard_hyp g10); intro g10 w hS) | ((fail_if_success guard_hyp g11); intro g11 w hS) | ((fail_if_success guard_hyp g12); intro g12 w hS) | ((fail_if_success guard_hyp g13); intro g13 w hS) | ((fail_if_success guard_hyp g14); intro g14 w hS) | fail) | fail)
                          go_roundw
                          case measure => simp [intOf]; omega
                          refine ⟨j + 1, s ++ [(qy, ky)], t ++ [(qy, ky)], _, _, _, _, by omega, by go_num, by rw [HL1.out], by rw [HL2.out], by rw [HL1.out]; have := HI.out; have := HUN.out; omega, by rw [HL2.out]; have := HI.out; have := HKK.out; have := HUN.out; omega, Lib.hid ⟨HI.out.1.add HYR.out.1 HYR.out.2 HYA.out, by rw [HL1.out]; have := HI.out; have := HUN.out; omega, by rw [HL2.out]; have := HI.out; have := HUN.out; omega, fun v hv => ?_⟩, ?_⟩
                          · rw [HT.out] at hv
                            rcases List.mem_append.1 hv with hv | hv
                            · exact List.mem_append_left _ (HI.out.2.2.2 v hv)
                            · rw [List.mem_singleton.1 hv]; simp
                          · rw [HL1.out, HF1.out, HL2.out, HF2.out]; exact hS.re
              · have HD := Lib.hid (HI.out.1.done (fun y hy => HI.out.2.2.2 y (by rw [List.take_of_length_le (by omega)]; exact (HLP.out y).2 hy)))
                go_wp2_with (first | (refine oL ?_; (first | refine sL1 hS rfl rfl rfl ?_ | refine sL2 hS rfl rfl rfl ?_ | refine sL3 hS rfl rfl ?_ | refine sL4 hS rfl rfl ?_ | refine sL5 hS rfl rfl ?_ | refine sL6 hS rfl rfl ?_ | refine sL7 hS rfl rfl ?_)) | (refine oS ?_; ((first | refine sS1 hS rfl rfl rfl ?_ | refine sS2 hS rfl rfl rfl ?_ | refine sS3 hS rfl rfl rfl ?_ | refine sS4 hS rfl rfl rfl ?_ | refine sS5 hS rfl rfl rfl ?_); clear hS; intro w hS)) | (refine oP ?_; ((first | refine sP1 hS rfl rfl rfl ?_ | refine sP2 hS rfl rfl rfl ?_ | refine sP3 hS rfl rfl rfl ?_); clear hS; first | ((fail_if_success guard_hyp L1); intro L1 cl1 w hL1 hM1 hS) | ((fail_if_success guard_hyp L2); intro L2 cl2 w hL2 hM2 hS) | ((fail_if_success guard_hyp L3); intro L3 cl3 w hL3 hM3 hS) | ((fail_if_success guard_hyp L4); intro L4 cl4 w hL4 hM4 hS) | ((fail_if_success guard_hyp L5); intro L5 cl5 w hL5 hM5 hS) | fail)) | ((first | (refine oB ?_; first | refine sB1 hS rfl rfl ?_ | refine sB2 hS rfl rfl ?_) | refine sN1 hS rfl ?_ | (refine oC ?_; first | refine sC0 hS rfl ?_ | refine sC1 hS rfl rfl ?_ | refine sC2 hS rfl rfl ?_ | refine sC3 hS rfl rfl rfl ?_ | refine sC4 hS rfl rfl rfl ?_)); clear hS; first | ((fail_if_success guard_hyp g1); intro g1 w hS) | ((fail_if_success guard_hyp g2); intro g2 w hS) | ((fail_if_success guard_hyp g3); intro g3 w hS) | ((fail_if_success guard_hyp g4); intro g4 w hS) | ((fail_if_success guard_hyp g5); intro g5 w hS) | ((fail_if_success guard_hyp g6); intro g6 w hS) | ((fail_if_success guard_hyp g7); intro g7 w hS) | ((fail_if_success guard_hyp g8); intro g8 w hS) | ((fail_if_success guard_hyp g9); intro g9 w hS) | ((fail_if_success guard_hyp g10); intro g10 w hS) | ((fail_if_success guard_hyp g11); intro g11 w hS) | ((fail_if_success guard_hyp g12); intro g12 w hS) | ((fail_if_success guard_hyp g13); intro g13 w hS) | ((fail_if_success guard_hyp g14); intro g14 w hS) | fail) | fail)
                go_roundg (2 * unseen p (inL s) + t.length)
                case measure => have := HI.out; have := HKE.out; omega
                exact ⟨s, t, Ls, cs, Lt, ct, rfl, rfl, hs325, ht651, Lib.hid ⟨HD.out, rfl, by have := HI.out; have := HKK.out; omega, HI.out.2.1⟩, hS.re⟩
end Go.Proofs.Ytkflmichekpfbaa
