/- The error of a move: marker.refusal, rollbacknetref23.refuse. Conditions: the state lies in memory. -/
import Derived.Test.YtombhhhaidmpeaaSnStepA
namespace Go.Proofs.Ytombhhhaidmpeaa
open Go.RowKit
set_option linter.unusedVariables false
set_option linter.unusedSimpArgs false
set_option linter.unusedSectionVars false

set_option maxRecDepth 100000 in
set_option maxHeartbeats 12800000 in
theorem refusal_any {S : Nat → Prop} (v : SV) (s : Snp) (n nn b : Nat) (m : Mv) (w0 : World) (hs : SnAt S w0 v s) (hok : SnOk n b s) (hnn : n * n = nn) (hb : b ≤ 100000) :
    Calls Try.prog 54 #[v.val n nn, .agg #[.int .i64 m.kind, .int .i64 m.fr, .int .i64 m.to, .int .i64 m.val]] w0 fun e w' => e = .returned (.int .i64 (refS s m)) ∧ Ext w0 w' := by
  have hS := St.start w0 NoM
  have hn5 := hok.n5
  have hnn25 : nn ≤ 25 := by rw [← hnn]; exact Nat.mul_le_mul hn5 hn5
  have HP := Lib.hid (And.intro hs (And.intro hok hnn))
  clear hs hnn
  have hlv := hok.lv
  clear hok
  obtain ⟨A1, c1, A2, c2, A3, c3, A4, c4, A5, c5, A6, c6, A7, c7⟩ := v
  obtain ⟨kd, fr, tt, val⟩ := m
  simp only [SV.val, SV.cells, refS, hlv] at *
  clear hlv
  by_cases h1 : kd < 1
  · rw [if_pos (by omega)]
    have d1 : decide (kd < 1) = true := decide_eq_true h1
    go_enter Try.func54, Try.ntmps54
    go_wp2_with (first | (refine oL ?_; (first | refine sL1 hS rfl rfl rfl ?_ | refine sL2 hS rfl rfl rfl ?_ | refine sL3 hS rfl rfl ?_ | refine sL4 hS rfl rfl ?_ | refine sL5 hS rfl rfl ?_ | refine sL6 hS rfl rfl ?_ | refine sL7 hS rfl rfl ?_)) | ((first | (refine oB ?_; first | refine sB1 hS rfl rfl ?_ | refine sB2 hS rfl rfl ?_)); clear hS; first | ((fail_if_success guard_hyp g1); intro g1 w hS) | ((fail_if_success guard_hyp g2); intro g2 w hS) | ((fail_if_success guard_hyp g3); intro g3 w hS) | fail) | fail)
    go_ret
    exact ⟨rfl, hS.toExt⟩
  have d1 : decide (kd < 1) = false := decide_eq_false h1
  by_cases h2 : 3 < kd
  · rw [if_pos (by omega)]
    have d2 : decide (3 < kd) = true := decide_eq_true h2
    go_enter Try.func54, Try.ntmps54
    go_wp2_with (first | (refine oL ?_; (first | refine sL1 hS rfl rfl rfl ?_ | refine sL2 hS rfl rfl rfl ?_ | refine sL3 hS rfl rfl ?_ | refine sL4 hS rfl rfl ?_ | refine sL5 hS rfl rfl ?_ | refine sL6 hS rfl rfl ?_ | refine sL7 hS rfl rfl ?_)) | ((first | (refine oB ?_; first | refine sB1 hS rfl rfl ?_ | refine sB2 hS rfl rfl ?_)); clear hS; first | ((fail_if_success guard_hyp g1); intro g1 w hS) | ((fail_if_success guard_hyp g2); intro g2 w hS) | ((fail_if_success guard_hyp g3); intro g3 w hS) | fail) | fail)
    go_ret
    exact ⟨rfl, hS.toExt⟩
  have d2 : decide (3 < kd) = false := decide_eq_false h2
  by_cases h3 : fr < 0
  · rw [if_pos (by omega)]
    have d3 : decide (fr < 0) = true := decide_eq_true h3
    go_enter Try.func54, Try.ntmps54
    go_wp2_with (first | (refine oL ?_; (first | refine sL1 hS rfl rfl rfl ?_ | refine sL2 hS rfl rfl rfl ?_ | refine sL3 hS rfl rfl ?_ | refine sL4 hS rfl rfl ?_ | refine sL5 hS rfl rfl ?_ | refine sL6 hS rfl rfl ?_ | refine sL7 hS rfl rfl ?_)) | ((first | (refine oB ?_; first | refine sB1 hS rfl rfl ?_ | refine sB2 hS rfl rfl ?_)); clear hS; first | ((fail_if_success guard_hyp g1); intro g1 w hS) | ((fail_if_success guard_hyp g2); intro g2 w hS) | ((fail_if_success guard_hyp g3); intro g3 w hS) | fail) | fail)
    go_ret
    exact ⟨rfl, hS.toExt⟩
  have d3 : decide (fr < 0) = false := decide_eq_false h3
  by_cases h4 : (n : Int) ≤ fr
  · rw [if_pos (by omega)]
    have d4 : decide ((n : Int) ≤ fr) = true := decide_eq_true h4
    go_enter Try.func54, Try.ntmps54
    go_wp2_with (first | (refine oL ?_; (first | refine sL1 hS rfl rfl rfl ?_ | refine sL2 hS rfl rfl rfl ?_ | refine sL3 hS rfl rfl ?_ | refine sL4 hS rfl rfl ?_ | refine sL5 hS rfl rfl ?_ | refine sL6 hS rfl rfl ?_ | refine sL7 hS rfl rfl ?_)) | ((first | (refine oB ?_; first | refine sB1 hS rfl rfl ?_ | refine sB2 hS rfl rfl ?_)); clear hS; first | ((fail_if_success guard_hyp g1); intro g1 w hS) | ((fail_if_success guard_hyp g2); intro g2 w hS) | ((fail_if_success guard_hyp g3); intro g3 w hS) | fail) | fail)
    go_ret
    exact ⟨rfl, hS.toExt⟩
  have d4 : decide ((n : Int) ≤ fr) = false := decide_eq_false h4
  rw [if_neg (by omega)]
  by_cases h5 : kd = 3
  · rw [if_pos h5]
    subst h5
    go_enter Try.func54, Try.ntmps54
    go_wp2_with (first | (refine oL ?_; (first | refine sL1 hS rfl rfl rfl ?_ | refine sL2 hS rfl rfl rfl ?_ | refine sL3 hS rfl rfl ?_ | refine sL4 hS rfl rfl ?_ | refine sL5 hS rfl rfl ?_ | refine sL6 hS rfl rfl ?_ | refine sL7 hS rfl rfl ?_)) | ((first | (refine oB ?_; first | refine sB1 hS rfl rfl ?_ | refine sB2 hS rfl rfl ?_)); clear hS; first | ((fail_if_success guard_hyp g1); intro g1 w hS) | ((fail_if_success guard_hyp g2); intro g2 w hS) | ((fail_if_success guard_hyp g3); intro g3 w hS) | fail) | fail)
    go_ret
    exact ⟨rfl, hS.toExt⟩
  rw [if_neg h5]
  have e5 : (kd == 3) = false := by simp [h5]
  by_cases h6 : tt < 0
  · rw [if_pos (by omega)]
    have d6 : decide (tt < 0) = true := decide_eq_true h6
    go_enter Try.func54, Try.ntmps54
    go_wp2_with (first | (refine oL ?_; (first | refine sL1 hS rfl rfl rfl ?_ | refine sL2 hS rfl rfl rfl ?_ | refine sL3 hS rfl rfl ?_ | refine sL4 hS rfl rfl ?_ | refine sL5 hS rfl rfl ?_ | refine sL6 hS rfl rfl ?_ | refine sL7 hS rfl rfl ?_)) | ((first | (refine oB ?_; first | refine sB1 hS rfl rfl ?_ | refine sB2 hS rfl rfl ?_)); clear hS; first | ((fail_if_success guard_hyp g1); intro g1 w hS) | ((fail_if_success guard_hyp g2); intro g2 w hS) | ((fail_if_success guard_hyp g3); intro g3 w hS) | fail) | fail)
    go_ret
    exact ⟨rfl, hS.toExt⟩
  have d6 : decide (tt < 0) = false := decide_eq_false h6
  by_cases h7 : (n : Int) ≤ tt
  · rw [if_pos (by omega)]
    have d7 : decide ((n : Int) ≤ tt) = true := decide_eq_true h7
    go_enter Try.func54, Try.ntmps54
    go_wp2_with (first | (refine oL ?_; (first | refine sL1 hS rfl rfl rfl ?_ | refine sL2 hS rfl rfl rfl ?_ | refine sL3 hS rfl rfl ?_ | refine sL4 hS rfl rfl ?_ | refine sL5 hS rfl rfl ?_ | refine sL6 hS rfl rfl ?_ | refine sL7 hS rfl rfl ?_)) | ((first | (refine oB ?_; first | refine sB1 hS rfl rfl ?_ | refine sB2 hS rfl rfl ?_)); clear hS; first | ((fail_if_success guard_hyp g1); intro g1 w hS) | ((fail_if_success guard_hyp g2); intro g2 w hS) | ((fail_if_success guard_hyp g3); intro g3 w hS) | fail) | fail)
    go_ret
    exact ⟨rfl, hS.toExt⟩
  have d7 : decide ((n : Int) ≤ tt) = false := decide_eq_false h7
  by_cases h8 : tt = fr
  · rw [if_pos (by omega)]
    subst h8
    go_enter Try.func54, Try.ntmps54
    go_wp2_with (first | (refine oL ?_; (first | refine sL1 hS rfl rfl rfl ?_ | refine sL2 hS rfl rfl rfl ?_ | refine sL3 hS rfl rfl ?_ | refine sL4 hS rfl rfl ?_ | refine sL5 hS rfl rfl ?_ | refine sL6 hS rfl rfl ?_ | refine sL7 hS rfl rfl ?_)) | ((first | (refine oB ?_; first | refine sB1 hS rfl rfl ?_ | refine sB2 hS rfl rfl ?_)); clear hS; first | ((fail_if_success guard_hyp g1); intro g1 w hS) | ((fail_if_success guard_hyp g2); intro g2 w hS) | ((fail_if_success guard_hyp g3); intro g3 w hS) | fail) | fail)
    go_ret
    exact ⟨rfl, hS.toExt⟩
  rw [if_neg (by omega)]
  have e8 : (tt == fr) = false := by simp [h8]
  obtain ⟨p, rfl⟩ : ∃ p : Nat, fr = p := ⟨fr.toNat, by omega⟩
  obtain ⟨q, rfl⟩ : ∃ q : Nat, tt = q := ⟨tt.toNat, by omega⟩
  simp only [Int.toNat_natCast]
  have hp : p < n := by omega
  have hq : q < n := by omega
  have hkn : p * n + q < nn := by rw [← HP.out.2.2]; exact ch_lt hp hq
  obtain ⟨hm1, hm2⟩ := mul_bd hp hn5
  obtain ⟨bh, oh, B, cB, hA3, _, hcell, _, _, _⟩ := HP.out.1.chs.atC (k := p * n + q) (by rw [HP.out.2.1.lh, HP.out.2.2]; exact hkn)
  simp only at hA3
  subst hA3
  have hlb := HP.out.2.1.hbk (k := p * n + q) (by rw [HP.out.2.2]; exact hkn)
  obtain ⟨l, hl⟩ : ∃ l, chOf s.chs (p * n + q) = l := ⟨_, rfl⟩
  rw [hl] at hcell hlb
  have hkn' : ((p * n : Nat) : Int) + (q : Int) < nn := by omega
  have d4' : decide (n ≤ p) = false := decide_eq_false (by omega)
  have d7' : decide (n ≤ q) = false := decide_eq_false (by omega)
  have hqp : ¬ q = p := by omega
  have e8' : (q == p) = false := by simp [hqp]
  clear h3 h4 h6 h7 h8
  by_cases h9 : kd = 1
  · subst h9
    by_cases h10 : 256 ≤ l.length
    · rw [if_pos ⟨rfl, by rw [hl]; exact h10⟩]
      clear hl
      generalize p * n = pn at *
      have d10 : decide ((256 : Int) ≤ (l.length : Int)) = true := decide_eq_true (by omega)
      have d10' : decide (256 ≤ l.length) = true := decide_eq_true h10
      go_enter Try.func54, Try.ntmps54
      go_wp2_with (first | (refine oL ?_; (first | refine sL1 hS rfl rfl rfl ?_ | refine sL2 hS rfl rfl rfl ?_ | refine sL3 hS rfl rfl ?_ | refine sL4 hS rfl rfl ?_ | refine sL5 hS rfl rfl ?_ | refine sL6 hS rfl rfl ?_ | refine sL7 hS rfl rfl ?_)) | ((first | (refine oB ?_; first | refine sB1 hS rfl rfl ?_ | refine sB2 hS rfl rfl ?_)); clear hS; first | ((fail_if_success guard_hyp g1); intro g1 w hS) | ((fail_if_success guard_hyp g2); intro g2 w hS) | ((fail_if_success guard_hyp g3); intro g3 w hS) | fail) | fail)
      go_ret
      exact ⟨rfl, hS.toExt⟩
    · rw [if_neg (by rw [hl]; omega), if_neg (by omega)]
      clear hl
      generalize p * n = pn at *
      have d10 : decide ((256 : Int) ≤ (l.length : Int)) = false := decide_eq_false (by omega)
      have d10' : decide (256 ≤ l.length) = false := decide_eq_false h10
      go_enter Try.func54, Try.ntmps54
      go_wp2_with (first | (refine oL ?_; (first | refine sL1 hS rfl rfl rfl ?_ | refine sL2 hS rfl rfl rfl ?_ | refine sL3 hS rfl rfl ?_ | refine sL4 hS rfl rfl ?_ | refine sL5 hS rfl rfl ?_ | refine sL6 hS rfl rfl ?_ | refine sL7 hS rfl rfl ?_)) | ((first | (refine oB ?_; first | refine sB1 hS rfl rfl ?_ | refine sB2 hS rfl rfl ?_)); clear hS; first | ((fail_if_success guard_hyp g1); intro g1 w hS) | ((fail_if_success guard_hyp g2); intro g2 w hS) | ((fail_if_success guard_hyp g3); intro g3 w hS) | fail) | fail)
      go_ret
      exact ⟨rfl, hS.toExt⟩
  · obtain rfl : kd = 2 := by omega
    rw [if_neg (by omega)]
    by_cases h10 : l.length = 0
    · rw [if_pos ⟨rfl, by rw [hl]; exact h10⟩]
      clear hl
      generalize p * n = pn at *
      have e10 : ((l.length : Int) == 0) = true := by simp [h10]
      have e10' : (l.length == 0) = true := by simp [h10]
      go_enter Try.func54, Try.ntmps54
      go_wp2_with (first | (refine oL ?_; (first | refine sL1 hS rfl rfl rfl ?_ | refine sL2 hS rfl rfl rfl ?_ | refine sL3 hS rfl rfl ?_ | refine sL4 hS rfl rfl ?_ | refine sL5 hS rfl rfl ?_ | refine sL6 hS rfl rfl ?_ | refine sL7 hS rfl rfl ?_)) | ((first | (refine oB ?_; first | refine sB1 hS rfl rfl ?_ | refine sB2 hS rfl rfl ?_)); clear hS; first | ((fail_if_success guard_hyp g1); intro g1 w hS) | ((fail_if_success guard_hyp g2); intro g2 w hS) | ((fail_if_success guard_hyp g3); intro g3 w hS) | fail) | fail)
      go_ret
      exact ⟨rfl, hS.toExt⟩
    · rw [if_neg (by rw [hl]; omega)]
      clear hl
      generalize p * n = pn at *
      have e10 : ((l.length : Int) == 0) = false := by simp; intro h; rw [h] at h10; simp at h10
      have e10' : (l.length == 0) = false := by simp; intro h; rw [h] at h10; simp at h10
      have h11 : ¬ l = [] := fun h => by rw [h] at h10; simp at h10
      go_enter Try.func54, Try.ntmps54
      go_wp2_with (first | (refine oL ?_; (first | refine sL1 hS rfl rfl rfl ?_ | refine sL2 hS rfl rfl rfl ?_ | refine sL3 hS rfl rfl ?_ | refine sL4 hS rfl rfl ?_ | refine sL5 hS rfl rfl ?_ | refine sL6 hS rfl rfl ?_ | refine sL7 hS rfl rfl ?_)) | ((first | (refine oB ?_; first | refine sB1 hS rfl rfl ?_ | refine sB2 hS rfl rfl ?_)); clear hS; first | ((fail_if_success guard_hyp g1); intro g1 w hS) | ((fail_if_success guard_hyp g2); intro g2 w hS) | ((fail_if_success guard_hyp g3); intro g3 w hS) | fail) | fail)
      go_ret
      exact ⟨rfl, hS.toExt⟩
end Go.Proofs.Ytombhhhaidmpeaa
