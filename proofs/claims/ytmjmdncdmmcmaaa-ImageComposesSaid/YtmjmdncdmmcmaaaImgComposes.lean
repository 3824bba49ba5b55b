/- ImageComposes returns true for every input. No condition. -/
import Derived.Test.YtmjmdncdmmcmaaaImgI
import Derived.Test.YtmjmdncdmmcmaaaOpenP
import Derived.Test.YtmjmdncdmmcmaaaImgAwake
namespace Go.Proofs.Ytmjmdncdmmcmaaa
open Go.RowKit
set_option linter.unusedVariables false
set_option linter.unusedSimpArgs false
set_option linter.unusedSectionVars false

def NumOk (ps : List Pg) : Prop := ∀ p ∈ ps, -9223372036854775808 ≤ p.1 ∧ p.1 ≤ 9223372036854775807
theorem NumOk.set {ps : List Pg} (h : NumOk ps) {k : Nat} {q : Pg} (hq : -9223372036854775808 ≤ q.1 ∧ q.1 ≤ 9223372036854775807) : NumOk (ps.set k q) := by
  intro p hp
  rcases List.mem_or_eq_of_mem_set hp with h1 | h1
  · exact h p h1
  · rw [h1]; exact hq
set_option maxRecDepth 100000 in
set_option maxHeartbeats 6400000 in
theorem imageComposes_any (PB0 : Option Addr) (pd0 : Nat) (ps0 : List Pg) (PB1 : Option Addr) (pd1 : Nat) (ps1 : List Pg) (bo : Bool) (w0 : World) (hps0 : RP (fun b => b < w0.heap.size) w0 PB0 ps0) (hpd0 : ps0.length ≤ pd0) (hpd0' : pd0 ≤ 9223372036854775807) (hpn0 : ∀ p ∈ ps0, -9223372036854775808 ≤ p.1 ∧ p.1 ≤ 9223372036854775807) (hps1 : RP (fun b => b < w0.heap.size) w0 PB1 ps1) (hpd1 : ps1.length ≤ pd1) (hpd1' : pd1 ≤ 9223372036854775807) (hpn1 : ∀ p ∈ ps1, -9223372036854775808 ≤ p.1 ∧ p.1 ≤ 9223372036854775807)  :
    Calls Try.prog 3 #[.slice PB0 ps0.length pd0, .slice PB1 ps1.length pd1, .bool bo] w0 fun e w' => e = .returned (.bool true) ∧ Ext w0 w' := by
  have hS := St.start w0 NoM
  have HPN := Lib.hid (And.intro hpn0 hpn1)
  obtain ⟨vs0, hrv0, hrs0⟩ := hps0
  obtain ⟨vs1, hrv1, hrs1⟩ := hps1
  have HP := Lib.hid (And.intro hrv0 (And.intro hrs0 (And.intro hrv1 hrs1)))
  have HO0 := Lib.hid (hrs0.all (PgR.page _ _).one)
  have HO1 := Lib.hid (hrs1.all (PgR.page _ _).one)
  have hvl0 : vs0.length = ps0.length * 2 := hrs0.length
  have hvl1 : vs1.length = ps1.length * 2 := hrs1.length
  clear hrv0 hrs0 hrv1 hrs1 hpn0 hpn1
  by_cases h0 : 40 < ps0.length
  · have d0 : decide ((40 : Int) < (ps0.length : Int)) = true := decide_eq_true (by omega)
    have d0n : decide (40 < ps0.length) = true := decide_eq_true h0
    go_enter Try.func3, Try.ntmps3
    go_upto_region 3 with (first | (go_at_call 11; refine (awake_any _).mono ?_; rintro e w ⟨rfl, hx1⟩; replace hS := hS.ext hx1; clear hx1) | (refine oL ?_; (first | refine sL1 hS rfl rfl rfl ?_ | refine sL2 hS rfl rfl rfl ?_ | refine sL3 hS rfl rfl ?_ | refine sL4 hS rfl rfl ?_ | refine sL5 hS rfl rfl ?_ | refine sL6 hS rfl rfl ?_ | refine sL7 hS rfl rfl ?_)) | (refine oS ?_; ((first | refine sS1 hS rfl rfl rfl ?_ | refine sS2 hS rfl rfl rfl ?_ | refine sS3 hS rfl rfl rfl ?_ | refine sS4 hS rfl rfl rfl ?_ | refine sS5 hS rfl rfl rfl ?_); clear hS; intro w hS)) | (refine oP ?_; ((first | refine sP1 hS rfl rfl rfl ?_ | refine sP2 hS rfl rfl rfl ?_ | refine sP3 hS rfl rfl rfl ?_); clear hS; first | ((fail_if_success guard_hyp L1); intro L1 cl1 w hL1 hM1 hS) | ((fail_if_success guard_hyp L2); intro L2 cl2 w hL2 hM2 hS) | ((fail_if_success guard_hyp L3); intro L3 cl3 w hL3 hM3 hS) | fail)) | fail)
    refine lR ?_
    refine lM rfl rfl ?_
    (try simp only [Act.put, nA, nB, nC])
    refine lP rfl ?_
    (try simp only [Act.put, nA, nB, nC])
    refine lP rfl ?_
    (try simp only [Act.put, nA, nB, nC])
    refine lM rfl rfl ?_
    (try simp only [Act.put, nA, nB, nC])
    first | refine lQ rfl ?_ | refine lM rfl rfl ?_ | fail
    (try simp only [Act.put, nA, nB, nC])
    first | refine lQ rfl ?_ | refine lP rfl ?_ | fail
    (try simp only [Act.put, nA, nB, nC])
    first | refine lQ rfl ?_ | refine lP rfl ?_ | fail
    (try simp only [Act.put, nA, nB, nC])
    refine lP rfl ?_
    (try simp only [Act.put, nA, nB, nC])
    refine lZ ?_
    go_wp2_with (first | (refine oL ?_; (first | refine sL1 hS rfl rfl rfl ?_ | refine sL2 hS rfl rfl rfl ?_ | refine sL3 hS rfl rfl ?_ | refine sL4 hS rfl rfl ?_ | refine sL5 hS rfl rfl ?_ | refine sL6 hS rfl rfl ?_ | refine sL7 hS rfl rfl ?_)) | (refine oS ?_; ((first | refine sS1 hS rfl rfl rfl ?_ | refine sS2 hS rfl rfl rfl ?_ | refine sS3 hS rfl rfl rfl ?_ | refine sS4 hS rfl rfl rfl ?_ | refine sS5 hS rfl rfl rfl ?_); clear hS; intro w hS)) | (refine oP ?_; ((first | refine sP1 hS rfl rfl rfl ?_ | refine sP2 hS rfl rfl rfl ?_ | refine sP3 hS rfl rfl rfl ?_); clear hS; first | ((fail_if_success guard_hyp L1); intro L1 cl1 w hL1 hM1 hS) | ((fail_if_success guard_hyp L2); intro L2 cl2 w hL2 hM2 hS) | ((fail_if_success guard_hyp L3); intro L3 cl3 w hL3 hM3 hS) | fail)) | fail)
    go_ret
    exact ⟨rfl, hS.toExt⟩
  have d0 : decide ((40 : Int) < (ps0.length : Int)) = false := decide_eq_false (by omega)
  have d0n : decide (40 < ps0.length) = false := decide_eq_false h0
  by_cases h1 : 40 < ps1.length
  · have d1 : decide ((40 : Int) < (ps1.length : Int)) = true := decide_eq_true (by omega)
    have d1n : decide (40 < ps1.length) = true := decide_eq_true h1
    go_enter Try.func3, Try.ntmps3
    go_upto_region 3 with (first | (go_at_call 11; refine (awake_any _).mono ?_; rintro e w ⟨rfl, hx1⟩; replace hS := hS.ext hx1; clear hx1) | (refine oL ?_; (first | refine sL1 hS rfl rfl rfl ?_ | refine sL2 hS rfl rfl rfl ?_ | refine sL3 hS rfl rfl ?_ | refine sL4 hS rfl rfl ?_ | refine sL5 hS rfl rfl ?_ | refine sL6 hS rfl rfl ?_ | refine sL7 hS rfl rfl ?_)) | (refine oS ?_; ((first | refine sS1 hS rfl rfl rfl ?_ | refine sS2 hS rfl rfl rfl ?_ | refine sS3 hS rfl rfl rfl ?_ | refine sS4 hS rfl rfl rfl ?_ | refine sS5 hS rfl rfl rfl ?_); clear hS; intro w hS)) | (refine oP ?_; ((first | refine sP1 hS rfl rfl rfl ?_ | refine sP2 hS rfl rfl rfl ?_ | refine sP3 hS rfl rfl rfl ?_); clear hS; first | ((fail_if_success guard_hyp L1); intro L1 cl1 w hL1 hM1 hS) | ((fail_if_success guard_hyp L2); intro L2 cl2 w hL2 hM2 hS) | ((fail_if_success guard_hyp L3); intro L3 cl3 w hL3 hM3 hS) | fail)) | fail)
    refine lR ?_
    refine lM rfl rfl ?_
    (try simp only [Act.put, nA, nB, nC])
    refine lP rfl ?_
    (try simp only [Act.put, nA, nB, nC])
    refine lP rfl ?_
    (try simp only [Act.put, nA, nB, nC])
    refine lM rfl rfl ?_
    (try simp only [Act.put, nA, nB, nC])
    first | refine lQ rfl ?_ | refine lM rfl rfl ?_ | fail
    (try simp only [Act.put, nA, nB, nC])
    first | refine lQ rfl ?_ | refine lP rfl ?_ | fail
    (try simp only [Act.put, nA, nB, nC])
    first | refine lQ rfl ?_ | refine lP rfl ?_ | fail
    (try simp only [Act.put, nA, nB, nC])
    refine lP rfl ?_
    (try simp only [Act.put, nA, nB, nC])
    refine lZ ?_
    go_wp2_with (first | (refine oL ?_; (first | refine sL1 hS rfl rfl rfl ?_ | refine sL2 hS rfl rfl rfl ?_ | refine sL3 hS rfl rfl ?_ | refine sL4 hS rfl rfl ?_ | refine sL5 hS rfl rfl ?_ | refine sL6 hS rfl rfl ?_ | refine sL7 hS rfl rfl ?_)) | (refine oS ?_; ((first | refine sS1 hS rfl rfl rfl ?_ | refine sS2 hS rfl rfl rfl ?_ | refine sS3 hS rfl rfl rfl ?_ | refine sS4 hS rfl rfl rfl ?_ | refine sS5 hS rfl rfl rfl ?_); clear hS; intro w hS)) | (refine oP ?_; ((first | refine sP1 hS rfl rfl rfl ?_ | refine sP2 hS rfl rfl rfl ?_ | refine sP3 hS rfl rfl rfl ?_); clear hS; first | ((fail_if_success guard_hyp L1); intro L1 cl1 w hL1 hM1 hS) | ((fail_if_success guard_hyp L2); intro L2 cl2 w hL2 hM2 hS) | ((fail_if_success guard_hyp L3); intro L3 cl3 w hL3 hM3 hS) | fail)) | fail)
    go_ret
    exact ⟨rfl, hS.toExt⟩
  have d1 : decide ((40 : Int) < (ps1.length : Int)) = false := decide_eq_false (by omega)
  have d1n : decide (40 < ps1.length) = false := decide_eq_false h1
  go_enter Try.func3, Try.ntmps3
  go_upto_region 3 with (first | (go_at_call 11; refine (awake_any _).mono ?_; rintro e w ⟨rfl, hx1⟩; replace hS := hS.ext hx1; clear hx1) | (refine oL ?_; (first | refine sL1 hS rfl rfl rfl ?_ | refine sL2 hS rfl rfl rfl ?_ | refine sL3 hS rfl rfl ?_ | refine sL4 hS rfl rfl ?_ | refine sL5 hS rfl rfl ?_ | refine sL6 hS rfl rfl ?_ | refine sL7 hS rfl rfl ?_)) | (refine oS ?_; ((first | refine sS1 hS rfl rfl rfl ?_ | refine sS2 hS rfl rfl rfl ?_ | refine sS3 hS rfl rfl rfl ?_ | refine sS4 hS rfl rfl rfl ?_ | refine sS5 hS rfl rfl rfl ?_); clear hS; intro w hS)) | (refine oP ?_; ((first | refine sP1 hS rfl rfl rfl ?_ | refine sP2 hS rfl rfl rfl ?_ | refine sP3 hS rfl rfl rfl ?_); clear hS; first | ((fail_if_success guard_hyp L1); intro L1 cl1 w hL1 hM1 hS) | ((fail_if_success guard_hyp L2); intro L2 cl2 w hL2 hM2 hS) | ((fail_if_success guard_hyp L3); intro L3 cl3 w hL3 hM3 hS) | fail)) | fail)
  refine lR ?_
  refine lM rfl rfl ?_
  (try simp only [Act.put, nA, nB, nC])
  refine lP rfl ?_
  (try simp only [Act.put, nA, nB, nC])
  refine lP rfl ?_
  (try simp only [Act.put, nA, nB, nC])
  refine lM rfl rfl ?_
  (try simp only [Act.put, nA, nB, nC])
  first | refine lQ rfl ?_ | refine lM rfl rfl ?_ | fail
  (try simp only [Act.put, nA, nB, nC])
  first | refine lQ rfl ?_ | refine lP rfl ?_ | fail
  (try simp only [Act.put, nA, nB, nC])
  first | refine lQ rfl ?_ | refine lP rfl ?_ | fail
  (try simp only [Act.put, nA, nB, nC])
  refine lP rfl ?_
  (try simp only [Act.put, nA, nB, nC])
  refine lZ ?_
  go_wp2_with (first | (refine oP ?_; (first | refine st_appN hS rfl rfl rfl (HP.out.1.into (hS.into fun _ _ => id)) hvl0 HO0.out (by omega) ?_ | refine st_appN hS rfl rfl rfl (HP.out.2.2.1.into (hS.into fun _ _ => id)) hvl1 HO1.out (by omega) ?_); clear hS; (first | ((fail_if_success guard_hyp L1); intro L1 cl1 w hL1 hM1 hS) | intro L2 cl2 w hL2 hM2 hS)) | (refine oL ?_; (first | refine sL1 hS rfl rfl rfl ?_ | refine sL2 hS rfl rfl rfl ?_ | refine sL3 hS rfl rfl ?_ | refine sL4 hS rfl rfl ?_ | refine sL5 hS rfl rfl ?_ | refine sL6 hS rfl rfl ?_ | refine sL7 hS rfl rfl ?_)) | (refine oS ?_; ((first | refine sS1 hS rfl rfl rfl ?_ | refine sS2 hS rfl rfl rfl ?_ | refine sS3 hS rfl rfl rfl ?_ | refine sS4 hS rfl rfl rfl ?_ | refine sS5 hS rfl rfl rfl ?_); clear hS; intro w hS)) | (refine oP ?_; ((first | refine sP1 hS rfl rfl rfl ?_ | refine sP2 hS rfl rfl rfl ?_ | refine sP3 hS rfl rfl rfl ?_); clear hS; first | ((fail_if_success guard_hyp L1); intro L1 cl1 w hL1 hM1 hS) | ((fail_if_success guard_hyp L2); intro L2 cl2 w hL2 hM2 hS) | ((fail_if_success guard_hyp L3); intro L3 cl3 w hL3 hM3 hS) | fail)) | fail)
  have h0' : ps0.length ≤ 40 := by omega
  have h1' : ps1.length ≤ 40 := by omega
  clear h0 h1 d0 d0n d1 d1n
  go_loopw [9, 27] (fun s9 s27 wr => ∃ (i : Nat) (qs1 : List Pg) (us1 : List Value), i ≤ ps0.length ∧ qs1.length = ps0.length ∧ us1.length = ps0.length * 2 ∧ s27 = .int .i64 i ∧ Hid (NumOk qs1 ∧ Reps (repPage (fun b => b < w0.heap.size) w0) 2 us1 qs1) ∧ St w0 NoM [row (.slice L1 ps0.length cl1) 27 2 ps0.length us1, row (.slice L2 ps1.length cl2) 27 2 ps1.length vs1] wr) (fun _ s27 _ => ps0.length - (intOf s27).toNat)
  case atStart => exact ⟨0, ps0, vs0, by omega, rfl, hvl0, rfl, Lib.hid ⟨HPN.out.1, HP.out.2.1⟩, hS.re⟩
  case round =>
    clear hS
    obtain ⟨i, qs1, us1, hi, hql1, hul1, rfl, HQ1, hS⟩ := hrel
    by_cases hlt : i < ps0.length
    · have hlt' : (i : Int) < ps0.length := by omega
      cases bo with
      | false =>
        go_wp2_with (first | (refine oL ?_; (first | refine sL1 hS rfl rfl rfl ?_ | refine sL2 hS rfl rfl rfl ?_ | refine sL3 hS rfl rfl ?_ | refine sL4 hS rfl rfl ?_ | refine sL5 hS rfl rfl ?_ | refine sL6 hS rfl rfl ?_ | refine sL7 hS rfl rfl ?_)) | (refine oS ?_; ((first | refine sS1 hS rfl rfl rfl ?_ | refine sS2 hS rfl rfl rfl ?_ | refine sS3 hS rfl rfl rfl ?_ | refine sS4 hS rfl rfl rfl ?_ | refine sS5 hS rfl rfl rfl ?_); clear hS; intro w hS)) | (refine oP ?_; ((first | refine sP1 hS rfl rfl rfl ?_ | refine sP2 hS rfl rfl rfl ?_ | refine sP3 hS rfl rfl rfl ?_); clear hS; first | ((fail_if_success guard_hyp L1); intro L1 cl1 w hL1 hM1 hS) | ((fail_if_success guard_hyp L2); intro L2 cl2 w hL2 hM2 hS) | ((fail_if_success guard_hyp L3); intro L3 cl3 w hL3 hM3 hS) | fail)) | fail)
        go_roundw
        case measure => simp [intOf]; try omega
        exact ⟨i + 1, qs1, us1, by omega, hql1, hul1, by go_num, HQ1, hS⟩
      | true =>
        have hiq : i < qs1.length := by omega
        obtain ⟨gL, rfl⟩ := hS.rowSome L1 (by omega)
        obtain ⟨cs, hcl, hrep, hcc⟩ := HQ1.out.2.at_ hiq
        obtain ⟨v, rfl, hv⟩ := PgR.page _ _ _ _ hrep
        have hu0 : us1[i * 2]? = some (.int .i64 qs1[i].1) := by have := hcc 0 (by omega); simpa using this
        have HQN := Lib.hid (HQ1.out.1 qs1[i] (List.getElem_mem hiq))
        have HMD := Lib.hid (modI_bd qs1[i].1 (n := 6) (by omega))
        have HST := Lib.hid (show Reps (repPage (fun b => b < w0.heap.size) w0) 2 (us1.set (i * 2) (.int .i64 (modI qs1[i].1 6))) (qs1.set i (modI qs1[i].1 6, qs1[i].2)) from by
          refine Reps.set (i := 0) HQ1.out.2 (by omega) hiq ?_
          rintro cs ⟨A2, c2, rfl, h1, h2, h3⟩ _
          exact ⟨A2, c2, rfl, h1, h2, h3⟩)
        have HNS := Lib.hid (HQ1.out.1.set (k := i) (q := (modI qs1[i].1 6, qs1[i].2)) (by have := HMD.out; simp only; omega))
        have HLS := Lib.hid (show (qs1.set i (modI qs1[i].1 6, qs1[i].2)).length = ps0.length by rw [List.length_set]; exact hql1)
        clear hcl hrep hcc hql1
        generalize qs1.set i (modI qs1[i].1 6, qs1[i].2) = qsn at *
        generalize hm6 : modI qs1[i].1 6 = m6 at *
        have HM6 := Lib.hid hm6
        clear hm6
        generalize qs1[i].1 = z at *
        go_wp2_with (first | (go_at_call 12; refine (mod_any z 6 _ (by omega) (by omega) HQN.out.1 HQN.out.2).mono ?_; rintro e w ⟨rfl, rfl⟩; rw [HM6.out]) | (refine oL ?_; (first | refine sL1 hS rfl rfl rfl ?_ | refine sL2 hS rfl rfl rfl ?_ | refine sL3 hS rfl rfl ?_ | refine sL4 hS rfl rfl ?_ | refine sL5 hS rfl rfl ?_ | refine sL6 hS rfl rfl ?_ | refine sL7 hS rfl rfl ?_)) | (refine oS ?_; ((first | refine sS1 hS rfl rfl rfl ?_ | refine sS2 hS rfl rfl rfl ?_ | refine sS3 hS rfl rfl rfl ?_ | refine sS4 hS rfl rfl rfl ?_ | refine sS5 hS rfl rfl rfl ?_); clear hS; intro w hS)) | (refine oP ?_; ((first | refine sP1 hS rfl rfl rfl ?_ | refine sP2 hS rfl rfl rfl ?_ | refine sP3 hS rfl rfl rfl ?_); clear hS; first | ((fail_if_success guard_hyp L1); intro L1 cl1 w hL1 hM1 hS) | ((fail_if_success guard_hyp L2); intro L2 cl2 w hL2 hM2 hS) | ((fail_if_success guard_hyp L3); intro L3 cl3 w hL3 hM3 hS) | fail)) | fail)
        go_roundw
        case measure => simp [intOf]; try omega
        exact ⟨i + 1, qsn, _, by omega, HLS.out, by rw [List.length_set]; exact hul1, by go_num, Lib.hid ⟨HNS.out, HST.out⟩, hS.re⟩
    · have hlt' : ¬ (i : Int) < ps0.length := by omega
      clear hlt
      go_wp2_with (first | (refine oL ?_; (first | refine sL1 hS rfl rfl rfl ?_ | refine sL2 hS rfl rfl rfl ?_ | refine sL3 hS rfl rfl ?_ | refine sL4 hS rfl rfl ?_ | refine sL5 hS rfl rfl ?_ | refine sL6 hS rfl rfl ?_ | refine sL7 hS rfl rfl ?_)) | (refine oS ?_; ((first | refine sS1 hS rfl rfl rfl ?_ | refine sS2 hS rfl rfl rfl ?_ | refine sS3 hS rfl rfl rfl ?_ | refine sS4 hS rfl rfl rfl ?_ | refine sS5 hS rfl rfl rfl ?_); clear hS; intro w hS)) | (refine oP ?_; ((first | refine sP1 hS rfl rfl rfl ?_ | refine sP2 hS rfl rfl rfl ?_ | refine sP3 hS rfl rfl rfl ?_); clear hS; first | ((fail_if_success guard_hyp L1); intro L1 cl1 w hL1 hM1 hS) | ((fail_if_success guard_hyp L2); intro L2 cl2 w hL2 hM2 hS) | ((fail_if_success guard_hyp L3); intro L3 cl3 w hL3 hM3 hS) | fail)) | fail)
      go_loopw [10, 44] (fun s9 s27 wr => ∃ (i : Nat) (qs2 : List Pg) (us2 : List Value), i ≤ ps1.length ∧ qs2.length = ps1.length ∧ us2.length = ps1.length * 2 ∧ s27 = .int .i64 i ∧ Hid (NumOk qs2 ∧ Reps (repPage (fun b => b < w0.heap.size) w0) 2 us2 qs2) ∧ St w0 NoM [row (.slice L1 ps0.length cl1) 27 2 ps0.length us1, row (.slice L2 ps1.length cl2) 27 2 ps1.length us2] wr) (fun _ s27 _ => ps1.length - (intOf s27).toNat)
      case atStart => exact ⟨0, ps1, vs1, by omega, rfl, by have := HP.out.2.2.2; rw [this.length], rfl, Lib.hid ⟨HPN.out.2, HP.out.2.2.2⟩, hS.re⟩
      case round =>
        clear hS
        obtain ⟨i, qs2, us2, hi, hql2, hul2, rfl, HQ2, hS⟩ := hrel
        by_cases hlt : i < ps1.length
        · have hlt' : (i : Int) < ps1.length := by omega
          cases bo with
          | false =>
            go_wp2_with (first | (refine oL ?_; (first | refine sL1 hS rfl rfl rfl ?_ | refine sL2 hS rfl rfl rfl ?_ | refine sL3 hS rfl rfl ?_ | refine sL4 hS rfl rfl ?_ | refine sL5 hS rfl rfl ?_ | refine sL6 hS rfl rfl ?_ | refine sL7 hS rfl rfl ?_)) | (refine oS ?_; ((first | refine sS1 hS rfl rfl rfl ?_ | refine sS2 hS rfl rfl rfl ?_ | refine sS3 hS rfl rfl rfl ?_ | refine sS4 hS rfl rfl rfl ?_ | refine sS5 hS rfl rfl rfl ?_); clear hS; intro w hS)) | (refine oP ?_; ((first | refine sP1 hS rfl rfl rfl ?_ | refine sP2 hS rfl rfl rfl ?_ | refine sP3 hS rfl rfl rfl ?_); clear hS; first | ((fail_if_success guard_hyp L1); intro L1 cl1 w hL1 hM1 hS) | ((fail_if_success guard_hyp L2); intro L2 cl2 w hL2 hM2 hS) | ((fail_if_success guard_hyp L3); intro L3 cl3 w hL3 hM3 hS) | fail)) | fail)
            go_roundw
            case measure => simp [intOf]; try omega
            exact ⟨i + 1, qs2, us2, by omega, hql2, hul2, by go_num, HQ2, hS⟩
          | true =>
            have hiq : i < qs2.length := by omega
            obtain ⟨gL, rfl⟩ := hS.rowSome L2 (by omega)
            obtain ⟨cs, hcl, hrep, hcc⟩ := HQ2.out.2.at_ hiq
            obtain ⟨v, rfl, hv⟩ := PgR.page _ _ _ _ hrep
            have hu0 : us2[i * 2]? = some (.int .i64 qs2[i].1) := by have := hcc 0 (by omega); simpa using this
            have HQN := Lib.hid (HQ2.out.1 qs2[i] (List.getElem_mem hiq))
            have HMD := Lib.hid (modI_bd qs2[i].1 (n := 6) (by omega))
            have HST := Lib.hid (show Reps (repPage (fun b => b < w0.heap.size) w0) 2 (us2.set (i * 2) (.int .i64 (modI qs2[i].1 6))) (qs2.set i (modI qs2[i].1 6, qs2[i].2)) from by
              refine Reps.set (i := 0) HQ2.out.2 (by omega) hiq ?_
              rintro cs ⟨A2, c2, rfl, h1, h2, h3⟩ _
              exact ⟨A2, c2, rfl, h1, h2, h3⟩)
            have HNS := Lib.hid (HQ2.out.1.set (k := i) (q := (modI qs2[i].1 6, qs2[i].2)) (by have := HMD.out; simp only; omega))
            have HLS := Lib.hid (show (qs2.set i (modI qs2[i].1 6, qs2[i].2)).length = ps1.length by rw [List.length_set]; exact hql2)
            clear hcl hrep hcc hql2
            generalize qs2.set i (modI qs2[i].1 6, qs2[i].2) = qsn at *
            generalize hm6 : modI qs2[i].1 6 = m6 at *
            have HM6 := Lib.hid hm6
            clear hm6
            generalize qs2[i].1 = z at *
            go_wp2_with (first | (go_at_call 12; refine (mod_any z 6 _ (by omega) (by omega) HQN.out.1 HQN.out.2).mono ?_; rintro e w ⟨rfl, rfl⟩; rw [HM6.out]) | (refine oL ?_; (first | refine sL1 hS rfl rfl rfl ?_ | refine sL2 hS rfl rfl rfl ?_ | refine sL3 hS rfl rfl ?_ | refine sL4 hS rfl rfl ?_ | refine sL5 hS rfl rfl ?_ | refine sL6 hS rfl rfl ?_ | refine sL7 hS rfl rfl ?_)) | (refine oS ?_; ((first | refine sS1 hS rfl rfl rfl ?_ | refine sS2 hS rfl rfl rfl ?_ | refine sS3 hS rfl rfl rfl ?_ | refine sS4 hS rfl rfl rfl ?_ | refine sS5 hS rfl rfl rfl ?_); clear hS; intro w hS)) | (refine oP ?_; ((first | refine sP1 hS rfl rfl rfl ?_ | refine sP2 hS rfl rfl rfl ?_ | refine sP3 hS rfl rfl rfl ?_); clear hS; first | ((fail_if_success guard_hyp L1); intro L1 cl1 w hL1 hM1 hS) | ((fail_if_success guard_hyp L2); intro L2 cl2 w hL2 hM2 hS) | ((fail_if_success guard_hyp L3); intro L3 cl3 w hL3 hM3 hS) | fail)) | fail)
            go_roundw
            case measure => simp [intOf]; try omega
            exact ⟨i + 1, qsn, _, by omega, HLS.out, by rw [List.length_set]; exact hul2, by go_num, Lib.hid ⟨HNS.out, HST.out⟩, hS.re⟩
        · have hlt' : ¬ (i : Int) < ps1.length := by omega
          clear hlt
          skip
          have HCR := Lib.hid (comp_ref qs1 qs2)
          have hcl1 : (compL (qs1 ++ qs2)).length ≤ 80 := by
            unfold compL
            rw [List.length_map, sortI_length]
            have := nums_length (qs1 ++ qs2)
            rw [List.length_append] at this
            omega
          have hl1 : qs1.length ≤ 1000 := by omega
          have hl2 : qs2.length ≤ 1000 := by omega
          rw [← hql1, ← hql2] at *
          go_wp2_with (first | (go_at_call 14; refine (compose_any (PgR.page (fun b => b < w0.heap.size) w0) L1 L2 cl1 cl2 qs1 qs2 us1 us2 _ hS.rv HQ1.out.2 hS.rv HQ2.out.2 hl1 hl2).mono ?_; rintro e w ⟨vs3, hz3, L3, c3, rfl, ho3, hx3⟩; replace hS := hS.addRow ho3 hx3; have HZ3 := Lib.hid hz3; clear hz3 ho3 hx3) | (go_at_call 15; refine (rcompose_any (PgR.page (fun b => b < w0.heap.size) w0) L1 L2 cl1 cl2 qs1 qs2 us1 us2 _ hS.rv HQ1.out.2 hS.rv HQ2.out.2 hl1 hl2).mono ?_; rintro e w ⟨vs4, hz4, L4, c4, rfl, ho4, hx4⟩; replace hS := hS.addRow ho4 hx4; have HZ4 := Lib.hid hz4; clear hz4 ho4 hx4; rw [← HCR.out] at *) | (go_at_call 13; refine (same_any (S := All) (T := All) L3 L4 c3 c4 _ _ _ ⟨vs3, hS.rv, HZ3.out.mono (repPage.into ((hS.into fun _ _ => id).widen fun _ _ => trivial))⟩ ⟨vs4, hS.rv, HZ4.out.mono (repPage.into ((hS.into fun _ _ => id).widen fun _ _ => trivial))⟩ (by omega) (by omega)).mono ?_; rintro e w ⟨rfl, nq, rfl⟩; replace hS := hS.drewN nq) | (refine oL ?_; (first | refine sL1 hS rfl rfl rfl ?_ | refine sL2 hS rfl rfl rfl ?_ | refine sL3 hS rfl rfl ?_ | refine sL4 hS rfl rfl ?_ | refine sL5 hS rfl rfl ?_ | refine sL6 hS rfl rfl ?_ | refine sL7 hS rfl rfl ?_)) | (refine oS ?_; ((first | refine sS1 hS rfl rfl rfl ?_ | refine sS2 hS rfl rfl rfl ?_ | refine sS3 hS rfl rfl rfl ?_ | refine sS4 hS rfl rfl rfl ?_ | refine sS5 hS rfl rfl rfl ?_); clear hS; intro w hS)) | (refine oP ?_; ((first | refine sP1 hS rfl rfl rfl ?_ | refine sP2 hS rfl rfl rfl ?_ | refine sP3 hS rfl rfl rfl ?_); clear hS; first | ((fail_if_success guard_hyp L1); intro L1 cl1 w hL1 hM1 hS) | ((fail_if_success guard_hyp L2); intro L2 cl2 w hL2 hM2 hS) | ((fail_if_success guard_hyp L3); intro L3 cl3 w hL3 hM3 hS) | fail)) | fail)
          go_ret
          exact ⟨by simp, hS.toExt⟩
open Go.ChangeShapes Go.WideShapes Go.ChangeAt
set_option maxRecDepth 100000 in
theorem lifted_ImageComposes (os : Os) (started : os.Started) (H : Type) (enc : TypeId × Value → H) :
    ReturnsInHanded {} Try.checked os 3 .any (Rows.imageComposesSpec.pre6 enc Try.prog Try.f3 Rows.imageComposesRow.domain false) (Rows.imageComposesSpec.post enc Try.prog Try.f3 false true false false) := by
  refine law_lifted (C := Try.checked) (s := Rows.imageComposesSpec) (tb := 4) (by kernel_rfl) started (by kernel_rfl) Try.func3
      (ChangeSpec.witness6 (enc := enc) (C := Try.checked) false ⟨#[], #[.slice none 0 0, .slice none 0 0, .bool false], []⟩ 8 (by kernel_rfl) (by kernel_rfl) (by kernel_rfl) (by kernel_rfl))
      (by kernel_rfl) rfl rfl Try.underlying4 (read_of (by kernel_rfl)) ?_ ?_
  · intro ds hl
    match ds, hl with
    | [d0, d1, d2], _ => exact ⟨rfl, rfl, rfl⟩
  · intro W base args ds p hval0 hA0
    have hval : ∀ (j : Nat) t v, Try.f3.params[j]? = some t → args[j]? = some v → Value.okWide Try.prog W .any base t v := hval0
    have hA : DataW.TrodAll enc Try.prog W 0 (fun _ => true) true Try.f3.params.toList args.toList ds p := hA0
    clear hA0 hval0
    rw [Try.params3] at hA hval
    obtain ⟨v0, v1, v2, d0, d1, d2, p0, p1, p2, rfl, rfl, rfl, h0, h1, h2⟩ := trodAll_three hA
    obtain ⟨A0, c0, xs0, rfl, hri0, hc0, hd0, hwf0⟩ := open_pages (hval 0 _ v0 rfl rfl) h0
    obtain ⟨A1, c1, xs1, rfl, hri1, hc1, hd1, hwf1⟩ := open_pages (hval 1 _ v1 rfl rfl) h1
    obtain ⟨x2, rfl, _, _⟩ := open_bool Try.underlying4 (hval 2 _ v2 rfl rfl) h2
    exact imageComposes_any A0 c0 xs0 A1 c1 xs1 x2 W hri0 hc0 hd0 hwf0 hri1 hc1 hd1 hwf1 
/-- ImageComposes returns true for every input, and leaves its arguments as they were. -/
theorem proved_ImageComposes : Rows.ImageComposesSaid :=
  OpenClaim.holds_of_wide 3 Try.f3 rfl rfl rfl rfl rfl rfl rfl ⟨rfl, rfl, rfl, rfl, rfl⟩ rfl rfl rfl rfl rfl (by kernel_rfl) Try.func3 (by kernel_rfl)
    (of_decide_eq_true (by kernel_rfl)) (by unfold Func.isWrapper; rw [if_neg (by decide +kernel)]; exact ⟨rfl, rfl⟩)
    (fun os started H enc _ => lifted_ImageComposes os started H enc)
end Go.Proofs.Ytmjmdncdmmcmaaa
