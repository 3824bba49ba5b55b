/- rollbacknetref16.arc. Conditions: the pattern is good and lies in memory. -/
import Derived.Test.YtmjmdncdmmcmaaaRChkC
namespace Go.Proofs.Ytmjmdncdmmcmaaa
open Go.RowKit
set_option linter.unusedVariables false
set_option linter.unusedSimpArgs false
set_option linter.unusedSectionVars false

set_option maxRecDepth 100000 in
set_option maxHeartbeats 6400000 in
theorem rarc_any {S : Nat → Prop} (A1 : Option Addr) (c1 : Nat) (A2 : Option Addr) (c2 : Nat) (A3 : Option Addr) (c3 : Nat) (p : Pat) (k : Nat) (w0 : World) (hp : PatAt S w0 ⟨A1, c1, A2, c2, A3, c3⟩ p) (hg : Good p) (hk : k < p.arcs.length) :
    Calls Try.prog 80 #[.agg #[.slice A1 p.len.length c1, .slice A2 p.ck.length c2, .slice A3 p.arcs.length c3], .int .i64 (k : Int)] w0 fun e w' => e = .returned (.int .i64 0) ∧ Ext w0 w' := by
  have hS := St.start w0 NoM
  have hn5 := hg.n5
  have hfew := hg.few
  have hk' : (k : Int) < p.arcs.length := by omega
  obtain ⟨ar, har⟩ : ∃ ar, p.arcs[k] = ar := ⟨_, rfl⟩
  obtain ⟨fr, ix, tt, at_⟩ := ar
  have hao := hg.arc _ (List.getElem_mem hk)
  rw [har] at hao
  obtain ⟨hfr, hto, hne, hix0, hix1, hat0, hat1⟩ := hao
  simp only at hfr hto hne hix0 hix1 hat0 hat1
  obtain ⟨b3, o3, rfl, _, hcs⟩ := hp.arcs.cells hk
  rw [har] at hcs
  simp only [arcCells] at hcs
  obtain ⟨b1, o1, rfl, _, hc1⟩ := hp.len.atNS hfr
  obtain ⟨b1', o1', e1, _, hc2⟩ := hp.len.atNS hto
  injection e1 with e1
  injection e1 with e1 e1'
  subst e1 e1'
  have HP := Lib.hid (And.intro hp (And.intro hg har))
  have hfr' : (fr : Int) < p.len.length := by omega
  have hto' : (tt : Int) < p.len.length := by omega
  have dne : ((fr : Int) == (tt : Int)) = false := by simp; omega
  have dix : decide (ix < 0) = false := decide_eq_false (by omega)
  generalize nth p.len fr = lf at *
  generalize nth p.len tt = lt at *
  have dix1 : decide (lf < ix) = false := decide_eq_false (by omega)
  have dat : decide (at_ < 0) = false := decide_eq_false (by omega)
  have dat1 : decide (lt < at_) = false := decide_eq_false (by omega)
  have dp1 : decide ((0 : Int) ≤ (fr : Int) ∧ (fr : Int) < (p.len.length : Int)) = true := decide_eq_true (by omega)
  have dp2 : decide ((0 : Int) ≤ (tt : Int) ∧ (tt : Int) < (p.len.length : Int)) = true := decide_eq_true (by omega)
  clear hp hg har hne hix0 hix1 hat0 hat1
  go_enter Try.func80, Try.ntmps80
  go_wp2_with (first | (refine oL ?_; (first | refine sL1 hS rfl rfl rfl ?_ | refine sL3 hS rfl rfl ?_)) | (refine oS ?_; (((refine sS4 hS rfl rfl rfl ?_)); clear hS; intro w hS)) | ((first | (refine oB ?_; (refine sB1 hS rfl rfl ?_)) | refine sN1 hS rfl ?_); clear hS; first | ((fail_if_success guard_hyp g1); intro g1 w hS) | ((fail_if_success guard_hyp g2); intro g2 w hS)))
  refine dr_start0 []  hS (by kernel_rfl) rfl ?_; clear hS; intro w hS
  (refine dL2 hS 0 rfl rfl rfl rfl ?_)
  (try simp only [Act.put, nA, nB, nC])
  refine dP hS 1 rfl rfl ?_
  (try simp only [Act.put, nA, nB, nC])
  (refine dL1 hS 2 rfl rfl rfl rfl ?_)
  (try simp only [Act.put, nA, nB, nC])
  refine dr_one 3 (by kernel_rfl) rfl ?_
  (refine st_call rfl (by kernel_rfl) rfl ?_; go_at_call 103; refine (proc_any _ _ _ c1 c2 c3 p.len.length p.ck.length p.arcs.length (fr : Int) _).mono ?_; rintro e w ⟨rfl, hx1⟩; rw [dp1]; replace hS := hS.ext hx1; clear hx1)
  (try simp only [Act.put, nA, nB, nC])
  refine dr_end hS ?_
  refine dP hS 4 rfl rfl ?_
  (try simp only [Act.put, nA, nB, nC])
  refine dM hS 5 rfl rfl rfl ?_
  (try simp only [Act.put, nA, nB, nC])
  (refine dL2 hS 6 rfl rfl rfl rfl ?_)
  (try simp only [Act.put, nA, nB, nC])
  first | refine dP hS 7 rfl rfl ?_ | refine dQ hS 7 rfl rfl ?_
  (try simp only [Act.put, nA, nB, nC])
  (refine dL1 hS 8 rfl rfl rfl rfl ?_)
  (try simp only [Act.put, nA, nB, nC])
  refine dr_one 9 (by kernel_rfl) rfl ?_
  (refine st_call rfl (by kernel_rfl) rfl ?_; go_at_call 103; refine (proc_any _ _ _ c1 c2 c3 p.len.length p.ck.length p.arcs.length (tt : Int) _).mono ?_; rintro e w ⟨rfl, hx1⟩; rw [dp2]; replace hS := hS.ext hx1; clear hx1)
  (try simp only [Act.put, nA, nB, nC])
  refine dr_end hS ?_
  first | refine dP hS 10 rfl rfl ?_ | refine dQ hS 10 rfl rfl ?_
  (try simp only [Act.put, nA, nB, nC])
  refine dP hS 11 rfl rfl ?_
  (try simp only [Act.put, nA, nB, nC])
  refine dM hS 12 rfl rfl rfl ?_
  (try simp only [Act.put, nA, nB, nC])
  first | refine dP hS 13 rfl rfl ?_ | refine dQ hS 13 rfl rfl ?_
  (try simp only [Act.put, nA, nB, nC])
  (refine dL1 hS 14 rfl rfl rfl rfl ?_)
  (try simp only [Act.put, nA, nB, nC])
  first | refine dP hS 15 rfl rfl ?_ | refine dQ hS 15 rfl rfl ?_
  (try simp only [Act.put, nA, nB, nC])
  (refine dL1 hS 16 rfl rfl rfl rfl ?_)
  (try simp only [Act.put, nA, nB, nC])
  first | (refine dP hS 17 rfl rfl ?_; try rw [dne]) | refine dP hS 17 rfl rfl ?_ | refine dQ hS 17 rfl rfl ?_
  (try simp only [Act.put, nA, nB, nC])
  refine dP hS 18 rfl rfl ?_
  (try simp only [Act.put, nA, nB, nC])
  refine dM hS 19 rfl rfl rfl ?_
  (try simp only [Act.put, nA, nB, nC])
  first | refine dP hS 20 rfl rfl ?_ | refine dQ hS 20 rfl rfl ?_
  (try simp only [Act.put, nA, nB, nC])
  (refine dL1 hS 21 rfl rfl rfl rfl ?_)
  (try simp only [Act.put, nA, nB, nC])
  first | (refine dP hS 22 rfl rfl ?_; try rw [dix]) | refine dP hS 22 rfl rfl ?_ | refine dQ hS 22 rfl rfl ?_
  (try simp only [Act.put, nA, nB, nC])
  refine dP hS 23 rfl rfl ?_
  (try simp only [Act.put, nA, nB, nC])
  refine dM hS 24 rfl rfl rfl ?_
  (try simp only [Act.put, nA, nB, nC])
  first | refine dP hS 25 rfl rfl ?_ | refine dQ hS 25 rfl rfl ?_
  (try simp only [Act.put, nA, nB, nC])
  (refine dL1 hS 26 rfl rfl rfl rfl ?_)
  (try simp only [Act.put, nA, nB, nC])
  first | refine dP hS 27 rfl rfl ?_ | refine dQ hS 27 rfl rfl ?_
  (try simp only [Act.put, nA, nB, nC])
  (refine dL1 hS 28 rfl rfl rfl rfl ?_)
  (try simp only [Act.put, nA, nB, nC])
  first | refine dP hS 29 rfl rfl ?_ | refine dQ hS 29 rfl rfl ?_
  (try simp only [Act.put, nA, nB, nC])
  (refine dL1 hS 30 rfl rfl rfl rfl ?_)
  (try simp only [Act.put, nA, nB, nC])
  first | refine dP hS 31 rfl rfl ?_ | refine dQ hS 31 rfl rfl ?_
  (try simp only [Act.put, nA, nB, nC])
  (refine dL4 hS 32 rfl rfl rfl ?_)
  (try simp only [Act.put, nA, nB, nC])
  first | (refine dP hS 33 rfl rfl ?_; try rw [dix1]) | refine dP hS 33 rfl rfl ?_ | refine dQ hS 33 rfl rfl ?_
  (try simp only [Act.put, nA, nB, nC])
  refine dP hS 34 rfl rfl ?_
  (try simp only [Act.put, nA, nB, nC])
  refine dM hS 35 rfl rfl rfl ?_
  (try simp only [Act.put, nA, nB, nC])
  first | refine dP hS 36 rfl rfl ?_ | refine dQ hS 36 rfl rfl ?_
  (try simp only [Act.put, nA, nB, nC])
  (refine dL1 hS 37 rfl rfl rfl rfl ?_)
  (try simp only [Act.put, nA, nB, nC])
  first | (refine dP hS 38 rfl rfl ?_; try rw [dat]) | refine dP hS 38 rfl rfl ?_ | refine dQ hS 38 rfl rfl ?_
  (try simp only [Act.put, nA, nB, nC])
  refine dP hS 39 rfl rfl ?_
  (try simp only [Act.put, nA, nB, nC])
  refine dM hS 40 rfl rfl rfl ?_
  (try simp only [Act.put, nA, nB, nC])
  first | refine dP hS 41 rfl rfl ?_ | refine dQ hS 41 rfl rfl ?_
  (try simp only [Act.put, nA, nB, nC])
  (refine dL1 hS 42 rfl rfl rfl rfl ?_)
  (try simp only [Act.put, nA, nB, nC])
  first | refine dP hS 43 rfl rfl ?_ | refine dQ hS 43 rfl rfl ?_
  (try simp only [Act.put, nA, nB, nC])
  (refine dL1 hS 44 rfl rfl rfl rfl ?_)
  (try simp only [Act.put, nA, nB, nC])
  first | refine dP hS 45 rfl rfl ?_ | refine dQ hS 45 rfl rfl ?_
  (try simp only [Act.put, nA, nB, nC])
  (refine dL1 hS 46 rfl rfl rfl rfl ?_)
  (try simp only [Act.put, nA, nB, nC])
  first | refine dP hS 47 rfl rfl ?_ | refine dQ hS 47 rfl rfl ?_
  (try simp only [Act.put, nA, nB, nC])
  (refine dL4 hS 48 rfl rfl rfl ?_)
  (try simp only [Act.put, nA, nB, nC])
  first | (refine dP hS 49 rfl rfl ?_; try rw [dat1]) | refine dP hS 49 rfl rfl ?_ | refine dQ hS 49 rfl rfl ?_
  (try simp only [Act.put, nA, nB, nC])
  refine dP hS 50 rfl rfl ?_
  (try simp only [Act.put, nA, nB, nC])
  refine dr_done (by kernel_rfl) ?_
  go_wp2_with (fail)
  clear hc1 hc2 hcs
  go_loopw [6] (fun s6 wr => ∃ i : Nat, i ≤ k ∧ s6 = .int .i64 i ∧ St w0 NoM [blk g2 [.int .i64 (fr : Int), .int .i64 ix, .int .i64 (tt : Int), .int .i64 at_] 84, blk g1 [.slice (some ⟨b1, o1, none⟩) p.len.length c1, .slice A2 p.ck.length c2, .slice (some ⟨b3, o3, none⟩) p.arcs.length c3] 44] wr) (fun s6 _ => k - (intOf s6).toNat)
  case atStart => exact ⟨0, by omega, rfl, hS.re⟩
  case round =>
    clear hS
    obtain ⟨i, hi, rfl, hS⟩ := hrel
    by_cases hlt : i < k
    · have hlt' : (i : Int) < (k : Int) := by omega
      have hia : i < p.arcs.length := by omega
      have hia' : (i : Int) < p.arcs.length := by omega
      obtain ⟨b4, o4, e4, _, hcs⟩ := HP.out.1.arcs.cells hia
      injection e4 with e4
      injection e4 with e4 e4'
      subst e4 e4'
      have hu := HP.out.2.1.uniq i k hia hk hlt
      rw [HP.out.2.2] at hu
      have hc2 := hcs 2 _ rfl
      have hc3 := hcs 3 _ rfl
      clear hcs
      generalize p.arcs[i] = ar at *
      obtain ⟨tz, htz⟩ : ∃ z : Int, z = ar.to := ⟨_, rfl⟩
      rw [← htz] at hc2
      simp only at hu
      by_cases h0 : at_ = 0
      · have e1 : (at_ != 0) = false := by simp [h0]
        have e2 : (0 : Nat) = 0 := rfl
        clear hu htz h0
        go_upto_region 7 with (fail)
        refine dr_start0 []  hS (by kernel_rfl) rfl ?_; clear hS; intro w hS
        refine dP hS 0 rfl rfl ?_
        (try simp only [Act.put, nA, nB, nC])
        (refine dL1 hS 1 rfl rfl rfl rfl ?_)
        (try simp only [Act.put, nA, nB, nC])
        first | (refine dP hS 2 rfl rfl ?_; try rw [e1]) | refine dP hS 2 rfl rfl ?_
        (try simp only [Act.put, nA, nB, nC])
        refine dM hS 3 rfl rfl rfl ?_
        (try simp only [Act.put, nA, nB, nC])
        first | refine dP hS 4 rfl rfl ?_ | refine dQ hS 4 rfl rfl ?_
        (try simp only [Act.put, nA, nB, nC])
        (refine dQ hS 5 rfl rfl ?_)
        (try simp only [Act.put, nA, nB, nC])
        first | refine dM hS 6 rfl rfl rfl ?_ | refine dQ hS 6 rfl rfl ?_
        (try simp only [Act.put, nA, nB, nC])
        first | refine dP hS 7 rfl rfl ?_ | refine dQ hS 7 rfl rfl ?_
        (try simp only [Act.put, nA, nB, nC])
        first | refine dP hS 8 rfl rfl ?_ | refine dQ hS 8 rfl rfl ?_
        (try simp only [Act.put, nA, nB, nC])
        (refine dQ hS 9 rfl rfl ?_)
        (try simp only [Act.put, nA, nB, nC])
        first | refine dP hS 10 rfl rfl ?_ | refine dQ hS 10 rfl rfl ?_
        (try simp only [Act.put, nA, nB, nC])
        (refine dQ hS 11 rfl rfl ?_)
        (try simp only [Act.put, nA, nB, nC])
        first | (refine dP hS 12 rfl rfl ?_; try rw [e2]) | refine dP hS 12 rfl rfl ?_ | refine dQ hS 12 rfl rfl ?_
        (try simp only [Act.put, nA, nB, nC])
        refine dP hS 13 rfl rfl ?_
        (try simp only [Act.put, nA, nB, nC])
        refine dM hS 14 rfl rfl rfl ?_
        (try simp only [Act.put, nA, nB, nC])
        first | refine dP hS 15 rfl rfl ?_ | refine dQ hS 15 rfl rfl ?_
        (try simp only [Act.put, nA, nB, nC])
        (refine dQ hS 16 rfl rfl ?_)
        (try simp only [Act.put, nA, nB, nC])
        first | refine dM hS 17 rfl rfl rfl ?_ | refine dQ hS 17 rfl rfl ?_
        (try simp only [Act.put, nA, nB, nC])
        first | refine dP hS 18 rfl rfl ?_ | refine dQ hS 18 rfl rfl ?_
        (try simp only [Act.put, nA, nB, nC])
        first | refine dP hS 19 rfl rfl ?_ | refine dQ hS 19 rfl rfl ?_
        (try simp only [Act.put, nA, nB, nC])
        (refine dQ hS 20 rfl rfl ?_)
        (try simp only [Act.put, nA, nB, nC])
        first | refine dP hS 21 rfl rfl ?_ | refine dQ hS 21 rfl rfl ?_
        (try simp only [Act.put, nA, nB, nC])
        (refine dQ hS 22 rfl rfl ?_)
        (try simp only [Act.put, nA, nB, nC])
        first | refine dP hS 23 rfl rfl ?_ | refine dQ hS 23 rfl rfl ?_
        (try simp only [Act.put, nA, nB, nC])
        refine dP hS 24 rfl rfl ?_
        (try simp only [Act.put, nA, nB, nC])
        refine dr_done (by kernel_rfl) ?_
        go_wp2_with (fail)
        go_roundw
        case measure => simp [intOf]; try omega
        exact ⟨i + 1, by omega, by go_num, hS⟩
      · have e1 : (at_ != 0) = true := by simp [h0]
        by_cases h1 : ar.to = tt
        · have h2 : ¬ ar.at_ = at_ := fun h2 => by have := hu h1 h2; omega
          have e2 : (tz == (tt : Int)) = true := by rw [htz]; simp [h1]
          have e3 : (ar.at_ == at_) = false := by simp [h2]
          clear hu htz h0 h1 h2
          go_upto_region 7 with (fail)
          refine dr_start0 []  hS (by kernel_rfl) rfl ?_; clear hS; intro w hS
          refine dP hS 0 rfl rfl ?_
          (try simp only [Act.put, nA, nB, nC])
          (refine dL1 hS 1 rfl rfl rfl rfl ?_)
          (try simp only [Act.put, nA, nB, nC])
          first | (refine dP hS 2 rfl rfl ?_; try rw [e1]) | refine dP hS 2 rfl rfl ?_
          (try simp only [Act.put, nA, nB, nC])
          refine dM hS 3 rfl rfl rfl ?_
          (try simp only [Act.put, nA, nB, nC])
          first | refine dP hS 4 rfl rfl ?_ | refine dQ hS 4 rfl rfl ?_
          (try simp only [Act.put, nA, nB, nC])
          (refine dL1 hS 5 rfl rfl rfl rfl ?_)
          (try simp only [Act.put, nA, nB, nC])
          first | refine dM hS 6 rfl rfl rfl ?_ | refine dQ hS 6 rfl rfl ?_
          (try simp only [Act.put, nA, nB, nC])
          first | refine dP hS 7 rfl rfl ?_ | refine dQ hS 7 rfl rfl ?_
          (try simp only [Act.put, nA, nB, nC])
          first | refine dP hS 8 rfl rfl ?_ | refine dQ hS 8 rfl rfl ?_
          (try simp only [Act.put, nA, nB, nC])
          (refine dL4 hS 9 rfl rfl rfl ?_)
          (try simp only [Act.put, nA, nB, nC])
          first | refine dP hS 10 rfl rfl ?_ | refine dQ hS 10 rfl rfl ?_
          (try simp only [Act.put, nA, nB, nC])
          (refine dL1 hS 11 rfl rfl rfl rfl ?_)
          (try simp only [Act.put, nA, nB, nC])
          first | (refine dP hS 12 rfl rfl ?_; try rw [e2]) | refine dP hS 12 rfl rfl ?_ | refine dQ hS 12 rfl rfl ?_
          (try simp only [Act.put, nA, nB, nC])
          refine dP hS 13 rfl rfl ?_
          (try simp only [Act.put, nA, nB, nC])
          refine dM hS 14 rfl rfl rfl ?_
          (try simp only [Act.put, nA, nB, nC])
          first | refine dP hS 15 rfl rfl ?_ | refine dQ hS 15 rfl rfl ?_
          (try simp only [Act.put, nA, nB, nC])
          (refine dL1 hS 16 rfl rfl rfl rfl ?_)
          (try simp only [Act.put, nA, nB, nC])
          first | refine dM hS 17 rfl rfl rfl ?_ | refine dQ hS 17 rfl rfl ?_
          (try simp only [Act.put, nA, nB, nC])
          first | refine dP hS 18 rfl rfl ?_ | refine dQ hS 18 rfl rfl ?_
          (try simp only [Act.put, nA, nB, nC])
          first | refine dP hS 19 rfl rfl ?_ | refine dQ hS 19 rfl rfl ?_
          (try simp only [Act.put, nA, nB, nC])
          (refine dL4 hS 20 rfl rfl rfl ?_)
          (try simp only [Act.put, nA, nB, nC])
          first | refine dP hS 21 rfl rfl ?_ | refine dQ hS 21 rfl rfl ?_
          (try simp only [Act.put, nA, nB, nC])
          (refine dL1 hS 22 rfl rfl rfl rfl ?_)
          (try simp only [Act.put, nA, nB, nC])
          first | refine dP hS 23 rfl rfl ?_ | refine dQ hS 23 rfl rfl ?_
          (try simp only [Act.put, nA, nB, nC])
          refine dP hS 24 rfl rfl ?_
          (try simp only [Act.put, nA, nB, nC])
          refine dr_done (by kernel_rfl) ?_
          go_wp2_with (fail)
          go_roundw
          case measure => simp [intOf]; try omega
          exact ⟨i + 1, by omega, by go_num, hS⟩
        · have e2 : (tz == (tt : Int)) = false := by rw [htz]; simp; omega
          clear hu htz h0 h1
          go_upto_region 7 with (fail)
          refine dr_start0 []  hS (by kernel_rfl) rfl ?_; clear hS; intro w hS
          refine dP hS 0 rfl rfl ?_
          (try simp only [Act.put, nA, nB, nC])
          (refine dL1 hS 1 rfl rfl rfl rfl ?_)
          (try simp only [Act.put, nA, nB, nC])
          first | (refine dP hS 2 rfl rfl ?_; try rw [e1]) | refine dP hS 2 rfl rfl ?_
          (try simp only [Act.put, nA, nB, nC])
          refine dM hS 3 rfl rfl rfl ?_
          (try simp only [Act.put, nA, nB, nC])
          first | refine dP hS 4 rfl rfl ?_ | refine dQ hS 4 rfl rfl ?_
          (try simp only [Act.put, nA, nB, nC])
          (refine dL1 hS 5 rfl rfl rfl rfl ?_)
          (try simp only [Act.put, nA, nB, nC])
          first | refine dM hS 6 rfl rfl rfl ?_ | refine dQ hS 6 rfl rfl ?_
          (try simp only [Act.put, nA, nB, nC])
          first | refine dP hS 7 rfl rfl ?_ | refine dQ hS 7 rfl rfl ?_
          (try simp only [Act.put, nA, nB, nC])
          first | refine dP hS 8 rfl rfl ?_ | refine dQ hS 8 rfl rfl ?_
          (try simp only [Act.put, nA, nB, nC])
          (refine dL4 hS 9 rfl rfl rfl ?_)
          (try simp only [Act.put, nA, nB, nC])
          first | refine dP hS 10 rfl rfl ?_ | refine dQ hS 10 rfl rfl ?_
          (try simp only [Act.put, nA, nB, nC])
          (refine dL1 hS 11 rfl rfl rfl rfl ?_)
          (try simp only [Act.put, nA, nB, nC])
          first | (refine dP hS 12 rfl rfl ?_; try rw [e2]) | refine dP hS 12 rfl rfl ?_ | refine dQ hS 12 rfl rfl ?_
          (try simp only [Act.put, nA, nB, nC])
          refine dP hS 13 rfl rfl ?_
          (try simp only [Act.put, nA, nB, nC])
          refine dM hS 14 rfl rfl rfl ?_
          (try simp only [Act.put, nA, nB, nC])
          first | refine dP hS 15 rfl rfl ?_ | refine dQ hS 15 rfl rfl ?_
          (try simp only [Act.put, nA, nB, nC])
          (refine dQ hS 16 rfl rfl ?_)
          (try simp only [Act.put, nA, nB, nC])
          first | refine dM hS 17 rfl rfl rfl ?_ | refine dQ hS 17 rfl rfl ?_
          (try simp only [Act.put, nA, nB, nC])
          first | refine dP hS 18 rfl rfl ?_ | refine dQ hS 18 rfl rfl ?_
          (try simp only [Act.put, nA, nB, nC])
          first | refine dP hS 19 rfl rfl ?_ | refine dQ hS 19 rfl rfl ?_
          (try simp only [Act.put, nA, nB, nC])
          (refine dQ hS 20 rfl rfl ?_)
          (try simp only [Act.put, nA, nB, nC])
          first | refine dP hS 21 rfl rfl ?_ | refine dQ hS 21 rfl rfl ?_
          (try simp only [Act.put, nA, nB, nC])
          (refine dQ hS 22 rfl rfl ?_)
          (try simp only [Act.put, nA, nB, nC])
          first | refine dP hS 23 rfl rfl ?_ | refine dQ hS 23 rfl rfl ?_
          (try simp only [Act.put, nA, nB, nC])
          refine dP hS 24 rfl rfl ?_
          (try simp only [Act.put, nA, nB, nC])
          refine dr_done (by kernel_rfl) ?_
          go_wp2_with (fail)
          go_roundw
          case measure => simp [intOf]; try omega
          exact ⟨i + 1, by omega, by go_num, hS⟩
    · have hlt' : ¬ (i : Int) < (k : Int) := by omega
      go_wp2_with (fail)
      go_ret
      exact ⟨rfl, hS.toExt⟩
end Go.Proofs.Ytmjmdncdmmcmaaa
