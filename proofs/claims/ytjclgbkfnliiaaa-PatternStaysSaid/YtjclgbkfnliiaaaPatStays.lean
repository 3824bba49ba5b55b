/- PatternStays returns true for every input. No condition. -/
import Derived.Test.YtjclgbkfnliiaaaPatPure
namespace Go.Proofs.Ytjclgbkfnliiaaa
open Go.RowKit
set_option linter.unusedVariables false
set_option linter.unusedSimpArgs false

set_option maxRecDepth 100000 in
set_option maxHeartbeats 3200000 in
theorem patternStays_any (C : Option Addr) (f : Nat) (bs : List Int) (a1 a2 a3 : Nat) (w0 : World) (hbs : RV (fun b => b < w0.heap.size) w0 C (bytes bs)) (hf : bs.length ≤ f) (hf' : f ≤ 9223372036854775807) (hby : ∀ b ∈ bs, 0 ≤ b ∧ b ≤ 255) (ha1 : a1 ≤ 255) (ha2 : a2 ≤ 255) (ha3 : a3 ≤ 255) :
    Calls Try.prog 10 #[.slice C bs.length f, .int .u8 (a1 : Int), .int .u8 (a2 : Int), .int .u8 (a3 : Int)] w0 fun e w' => e = .returned (.bool true) ∧ Ext w0 w' := by
  have hS := St.start w0 NoM
  have HB := Lib.hid (And.intro hby (RV.sub (S' := Froz w0 NoM) hbs (fun k hk => ⟨hk, id⟩)))
  clear hby hbs
  go_enter Try.func10, Try.ntmps10
  go_wp2_with (first | (go_at_call 15; refine (awake16_any _).mono ?_; rintro e w ⟨rfl, hx1⟩; replace hS := hS.ext hx1) | (refine oL ?_; (first | refine sL1 hS rfl rfl rfl ?_ | refine sL2 hS rfl rfl rfl ?_ | refine sL3 hS rfl rfl ?_ | refine sL4 hS rfl rfl ?_ | refine sL5 hS rfl rfl ?_ | refine sL6 hS rfl rfl ?_ | refine sL7 hS rfl rfl ?_)) | (refine oS ?_; ((first | refine sS1 hS rfl rfl rfl ?_ | refine sS2 hS rfl rfl rfl ?_ | refine sS3 hS rfl rfl rfl ?_ | refine sS4 hS rfl rfl rfl ?_ | refine sS5 hS rfl rfl rfl ?_); clear hS; intro w hS)) | ((first | refine sN1 hS rfl ?_); clear hS; first | ((fail_if_success guard_hyp g1); intro g1 w hS) | ((fail_if_success guard_hyp g2); intro g2 w hS) | ((fail_if_success guard_hyp g3); intro g3 w hS) | ((fail_if_success guard_hyp g4); intro g4 w hS) | ((fail_if_success guard_hyp g5); intro g5 w hS) | fail) | fail)
  refine (new_st (m := 240) hS (by omega) HB.out.2 hf hf' HB.out.1).mono ?_
  rintro e w ⟨gc, κ, rfl, hS⟩
  clear HB
  generalize bs.take 240 = r at *
  go_wp2_with (first | (refine oL ?_; (first | refine sL1 hS rfl rfl rfl ?_ | refine sL2 hS rfl rfl rfl ?_ | refine sL3 hS rfl rfl ?_ | refine sL4 hS rfl rfl ?_ | refine sL5 hS rfl rfl ?_ | refine sL6 hS rfl rfl ?_ | refine sL7 hS rfl rfl ?_)) | (refine oS ?_; ((first | refine sS1 hS rfl rfl rfl ?_ | refine sS2 hS rfl rfl rfl ?_ | refine sS3 hS rfl rfl rfl ?_ | refine sS4 hS rfl rfl rfl ?_ | refine sS5 hS rfl rfl rfl ?_); clear hS; intro w hS)) | ((first | refine sN1 hS rfl ?_); clear hS; first | ((fail_if_success guard_hyp g1); intro g1 w hS) | ((fail_if_success guard_hyp g2); intro g2 w hS) | ((fail_if_success guard_hyp g3); intro g3 w hS) | ((fail_if_success guard_hyp g4); intro g4 w hS) | ((fail_if_success guard_hyp g5); intro g5 w hS) | fail) | fail)
  refine (pattern_st (m := 20) hS rfl (by omega)).mono ?_
  rintro e w ⟨v, p, r1, T, rfl, hsm, hpa, hS⟩
  have HP := Lib.hid (And.intro hsm hpa)
  have e1 := hsm.good.ckl
  have hn5 := hsm.good.n5
  obtain ⟨A1, c1, A2, c2, A3, c3⟩ := v
  simp only [PV.val]
  have HE := Lib.hid e1
  have hn2 := hsm.good.n2
  have hfew := hsm.few
  clear hsm hpa e1
  generalize hu : w = u at *
  have HPp := Lib.hid HP.out.2
  have HG := Lib.hid HP.out.1
  clear HP
  have hne : ¬ p.len = [] := by intro h; rw [h] at hn2; simp at hn2
  go_wp2_with (first | (refine oL ?_; (first | refine sL1 hS rfl rfl rfl ?_ | refine sL2 hS rfl rfl rfl ?_ | refine sL3 hS rfl rfl ?_ | refine sL4 hS rfl rfl ?_ | refine sL5 hS rfl rfl ?_ | refine sL6 hS rfl rfl ?_ | refine sL7 hS rfl rfl ?_)) | (refine oS ?_; ((first | refine sS1 hS rfl rfl rfl ?_ | refine sS2 hS rfl rfl rfl ?_ | refine sS3 hS rfl rfl rfl ?_ | refine sS4 hS rfl rfl rfl ?_ | refine sS5 hS rfl rfl rfl ?_); clear hS; intro w hS)) | ((first | refine sN1 hS rfl ?_); clear hS; first | ((fail_if_success guard_hyp g1); intro g1 w hS) | ((fail_if_success guard_hyp g2); intro g2 w hS) | ((fail_if_success guard_hyp g3); intro g3 w hS) | ((fail_if_success guard_hyp g4); intro g4 w hS) | ((fail_if_success guard_hyp g5); intro g5 w hS) | fail) | fail)
  refine dr_start0 []  hS (by kernel_rfl) rfl ?_; clear hS; intro w hS
  refine dM hS 0 rfl rfl rfl ?_
  (try simp only [Act.put, nA, nB, nC])
  refine dP hS 1 rfl rfl ?_
  (try simp only [Act.put, nA, nB, nC])
  refine dM hS 2 rfl rfl rfl ?_
  (try simp only [Act.put, nA, nB, nC])
  refine dP hS 3 rfl rfl ?_
  (try simp only [Act.put, nA, nB, nC])
  refine dM hS 4 rfl rfl rfl ?_
  (try simp only [Act.put, nA, nB, nC])
  refine dP hS 5 rfl rfl ?_
  (try simp only [Act.put, nA, nB, nC])
  refine dM hS 6 rfl rfl rfl ?_
  (try simp only [Act.put, nA, nB, nC])
  refine dP hS 7 rfl rfl ?_
  (try simp only [Act.put, nA, nB, nC])
  refine dA hS 8 rfl rfl rfl ?_
  (try simp only [Act.put, nA, nB, nC])
  refine dA hS 9 rfl rfl rfl ?_
  (try simp only [Act.put, nA, nB, nC])
  refine dr_done (by kernel_rfl) ?_
  obtain ⟨q, hqz⟩ : ∃ q : Nat, ((a1 : Int) % (p.len.length : Int)) = q := ⟨a1 % p.len.length, by omega⟩
  obtain ⟨s, hsz⟩ : ∃ s : Nat, ((a2 : Int) % (p.len.length : Int)) = s := ⟨a2 % p.len.length, by omega⟩
  have hql : q < p.len.length := by
    have := Int.emod_lt_of_pos (a1 : Int) (show (0 : Int) < p.len.length by omega)
    omega
  have hsl : s < p.len.length := by
    have := Int.emod_lt_of_pos (a2 : Int) (show (0 : Int) < p.len.length by omega)
    omega
  rw [hqz, hsz]
  clear hqz hsz
  have hql' : (q : Int) < p.len.length := by omega
  have hsl' : (s : Int) < p.len.length := by omega
  have hlo := HG.out.good.lo s hsl
  have hhi := HG.out.good.hi s hsl
  obtain ⟨b1, o1, e1, hfs⟩ := HPp.out.len.fc hsl
  simp only at e1
  subst e1
  obtain ⟨k, hkz⟩ : ∃ k : Nat, ((a3 : Int) % (nth p.len s + 1)) = k := ⟨((a3 : Int) % (nth p.len s + 1)).toNat, by have := Int.emod_nonneg (a3 : Int) (show nth p.len s + 1 ≠ 0 by omega); omega⟩
  have hk : (k : Int) ≤ nth p.len s := by
    have := Int.emod_lt_of_pos (a3 : Int) (show (0 : Int) < nth p.len s + 1 by omega)
    omega
  have HAP := Lib.hid (app_stays HG.out (by omega) hql hsl (by omega) hk)
  have HK := Lib.hid hk
  generalize hm : nth p.len s = m at *
  have hm1 : ¬ (m + 1 = 0) := by omega
  go_wp2_with fail
  go_cut [14, 15] (fun s14 s15 wx => ∃ (g3 : Nat) (B1 : Option Addr) (d1 : Nat) (B2 : Option Addr) (d2 : Nat) (B3 : Option Addr) (d3 : Nat) (T1 : Nat → Prop) (u1 : World), s14 = .pointer (some ⟨g3, 0, none⟩) ∧ s15 = .bool (appRes p q s k).2 ∧ Hid (PatAt T1 u1 ⟨some ⟨b1, o1, none⟩, c1, A2, c2, A3, c3⟩ p ∧ PatAt T1 u1 ⟨B1, d1, B2, d2, B3, d3⟩ (appRes p q s k).1) ∧ St w0 NoM [blk g3 [.slice B1 (appRes p q s k).1.len.length d1, .slice B2 (appRes p q s k).1.ck.length d2, .slice B3 (appRes p q s k).1.arcs.length d3] 28, blk g1 [.slice (some ⟨b1, o1, none⟩) p.len.length c1, .slice A2 p.ck.length c2, .slice A3 p.arcs.length c3] 28, froz T1 u1] wx)
  case first =>
    refine dr_start0 []  hS (by kernel_rfl) rfl ?_; clear hS; intro w hS
    first | refine dL1 hS 0 rfl rfl rfl rfl ?_ | refine dL2 hS 0 rfl rfl rfl rfl ?_ | refine dL3 hS 0 rfl rfl rfl ?_ | refine dL4 hS 0 rfl rfl rfl ?_ | refine dL5 hS 0 rfl rfl rfl ?_ | refine dL6 hS 0 rfl rfl rfl ?_ | refine dL7 hS 0 rfl rfl rfl ?_
    (try simp only [Act.put, nA, nB, nC])
    refine dM hS 1 rfl rfl rfl ?_
    (try simp only [Act.put, nA, nB, nC])
    refine dM hS 2 rfl rfl rfl ?_
    (try simp only [Act.put, nA, nB, nC])
    refine dM hS 3 rfl rfl rfl ?_
    (try simp only [Act.put, nA, nB, nC])
    refine dP hS 4 rfl rfl ?_
    (try simp only [Act.put, nA, nB, nC])
    refine dP hS 5 rfl rfl ?_
    (try simp only [Act.put, nA, nB, nC])
    first | refine dL1 hS 6 rfl rfl rfl rfl ?_ | refine dL2 hS 6 rfl rfl rfl rfl ?_ | refine dL3 hS 6 rfl rfl rfl ?_ | refine dL4 hS 6 rfl rfl rfl ?_ | refine dL5 hS 6 rfl rfl rfl ?_ | refine dL6 hS 6 rfl rfl rfl ?_ | refine dL7 hS 6 rfl rfl rfl ?_
    (try simp only [Act.put, nA, nB, nC])
    refine dM hS 7 rfl rfl rfl ?_
    (try simp only [Act.put, nA, nB, nC])
    refine dP hS 8 rfl rfl ?_
    (try simp only [Act.put, nA, nB, nC])
    first | refine dL1 hS 9 rfl rfl rfl rfl ?_ | refine dL2 hS 9 rfl rfl rfl rfl ?_ | refine dL3 hS 9 rfl rfl rfl ?_ | refine dL4 hS 9 rfl rfl rfl ?_ | refine dL5 hS 9 rfl rfl rfl ?_ | refine dL6 hS 9 rfl rfl rfl ?_ | refine dL7 hS 9 rfl rfl rfl ?_
    (try simp only [Act.put, nA, nB, nC])
    refine dP hS 10 rfl rfl ?_
    (try simp only [Act.put, nA, nB, nC])
    refine dP hS 11 rfl rfl ?_
    (try simp only [Act.put, nA, nB, nC])
    refine dr_two 12 16 (by kernel_rfl) rfl rfl ?_ ?_
    (refine st_call rfl (by kernel_rfl) rfl ?_; go_at_call 20; have hcall := append_n (q := (q : Int)) (fr := (s : Int)) (se := (k : Int)) rfl rfl rfl (HPp.out.into hS.frozInto) HG.out.good; rw [hkz]; refine hcall.mono ?_; clear hcall; rintro e w ⟨⟨B1, d1, B2, d2, B3, d3⟩, rfl, hp1, hx1⟩; simp only [PV.val]; obtain ⟨N1, hS1, hi1, hi0⟩ := hS.grow2 hx1; clear hS; have hS := hS1; clear hS1; have HPx := Lib.hid (hp1.into hi1); generalize hu1 : w = u1 at *)
    (try simp only [Act.put, nA, nB, nC])
    refine dr_end hS ?_
    refine dM hS 13 rfl rfl rfl ?_
    (try simp only [Act.put, nA, nB, nC])
    refine dP hS 14 rfl rfl ?_
    (try simp only [Act.put, nA, nB, nC])
    refine dP hS 15 rfl rfl ?_
    (try simp only [Act.put, nA, nB, nC])
    refine dr_one 16 (by kernel_rfl) rfl ?_
    (refine sN1 hS rfl ?_; clear hS; first | ((fail_if_success guard_hyp g1); intro g1 w hS) | ((fail_if_success guard_hyp g2); intro g2 w hS) | ((fail_if_success guard_hyp g3); intro g3 w hS) | ((fail_if_success guard_hyp g4); intro g4 w hS) | ((fail_if_success guard_hyp g5); intro g5 w hS) | fail)
    (try simp only [Act.put, nA, nB, nC])
    refine dr_end hS ?_
    refine dr_one 17 (by kernel_rfl) rfl ?_
    ((first | refine sS1 hS rfl rfl rfl ?_ | refine sS2 hS rfl rfl rfl ?_ | refine sS3 hS rfl rfl rfl ?_ | refine sS4 hS rfl rfl rfl ?_ | refine sS5 hS rfl rfl rfl ?_); clear hS; intro w hS)
    (try simp only [Act.put, nA, nB, nC])
    refine dr_end hS ?_
    refine dA hS 18 rfl rfl rfl ?_
    (try simp only [Act.put, nA, nB, nC])
    refine dr_done (by kernel_rfl) ?_
    rotate_left
    (refine sN1 hS rfl ?_; clear hS; first | ((fail_if_success guard_hyp g1); intro g1 w hS) | ((fail_if_success guard_hyp g2); intro g2 w hS) | ((fail_if_success guard_hyp g3); intro g3 w hS) | ((fail_if_success guard_hyp g4); intro g4 w hS) | ((fail_if_success guard_hyp g5); intro g5 w hS) | fail)
    (try simp only [Act.put, nA, nB, nC])
    refine dr_end hS ?_
    refine dr_one 12 (by kernel_rfl) rfl ?_
    (refine st_call rfl (by kernel_rfl) rfl ?_; go_at_call 20; have hcall := append_n (q := (q : Int)) (fr := (s : Int)) (se := (k : Int)) rfl rfl rfl (HPp.out.into hS.frozInto) HG.out.good; rw [hkz]; refine hcall.mono ?_; clear hcall; rintro e w ⟨⟨B1, d1, B2, d2, B3, d3⟩, rfl, hp1, hx1⟩; simp only [PV.val]; obtain ⟨N1, hS1, hi1, hi0⟩ := hS.grow2 hx1; clear hS; have hS := hS1; clear hS1; have HPx := Lib.hid (hp1.into hi1); generalize hu1 : w = u1 at *)
    (try simp only [Act.put, nA, nB, nC])
    refine dr_end hS ?_
    refine dM hS 13 rfl rfl rfl ?_
    (try simp only [Act.put, nA, nB, nC])
    refine dP hS 14 rfl rfl ?_
    (try simp only [Act.put, nA, nB, nC])
    refine dP hS 15 rfl rfl ?_
    (try simp only [Act.put, nA, nB, nC])
    refine dr_one 17 (by kernel_rfl) rfl ?_
    ((first | refine sS1 hS rfl rfl rfl ?_ | refine sS2 hS rfl rfl rfl ?_ | refine sS3 hS rfl rfl rfl ?_ | refine sS4 hS rfl rfl rfl ?_ | refine sS5 hS rfl rfl rfl ?_); clear hS; intro w hS)
    (try simp only [Act.put, nA, nB, nC])
    refine dr_end hS ?_
    refine dA hS 18 rfl rfl rfl ?_
    (try simp only [Act.put, nA, nB, nC])
    refine dr_done (by kernel_rfl) ?_
    rotate_left
    all_goals
      go_wp2_with fail
      obtain ⟨T1, hS1, hm0, hm1⟩ := hS.merge N1 u1 hi0
      go_meet
      exact ⟨_, B1, d1, B2, d2, B3, d3, T1, _, rfl, rfl, Lib.hid ⟨HPp.out.into hm0, HPx.out.into hm1⟩, hS1.re⟩
  case rest =>
    clear HPp hS hkz hfs
    obtain ⟨g3, B1, d1, B2, d2, B3, d3, T1, u1, rfl, rfl, HPX, hS⟩ := hcut
    rw [HAP.out] at HPX hS ⊢
    have HPp := Lib.hid HPX.out.1
    have HMK := Lib.hid (show markI p (q : Int) = p.mark q by rw [markI, if_pos ⟨by omega, hql'⟩, Int.toNat_natCast])
    have HGM := Lib.hid (HG.out.good.mark hql)
    have HMA := Lib.hid (mark_again HG.out.good hql)
    have HLAST := Lib.hid (mark_last HG.out.good hql)
    have HQM := Lib.hid (show q < (p.mark q).ck.length by rw [Pat.mark_ckl, HE.out]; exact hql)
    have HCL := Lib.hid (show (p.mark q).ck.length = p.len.length by rw [Pat.mark_ckl, HE.out])
    have HRLEN := Lib.hid (HGM.out.rowLen (q := q) (by rw [Pat.mark_len]; exact hql))
    generalize hpm : p.mark q = pm at *
    clear hpm
    by_cases hqs : q = s
    · rw [if_pos hqs] at HPX hS ⊢
      subst hqs
      clear HPX HAP HK
      go_wp2_with (first | (go_at_call 23; refine (mark_m (q := (q : Int)) rfl rfl rfl (HPp.out.into hS.frozInto) HG.out.good).mono ?_; rw [HMK.out]; rintro e w ⟨⟨M1, m1, M2, m2, M3, m3⟩, rfl, hp1, hx1⟩; simp only [PV.val]; obtain ⟨T1, hS1, hi1, hi0⟩ := hS.grow hx1; clear hS; have hS := hS1; clear hS1; replace HPp := Lib.hid (HPp.out.into hi0); have HPm := Lib.hid (hp1.into hi1)) | (refine oL ?_; (first | refine sL1 hS rfl rfl rfl ?_ | refine sL2 hS rfl rfl rfl ?_ | refine sL3 hS rfl rfl ?_ | refine sL4 hS rfl rfl ?_ | refine sL5 hS rfl rfl ?_ | refine sL6 hS rfl rfl ?_ | refine sL7 hS rfl rfl ?_)) | (refine oS ?_; ((first | refine sS1 hS rfl rfl rfl ?_ | refine sS2 hS rfl rfl rfl ?_ | refine sS3 hS rfl rfl rfl ?_ | refine sS4 hS rfl rfl rfl ?_ | refine sS5 hS rfl rfl rfl ?_); clear hS; intro w hS)) | ((first | refine sN1 hS rfl ?_); clear hS; first | ((fail_if_success guard_hyp g1); intro g1 w hS) | ((fail_if_success guard_hyp g2); intro g2 w hS) | ((fail_if_success guard_hyp g3); intro g3 w hS) | ((fail_if_success guard_hyp g4); intro g4 w hS) | ((fail_if_success guard_hyp g5); intro g5 w hS) | fail) | fail)
      have hcl := HCL.out
      obtain ⟨bm, om, Bm, cm, em, hfm, hBm, hcm, hcm'⟩ := HPm.out.ck.fc (k := q) HQM.out
      simp only at em
      subst em
      obtain ⟨bl, ol, el, hfl⟩ := hBm.fc (k := (rowOf pm.ck q).length - 1) (by have := HLAST.out.1; omega)
      subst el
      rw [HLAST.out.2] at hfl
      obtain ⟨bq, oq, eq, hfq⟩ := HPp.out.len.fc hql
      simp only at eq
      injection eq with eq; injection eq with eq eq2; subst eq; subst eq2
      have hpos := HLAST.out.1
      have hlen := HRLEN.out
      have hqm' : (q : Int) < pm.ck.length := by have := HQM.out; omega
      generalize hlm : (rowOf pm.ck q).length = lm at *
      clear hlm
      obtain ⟨lk, rfl⟩ : ∃ lk : Nat, lm = lk + 1 := ⟨lm - 1, by omega⟩
      have hlk : (lk : Int) < (lk : Int) + 1 := by omega
      rw [Nat.add_sub_cancel] at hfl
      generalize hmq : nth p.len q = mq at *
      have hle1 : ((pm.ck.length : Int) == (p.len.length : Int)) = true := by rw [hcl]; simp
      clear hcl
      refine dr_start0 []  hS (by kernel_rfl) rfl ?_; clear hS; intro w hS
      first | refine dL1 hS 0 rfl rfl rfl rfl ?_ | refine dL2 hS 0 rfl rfl rfl rfl ?_ | refine dL3 hS 0 rfl rfl rfl ?_ | refine dL4 hS 0 rfl rfl rfl ?_ | refine dL5 hS 0 rfl rfl rfl ?_ | refine dL6 hS 0 rfl rfl rfl ?_ | refine dL7 hS 0 rfl rfl rfl ?_
      (try simp only [Act.put, nA, nB, nC])
      refine dr_one 1 (by kernel_rfl) rfl ?_
      (refine st_call rfl (by kernel_rfl) rfl ?_; go_at_call 43; refine (check_n rfl rfl rfl (HPm.out.into hS.frozInto) HGM.out).mono ?_; rintro e w ⟨rfl, hx1⟩; replace hS := hS.ext hx1)
      (try simp only [Act.put, nA, nB, nC])
      refine dr_end hS ?_
      refine dP hS 2 rfl rfl ?_
      (try simp only [Act.put, nA, nB, nC])
      refine dM hS 3 rfl rfl rfl ?_
      (try simp only [Act.put, nA, nB, nC])
      first | refine dL1 hS 4 rfl rfl rfl rfl ?_ | refine dL2 hS 4 rfl rfl rfl rfl ?_ | refine dL3 hS 4 rfl rfl rfl ?_ | refine dL4 hS 4 rfl rfl rfl ?_ | refine dL5 hS 4 rfl rfl rfl ?_ | refine dL6 hS 4 rfl rfl rfl ?_ | refine dL7 hS 4 rfl rfl rfl ?_ | refine dQ hS 4 rfl rfl ?_
      (try simp only [Act.put, nA, nB, nC])
      first | refine dM hS 5 rfl rfl rfl ?_ | refine dQ hS 5 rfl rfl ?_
      (try simp only [Act.put, nA, nB, nC])
      first | refine dL1 hS 7 rfl rfl rfl rfl ?_ | refine dL2 hS 7 rfl rfl rfl rfl ?_ | refine dL3 hS 7 rfl rfl rfl ?_ | refine dL4 hS 7 rfl rfl rfl ?_ | refine dL5 hS 7 rfl rfl rfl ?_ | refine dL6 hS 7 rfl rfl rfl ?_ | refine dL7 hS 7 rfl rfl rfl ?_ | refine dQ hS 7 rfl rfl ?_
      (try simp only [Act.put, nA, nB, nC])
      refine dr_one 6 (by kernel_rfl) rfl ?_
      (refine st_call rfl (by kernel_rfl) rfl ?_; go_at_call 23; refine (mark_m (q := (q : Int)) rfl rfl rfl (HPm.out.into hS.frozInto) HGM.out).mono ?_; rw [HMA.out]; rintro e w ⟨⟨N1, n1, N2, n2, N3, n3⟩, rfl, hp1, hx1⟩; simp only [PV.val]; obtain ⟨N1, hS1, hi1, hi0⟩ := hS.grow2 hx1; clear hS; have hS := hS1; clear hS1; have HPn := Lib.hid (hp1.into hi1); generalize hu1 : w = u1 at *)
      (try simp only [Act.put, nA, nB, nC])
      refine dr_end hS ?_
      refine dr_one 8 (by kernel_rfl) rfl ?_
      (refine st_call rfl (by kernel_rfl) rfl ?_; go_at_call 22; refine (same_n (p := pm) rfl rfl rfl rfl rfl rfl (HPn.out.into (hS.intoBoth hi0)) (HPm.out.into hS.intoK) HGM.out.fits).mono ?_; rintro e w ⟨rfl, hx1⟩; replace hS := hS.ext hx1)
      (try simp only [Act.put, nA, nB, nC])
      refine dr_end hS ?_
      refine dP hS 9 rfl rfl ?_
      (try simp only [Act.put, nA, nB, nC])
      refine dM hS 10 rfl rfl rfl ?_
      (try simp only [Act.put, nA, nB, nC])
      first | refine dP hS 11 rfl rfl ?_ | refine dQ hS 11 rfl rfl ?_
      (try simp only [Act.put, nA, nB, nC])
      first | refine dL1 hS 12 rfl rfl rfl rfl ?_ | refine dL2 hS 12 rfl rfl rfl rfl ?_ | refine dL3 hS 12 rfl rfl rfl ?_ | refine dL4 hS 12 rfl rfl rfl ?_ | refine dL5 hS 12 rfl rfl rfl ?_ | refine dL6 hS 12 rfl rfl rfl ?_ | refine dL7 hS 12 rfl rfl rfl ?_ | refine dQ hS 12 rfl rfl ?_
      (try simp only [Act.put, nA, nB, nC])
      first | refine dP hS 13 rfl rfl ?_ | refine dQ hS 13 rfl rfl ?_
      (try simp only [Act.put, nA, nB, nC])
      first | refine dM hS 14 rfl rfl rfl ?_ | refine dQ hS 14 rfl rfl ?_
      (try simp only [Act.put, nA, nB, nC])
      first | refine dP hS 15 rfl rfl ?_ | refine dQ hS 15 rfl rfl ?_
      (try simp only [Act.put, nA, nB, nC])
      refine dP hS 16 rfl rfl ?_
      (try simp only [Act.put, nA, nB, nC])
      refine dM hS 17 rfl rfl rfl ?_
      (try simp only [Act.put, nA, nB, nC])
      first | refine dP hS 18 rfl rfl ?_ | refine dQ hS 18 rfl rfl ?_
      (try simp only [Act.put, nA, nB, nC])
      first | refine dL1 hS 19 rfl rfl rfl rfl ?_ | refine dL2 hS 19 rfl rfl rfl rfl ?_ | refine dL3 hS 19 rfl rfl rfl ?_ | refine dL4 hS 19 rfl rfl rfl ?_ | refine dL5 hS 19 rfl rfl rfl ?_ | refine dL6 hS 19 rfl rfl rfl ?_ | refine dL7 hS 19 rfl rfl rfl ?_ | refine dQ hS 19 rfl rfl ?_
      (try simp only [Act.put, nA, nB, nC])
      first | refine dM hS 20 rfl rfl rfl ?_ | refine dQ hS 20 rfl rfl ?_
      (try simp only [Act.put, nA, nB, nC])
      first | refine dP hS 21 rfl rfl ?_ | refine dQ hS 21 rfl rfl ?_
      (try simp only [Act.put, nA, nB, nC])
      first | refine dL1 hS 22 rfl rfl rfl rfl ?_ | refine dL2 hS 22 rfl rfl rfl rfl ?_ | refine dL3 hS 22 rfl rfl rfl ?_ | refine dL4 hS 22 rfl rfl rfl ?_ | refine dL5 hS 22 rfl rfl rfl ?_ | refine dL6 hS 22 rfl rfl rfl ?_ | refine dL7 hS 22 rfl rfl rfl ?_ | refine dQ hS 22 rfl rfl ?_
      (try simp only [Act.put, nA, nB, nC])
      first | refine dP hS 23 rfl rfl ?_ | refine dQ hS 23 rfl rfl ?_
      (try simp only [Act.put, nA, nB, nC])
      first | refine dP hS 24 rfl rfl ?_ | refine dQ hS 24 rfl rfl ?_
      (try simp only [Act.put, nA, nB, nC])
      refine dP hS 25 rfl rfl ?_
      (try simp only [Act.put, nA, nB, nC])
      refine dM hS 26 rfl rfl rfl ?_
      (try simp only [Act.put, nA, nB, nC])
      first | refine dP hS 27 rfl rfl ?_ | refine dQ hS 27 rfl rfl ?_
      (try simp only [Act.put, nA, nB, nC])
      first | refine dL1 hS 28 rfl rfl rfl rfl ?_ | refine dL2 hS 28 rfl rfl rfl rfl ?_ | refine dL3 hS 28 rfl rfl rfl ?_ | refine dL4 hS 28 rfl rfl rfl ?_ | refine dL5 hS 28 rfl rfl rfl ?_ | refine dL6 hS 28 rfl rfl rfl ?_ | refine dL7 hS 28 rfl rfl rfl ?_ | refine dQ hS 28 rfl rfl ?_
      (try simp only [Act.put, nA, nB, nC])
      first | refine dM hS 29 rfl rfl rfl ?_ | refine dQ hS 29 rfl rfl ?_
      (try simp only [Act.put, nA, nB, nC])
      first | refine dP hS 30 rfl rfl ?_ | refine dQ hS 30 rfl rfl ?_
      (try simp only [Act.put, nA, nB, nC])
      first | refine dL1 hS 31 rfl rfl rfl rfl ?_ | refine dL2 hS 31 rfl rfl rfl rfl ?_ | refine dL3 hS 31 rfl rfl rfl ?_ | refine dL4 hS 31 rfl rfl rfl ?_ | refine dL5 hS 31 rfl rfl rfl ?_ | refine dL6 hS 31 rfl rfl rfl ?_ | refine dL7 hS 31 rfl rfl rfl ?_ | refine dQ hS 31 rfl rfl ?_
      (try simp only [Act.put, nA, nB, nC])
      first | refine dP hS 32 rfl rfl ?_ | refine dQ hS 32 rfl rfl ?_
      (try simp only [Act.put, nA, nB, nC])
      first | refine dL1 hS 33 rfl rfl rfl rfl ?_ | refine dL2 hS 33 rfl rfl rfl rfl ?_ | refine dL3 hS 33 rfl rfl rfl ?_ | refine dL4 hS 33 rfl rfl rfl ?_ | refine dL5 hS 33 rfl rfl rfl ?_ | refine dL6 hS 33 rfl rfl rfl ?_ | refine dL7 hS 33 rfl rfl rfl ?_ | refine dQ hS 33 rfl rfl ?_
      (try simp only [Act.put, nA, nB, nC])
      first | refine dM hS 34 rfl rfl rfl ?_ | refine dQ hS 34 rfl rfl ?_
      (try simp only [Act.put, nA, nB, nC])
      first | refine dP hS 35 rfl rfl ?_ | refine dQ hS 35 rfl rfl ?_
      (try simp only [Act.put, nA, nB, nC])
      first | refine dL1 hS 36 rfl rfl rfl rfl ?_ | refine dL2 hS 36 rfl rfl rfl rfl ?_ | refine dL3 hS 36 rfl rfl rfl ?_ | refine dL4 hS 36 rfl rfl rfl ?_ | refine dL5 hS 36 rfl rfl rfl ?_ | refine dL6 hS 36 rfl rfl rfl ?_ | refine dL7 hS 36 rfl rfl rfl ?_ | refine dQ hS 36 rfl rfl ?_
      (try simp only [Act.put, nA, nB, nC])
      first | refine dP hS 37 rfl rfl ?_ | refine dQ hS 37 rfl rfl ?_
      (try simp only [Act.put, nA, nB, nC])
      first | refine dP hS 38 rfl rfl ?_ | refine dQ hS 38 rfl rfl ?_
      (try simp only [Act.put, nA, nB, nC])
      first | refine dP hS 39 rfl rfl ?_ | refine dQ hS 39 rfl rfl ?_
      (try simp only [Act.put, nA, nB, nC])
      first | refine dL1 hS 40 rfl rfl rfl rfl ?_ | refine dL2 hS 40 rfl rfl rfl rfl ?_ | refine dL3 hS 40 rfl rfl rfl ?_ | refine dL4 hS 40 rfl rfl rfl ?_ | refine dL5 hS 40 rfl rfl rfl ?_ | refine dL6 hS 40 rfl rfl rfl ?_ | refine dL7 hS 40 rfl rfl rfl ?_ | refine dQ hS 40 rfl rfl ?_
      (try simp only [Act.put, nA, nB, nC])
      first | refine dP hS 41 rfl rfl ?_ | refine dQ hS 41 rfl rfl ?_
      (try simp only [Act.put, nA, nB, nC])
      first | refine dL1 hS 42 rfl rfl rfl rfl ?_ | refine dL2 hS 42 rfl rfl rfl rfl ?_ | refine dL3 hS 42 rfl rfl rfl ?_ | refine dL4 hS 42 rfl rfl rfl ?_ | refine dL5 hS 42 rfl rfl rfl ?_ | refine dL6 hS 42 rfl rfl rfl ?_ | refine dL7 hS 42 rfl rfl rfl ?_ | refine dQ hS 42 rfl rfl ?_
      (try simp only [Act.put, nA, nB, nC])
      first | refine dM hS 43 rfl rfl rfl ?_ | refine dQ hS 43 rfl rfl ?_
      (try simp only [Act.put, nA, nB, nC])
      first | refine dP hS 44 rfl rfl ?_ | refine dQ hS 44 rfl rfl ?_
      (try simp only [Act.put, nA, nB, nC])
      first | refine dL1 hS 45 rfl rfl rfl rfl ?_ | refine dL2 hS 45 rfl rfl rfl rfl ?_ | refine dL3 hS 45 rfl rfl rfl ?_ | refine dL4 hS 45 rfl rfl rfl ?_ | refine dL5 hS 45 rfl rfl rfl ?_ | refine dL6 hS 45 rfl rfl rfl ?_ | refine dL7 hS 45 rfl rfl rfl ?_ | refine dQ hS 45 rfl rfl ?_
      (try simp only [Act.put, nA, nB, nC])
      first | refine dP hS 46 rfl rfl ?_ | refine dQ hS 46 rfl rfl ?_
      (try simp only [Act.put, nA, nB, nC])
      refine dP hS 47 rfl rfl ?_
      (try simp only [Act.put, nA, nB, nC])
      refine dA hS 48 rfl rfl rfl ?_
      (try simp only [Act.put, nA, nB, nC])
      refine dr_done (by kernel_rfl) ?_
      all_goals
        go_wp2_with (first | (refine oL ?_; (first | refine sL1 hS rfl rfl rfl ?_ | refine sL2 hS rfl rfl rfl ?_ | refine sL3 hS rfl rfl ?_ | refine sL4 hS rfl rfl ?_ | refine sL5 hS rfl rfl ?_ | refine sL6 hS rfl rfl ?_ | refine sL7 hS rfl rfl ?_)) | (refine oS ?_; ((first | refine sS1 hS rfl rfl rfl ?_ | refine sS2 hS rfl rfl rfl ?_ | refine sS3 hS rfl rfl rfl ?_ | refine sS4 hS rfl rfl rfl ?_ | refine sS5 hS rfl rfl rfl ?_); clear hS; intro w hS)) | ((first | refine sN1 hS rfl ?_); clear hS; first | ((fail_if_success guard_hyp g1); intro g1 w hS) | ((fail_if_success guard_hyp g2); intro g2 w hS) | ((fail_if_success guard_hyp g3); intro g3 w hS) | ((fail_if_success guard_hyp g4); intro g4 w hS) | ((fail_if_success guard_hyp g5); intro g5 w hS) | fail) | fail)
        go_ret
        exact ⟨ret_bool (by simp), hS.toExt⟩
    · rw [if_neg hqs] at HPX hS ⊢
      have HGX := Lib.hid (HG.out.good.recv (k := (k : Int)) hsl hql (Ne.symm hqs) (by omega) (by rw [hm]; exact HK.out) (by have := HG.out.ev q hql; omega) (by omega))
      have HRR := Lib.hid (restr_recv HG.out.good (s := s) (k := (k : Int)) hql (by rw [hm]; exact HK.out))
      have HVR := Lib.hid (valid_recv HG.out.good (a := ⟨s, k, q, nth p.len q + 1⟩) hql)
      have HLX := Lib.hid (show ((p.more q).send ⟨s, k, q, nth p.len q + 1⟩).len.length = p.len.length ∧ ((p.more q).send ⟨s, k, q, nth p.len q + 1⟩).arcs.length = p.arcs.length + 1 ∧ nth ((p.more q).send ⟨s, k, q, nth p.len q + 1⟩).len q = nth p.len q + 1 by
        refine ⟨by simp [Pat.more, Pat.send], by simp [Pat.more, Pat.send], ?_⟩
        show nth (p.more q).len q = _
        rw [nth_more hql]; simp)
      generalize hpx : (p.more q).send ⟨s, k, q, nth p.len q + 1⟩ = px at *
      clear hpx
      have hqs' : ((q : Int) != (s : Int)) = true := by simp; omega
      have HRA := Lib.hid (show (restr px p.len).len = p.len ∧ (restr px p.len).ck = p.ck ∧ (restr px p.len).arcs = p.arcs ++ [⟨s, k, q, 0⟩] by rw [HRR.out]; exact ⟨rfl, rfl, rfl⟩)
      clear HRR
      obtain ⟨bq, oq, eq, hfq⟩ := HPp.out.len.fc hql
      simp only at eq
      injection eq with eq; injection eq with eq eq2; subst eq; subst eq2
      obtain ⟨bx, ox, ex, hfx⟩ := HPX.out.2.len.fc (k := q) (by rw [HLX.out.1]; exact hql)
      simp only at ex
      subst ex
      rw [HLX.out.2.2] at hfx
      have hqx : (q : Int) < px.len.length := by rw [HLX.out.1]; exact hql'
      have hbq := HG.out.good.hi q hql
      have hbq0 := HG.out.good.lo q hql
      have e1 : ((px.len.length : Int) != (p.len.length : Int)) = false := by rw [HLX.out.1]; simp
      have e2 : ((px.arcs.length : Int) != (p.arcs.length : Int) + 1) = false := by rw [HLX.out.2.1]; simp
      generalize hmq : nth p.len q = mq at *
      go_wp2_with (first | (refine oL ?_; (first | refine sL1 hS rfl rfl rfl ?_ | refine sL2 hS rfl rfl rfl ?_ | refine sL3 hS rfl rfl ?_ | refine sL4 hS rfl rfl ?_ | refine sL5 hS rfl rfl ?_ | refine sL6 hS rfl rfl ?_ | refine sL7 hS rfl rfl ?_)) | (refine oS ?_; ((first | refine sS1 hS rfl rfl rfl ?_ | refine sS2 hS rfl rfl rfl ?_ | refine sS3 hS rfl rfl rfl ?_ | refine sS4 hS rfl rfl rfl ?_ | refine sS5 hS rfl rfl rfl ?_); clear hS; intro w hS)) | ((first | refine sN1 hS rfl ?_); clear hS; first | ((fail_if_success guard_hyp g1); intro g1 w hS) | ((fail_if_success guard_hyp g2); intro g2 w hS) | ((fail_if_success guard_hyp g3); intro g3 w hS) | ((fail_if_success guard_hyp g4); intro g4 w hS) | ((fail_if_success guard_hyp g5); intro g5 w hS) | fail) | fail)
      refine dr_start0 []  hS (by kernel_rfl) rfl ?_; clear hS; intro w hS
      first | refine dL1 hS 0 rfl rfl rfl rfl ?_ | refine dL2 hS 0 rfl rfl rfl rfl ?_ | refine dL3 hS 0 rfl rfl rfl ?_ | refine dL4 hS 0 rfl rfl rfl ?_ | refine dL5 hS 0 rfl rfl rfl ?_ | refine dL6 hS 0 rfl rfl rfl ?_ | refine dL7 hS 0 rfl rfl rfl ?_
      (try simp only [Act.put, nA, nB, nC])
      refine dr_one 1 (by kernel_rfl) rfl ?_
      (refine st_call rfl (by kernel_rfl) rfl ?_; go_at_call 43; refine (check_n rfl rfl rfl (HPX.out.2.into hS.frozInto) HGX.out).mono ?_; rintro e w ⟨rfl, hx1⟩; replace hS := hS.ext hx1)
      (try simp only [Act.put, nA, nB, nC])
      refine dr_end hS ?_
      refine dP hS 2 rfl rfl ?_
      (try simp only [Act.put, nA, nB, nC])
      refine dM hS 3 rfl rfl rfl ?_
      (try simp only [Act.put, nA, nB, nC])
      first | refine dP hS 4 rfl rfl ?_ | refine dQ hS 4 rfl rfl ?_
      (try simp only [Act.put, nA, nB, nC])
      first | refine dL1 hS 5 rfl rfl rfl rfl ?_ | refine dL2 hS 5 rfl rfl rfl rfl ?_ | refine dL3 hS 5 rfl rfl rfl ?_ | refine dL4 hS 5 rfl rfl rfl ?_ | refine dL5 hS 5 rfl rfl rfl ?_ | refine dL6 hS 5 rfl rfl rfl ?_ | refine dL7 hS 5 rfl rfl rfl ?_ | refine dQ hS 5 rfl rfl ?_
      (try simp only [Act.put, nA, nB, nC])
      first | refine dP hS 6 rfl rfl ?_ | refine dQ hS 6 rfl rfl ?_
      (try simp only [Act.put, nA, nB, nC])
      first | refine dM hS 7 rfl rfl rfl ?_ | refine dQ hS 7 rfl rfl ?_
      (try simp only [Act.put, nA, nB, nC])
      first | refine dP hS 8 rfl rfl ?_ | refine dQ hS 8 rfl rfl ?_
      (try simp only [Act.put, nA, nB, nC])
      refine dP hS 9 rfl rfl ?_
      (try simp only [Act.put, nA, nB, nC])
      refine dM hS 10 rfl rfl rfl ?_
      (try simp only [Act.put, nA, nB, nC])
      first | refine dP hS 11 rfl rfl ?_ | refine dQ hS 11 rfl rfl ?_
      (try simp only [Act.put, nA, nB, nC])
      first | refine dL1 hS 12 rfl rfl rfl rfl ?_ | refine dL2 hS 12 rfl rfl rfl rfl ?_ | refine dL3 hS 12 rfl rfl rfl ?_ | refine dL4 hS 12 rfl rfl rfl ?_ | refine dL5 hS 12 rfl rfl rfl ?_ | refine dL6 hS 12 rfl rfl rfl ?_ | refine dL7 hS 12 rfl rfl rfl ?_ | refine dQ hS 12 rfl rfl ?_
      (try simp only [Act.put, nA, nB, nC])
      first | refine dM hS 13 rfl rfl rfl ?_ | refine dQ hS 13 rfl rfl ?_
      (try simp only [Act.put, nA, nB, nC])
      first | refine dP hS 14 rfl rfl ?_ | refine dQ hS 14 rfl rfl ?_
      (try simp only [Act.put, nA, nB, nC])
      first | refine dL1 hS 15 rfl rfl rfl rfl ?_ | refine dL2 hS 15 rfl rfl rfl rfl ?_ | refine dL3 hS 15 rfl rfl rfl ?_ | refine dL4 hS 15 rfl rfl rfl ?_ | refine dL5 hS 15 rfl rfl rfl ?_ | refine dL6 hS 15 rfl rfl rfl ?_ | refine dL7 hS 15 rfl rfl rfl ?_ | refine dQ hS 15 rfl rfl ?_
      (try simp only [Act.put, nA, nB, nC])
      first | refine dP hS 16 rfl rfl ?_ | refine dQ hS 16 rfl rfl ?_
      (try simp only [Act.put, nA, nB, nC])
      first | refine dL1 hS 17 rfl rfl rfl rfl ?_ | refine dL2 hS 17 rfl rfl rfl rfl ?_ | refine dL3 hS 17 rfl rfl rfl ?_ | refine dL4 hS 17 rfl rfl rfl ?_ | refine dL5 hS 17 rfl rfl rfl ?_ | refine dL6 hS 17 rfl rfl rfl ?_ | refine dL7 hS 17 rfl rfl rfl ?_ | refine dQ hS 17 rfl rfl ?_
      (try simp only [Act.put, nA, nB, nC])
      first | refine dM hS 18 rfl rfl rfl ?_ | refine dQ hS 18 rfl rfl ?_
      (try simp only [Act.put, nA, nB, nC])
      first | refine dP hS 19 rfl rfl ?_ | refine dQ hS 19 rfl rfl ?_
      (try simp only [Act.put, nA, nB, nC])
      first | refine dL1 hS 20 rfl rfl rfl rfl ?_ | refine dL2 hS 20 rfl rfl rfl rfl ?_ | refine dL3 hS 20 rfl rfl rfl ?_ | refine dL4 hS 20 rfl rfl rfl ?_ | refine dL5 hS 20 rfl rfl rfl ?_ | refine dL6 hS 20 rfl rfl rfl ?_ | refine dL7 hS 20 rfl rfl rfl ?_ | refine dQ hS 20 rfl rfl ?_
      (try simp only [Act.put, nA, nB, nC])
      first | refine dP hS 21 rfl rfl ?_ | refine dQ hS 21 rfl rfl ?_
      (try simp only [Act.put, nA, nB, nC])
      first | refine dP hS 22 rfl rfl ?_ | refine dQ hS 22 rfl rfl ?_
      (try simp only [Act.put, nA, nB, nC])
      refine dP hS 23 rfl rfl ?_
      (try simp only [Act.put, nA, nB, nC])
      refine dM hS 24 rfl rfl rfl ?_
      (try simp only [Act.put, nA, nB, nC])
      first | refine dP hS 25 rfl rfl ?_ | refine dQ hS 25 rfl rfl ?_
      (try simp only [Act.put, nA, nB, nC])
      first | refine dL1 hS 26 rfl rfl rfl rfl ?_ | refine dL2 hS 26 rfl rfl rfl rfl ?_ | refine dL3 hS 26 rfl rfl rfl ?_ | refine dL4 hS 26 rfl rfl rfl ?_ | refine dL5 hS 26 rfl rfl rfl ?_ | refine dL6 hS 26 rfl rfl rfl ?_ | refine dL7 hS 26 rfl rfl rfl ?_ | refine dQ hS 26 rfl rfl ?_
      (try simp only [Act.put, nA, nB, nC])
      first | refine dP hS 27 rfl rfl ?_ | refine dQ hS 27 rfl rfl ?_
      (try simp only [Act.put, nA, nB, nC])
      first | refine dP hS 28 rfl rfl ?_ | refine dQ hS 28 rfl rfl ?_
      (try simp only [Act.put, nA, nB, nC])
      first | refine dL1 hS 29 rfl rfl rfl rfl ?_ | refine dL2 hS 29 rfl rfl rfl rfl ?_ | refine dL3 hS 29 rfl rfl rfl ?_ | refine dL4 hS 29 rfl rfl rfl ?_ | refine dL5 hS 29 rfl rfl rfl ?_ | refine dL6 hS 29 rfl rfl rfl ?_ | refine dL7 hS 29 rfl rfl rfl ?_ | refine dQ hS 29 rfl rfl ?_
      (try simp only [Act.put, nA, nB, nC])
      first | refine dP hS 30 rfl rfl ?_ | refine dQ hS 30 rfl rfl ?_
      (try simp only [Act.put, nA, nB, nC])
      first | refine dP hS 31 rfl rfl ?_ | refine dQ hS 31 rfl rfl ?_
      (try simp only [Act.put, nA, nB, nC])
      first | refine dP hS 32 rfl rfl ?_ | refine dQ hS 32 rfl rfl ?_
      (try simp only [Act.put, nA, nB, nC])
      refine dP hS 33 rfl rfl ?_
      (try simp only [Act.put, nA, nB, nC])
      refine dr_done (by kernel_rfl) ?_
      clear hfx e1 e2 hqx
      generalize hrp : restr px p.len = rp at *
      have HRPL := Lib.hid (show rp.arcs.length = p.arcs.length + 1 by rw [HRA.out.2.2]; simp)
      go_wp2_with (first | (go_at_call 39; refine (restrict_n rfl rfl rfl rfl (HPX.out.2.into hS.frozInto) HGX.out (HPX.out.1.len.into hS.frozInto) HVR.out).mono ?_; rw [hrp]; rintro e w ⟨⟨E1, h1, E2, h2, E3, h3⟩, rfl, hp1, hx1⟩; simp only [PV.val]; obtain ⟨T1, hS1, hi1, hi0⟩ := hS.grow hx1; clear hS; have hS := hS1; clear hS1; replace HPp := Lib.hid (HPp.out.into hi0); have HPr := Lib.hid (hp1.into hi1); obtain ⟨be, oe, ee, _⟩ := HPr.out.arcs.fcs (k := 0) (by rw [HRPL.out]; omega); simp only at ee; subst ee; have hrlt : ¬ ((rp.arcs.length : Int) < (p.arcs.length : Int)) := (by rw [HRPL.out]; omega); have hh3 := HPr.out.l3; have hh3' := HPr.out.m3; simp only at hh3 hh3'; have hhc : p.arcs.length ≤ h3 := (by have := HRPL.out; omega); have hhc' : (p.arcs.length : Int) ≤ (h3 : Int) := (by omega)) | (refine oL ?_; (first | refine sL1 hS rfl rfl rfl ?_ | refine sL2 hS rfl rfl rfl ?_ | refine sL3 hS rfl rfl ?_ | refine sL4 hS rfl rfl ?_ | refine sL5 hS rfl rfl ?_ | refine sL6 hS rfl rfl ?_ | refine sL7 hS rfl rfl ?_)) | (refine oS ?_; ((first | refine sS1 hS rfl rfl rfl ?_ | refine sS2 hS rfl rfl rfl ?_ | refine sS3 hS rfl rfl rfl ?_ | refine sS4 hS rfl rfl rfl ?_ | refine sS5 hS rfl rfl rfl ?_); clear hS; intro w hS)) | ((first | refine sN1 hS rfl ?_); clear hS; first | ((fail_if_success guard_hyp g1); intro g1 w hS) | ((fail_if_success guard_hyp g2); intro g2 w hS) | ((fail_if_success guard_hyp g3); intro g3 w hS) | ((fail_if_success guard_hyp g4); intro g4 w hS) | ((fail_if_success guard_hyp g5); intro g5 w hS) | fail) | fail)
      have HPs := Lib.hid (HPr.out.cutBack HRA.out hhc)
      go_at_call 22
      refine (same_n (p := p) (by rw [HRA.out.1]) (by rw [HRA.out.2.1]) rfl rfl rfl rfl (HPs.out.into hS.frozInto) (HPp.out.into hS.frozInto) HG.out.good.fits).mono ?_
      rintro e w ⟨rfl, hx1⟩
      replace hS := hS.ext hx1
      clear HPs hrlt hhc hhc' hh3 hh3'
      simp only [List.set_cons_zero, List.set_cons_succ] at hS
      go_wp2_with (first | (go_at_call 23; refine (mark_m (q := (q : Int)) rfl rfl rfl (HPp.out.into hS.frozInto) HG.out.good).mono ?_; rw [HMK.out]; rintro e w ⟨⟨M1, m1, M2, m2, M3, m3⟩, rfl, hp1, hx1⟩; simp only [PV.val]; obtain ⟨T1, hS1, hi1, hi0⟩ := hS.grow hx1; clear hS; have hS := hS1; clear hS1; replace HPp := Lib.hid (HPp.out.into hi0); have HPm := Lib.hid (hp1.into hi1)) | (refine oL ?_; (first | refine sL1 hS rfl rfl rfl ?_ | refine sL2 hS rfl rfl rfl ?_ | refine sL3 hS rfl rfl ?_ | refine sL4 hS rfl rfl ?_ | refine sL5 hS rfl rfl ?_ | refine sL6 hS rfl rfl ?_ | refine sL7 hS rfl rfl ?_)) | (refine oS ?_; ((first | refine sS1 hS rfl rfl rfl ?_ | refine sS2 hS rfl rfl rfl ?_ | refine sS3 hS rfl rfl rfl ?_ | refine sS4 hS rfl rfl rfl ?_ | refine sS5 hS rfl rfl rfl ?_); clear hS; intro w hS)) | ((first | refine sN1 hS rfl ?_); clear hS; first | ((fail_if_success guard_hyp g1); intro g1 w hS) | ((fail_if_success guard_hyp g2); intro g2 w hS) | ((fail_if_success guard_hyp g3); intro g3 w hS) | ((fail_if_success guard_hyp g4); intro g4 w hS) | ((fail_if_success guard_hyp g5); intro g5 w hS) | fail) | fail)
      have hcl := HCL.out
      obtain ⟨bm, om, Bm, cm, em, hfm, hBm, hcm, hcm'⟩ := HPm.out.ck.fc (k := q) HQM.out
      simp only at em
      subst em
      obtain ⟨bl, ol, el, hfl⟩ := hBm.fc (k := (rowOf pm.ck q).length - 1) (by have := HLAST.out.1; omega)
      subst el
      rw [HLAST.out.2] at hfl
      clear hfq
      obtain ⟨bq, oq, eq, hfq⟩ := HPp.out.len.fc hql
      simp only at eq
      injection eq with eq; injection eq with eq eq2; subst eq; subst eq2
      rw [hmq] at hfq
      have hpos := HLAST.out.1
      have hlen := HRLEN.out
      have hqm' : (q : Int) < pm.ck.length := by have := HQM.out; omega
      generalize hlm : (rowOf pm.ck q).length = lm at *
      clear hlm
      obtain ⟨lk, rfl⟩ : ∃ lk : Nat, lm = lk + 1 := ⟨lm - 1, by omega⟩
      have hlk : (lk : Int) < (lk : Int) + 1 := by omega
      rw [Nat.add_sub_cancel] at hfl
      have hle1 : ((pm.ck.length : Int) == (p.len.length : Int)) = true := by rw [hcl]; simp
      clear hcl
      refine dr_start0 []  hS (by kernel_rfl) rfl ?_; clear hS; intro w hS
      first | refine dL1 hS 0 rfl rfl rfl rfl ?_ | refine dL2 hS 0 rfl rfl rfl rfl ?_ | refine dL3 hS 0 rfl rfl rfl ?_ | refine dL4 hS 0 rfl rfl rfl ?_ | refine dL5 hS 0 rfl rfl rfl ?_ | refine dL6 hS 0 rfl rfl rfl ?_ | refine dL7 hS 0 rfl rfl rfl ?_
      (try simp only [Act.put, nA, nB, nC])
      refine dr_one 1 (by kernel_rfl) rfl ?_
      (refine st_call rfl (by kernel_rfl) rfl ?_; go_at_call 43; refine (check_n rfl rfl rfl (HPm.out.into hS.frozInto) HGM.out).mono ?_; rintro e w ⟨rfl, hx1⟩; replace hS := hS.ext hx1)
      (try simp only [Act.put, nA, nB, nC])
      refine dr_end hS ?_
      refine dP hS 2 rfl rfl ?_
      (try simp only [Act.put, nA, nB, nC])
      refine dM hS 3 rfl rfl rfl ?_
      (try simp only [Act.put, nA, nB, nC])
      first | refine dL1 hS 4 rfl rfl rfl rfl ?_ | refine dL2 hS 4 rfl rfl rfl rfl ?_ | refine dL3 hS 4 rfl rfl rfl ?_ | refine dL4 hS 4 rfl rfl rfl ?_ | refine dL5 hS 4 rfl rfl rfl ?_ | refine dL6 hS 4 rfl rfl rfl ?_ | refine dL7 hS 4 rfl rfl rfl ?_ | refine dQ hS 4 rfl rfl ?_
      (try simp only [Act.put, nA, nB, nC])
      first | refine dM hS 5 rfl rfl rfl ?_ | refine dQ hS 5 rfl rfl ?_
      (try simp only [Act.put, nA, nB, nC])
      first | refine dL1 hS 7 rfl rfl rfl rfl ?_ | refine dL2 hS 7 rfl rfl rfl rfl ?_ | refine dL3 hS 7 rfl rfl rfl ?_ | refine dL4 hS 7 rfl rfl rfl ?_ | refine dL5 hS 7 rfl rfl rfl ?_ | refine dL6 hS 7 rfl rfl rfl ?_ | refine dL7 hS 7 rfl rfl rfl ?_ | refine dQ hS 7 rfl rfl ?_
      (try simp only [Act.put, nA, nB, nC])
      refine dr_one 6 (by kernel_rfl) rfl ?_
      (refine st_call rfl (by kernel_rfl) rfl ?_; go_at_call 23; refine (mark_m (q := (q : Int)) rfl rfl rfl (HPm.out.into hS.frozInto) HGM.out).mono ?_; rw [HMA.out]; rintro e w ⟨⟨N1, n1, N2, n2, N3, n3⟩, rfl, hp1, hx1⟩; simp only [PV.val]; obtain ⟨N1, hS1, hi1, hi0⟩ := hS.grow2 hx1; clear hS; have hS := hS1; clear hS1; have HPn := Lib.hid (hp1.into hi1); generalize hu1 : w = u1 at *)
      (try simp only [Act.put, nA, nB, nC])
      refine dr_end hS ?_
      refine dr_one 8 (by kernel_rfl) rfl ?_
      (refine st_call rfl (by kernel_rfl) rfl ?_; go_at_call 22; refine (same_n (p := pm) rfl rfl rfl rfl rfl rfl (HPn.out.into (hS.intoBoth hi0)) (HPm.out.into hS.intoK) HGM.out.fits).mono ?_; rintro e w ⟨rfl, hx1⟩; replace hS := hS.ext hx1)
      (try simp only [Act.put, nA, nB, nC])
      refine dr_end hS ?_
      refine dP hS 9 rfl rfl ?_
      (try simp only [Act.put, nA, nB, nC])
      refine dM hS 10 rfl rfl rfl ?_
      (try simp only [Act.put, nA, nB, nC])
      first | refine dP hS 11 rfl rfl ?_ | refine dQ hS 11 rfl rfl ?_
      (try simp only [Act.put, nA, nB, nC])
      first | refine dL1 hS 12 rfl rfl rfl rfl ?_ | refine dL2 hS 12 rfl rfl rfl rfl ?_ | refine dL3 hS 12 rfl rfl rfl ?_ | refine dL4 hS 12 rfl rfl rfl ?_ | refine dL5 hS 12 rfl rfl rfl ?_ | refine dL6 hS 12 rfl rfl rfl ?_ | refine dL7 hS 12 rfl rfl rfl ?_ | refine dQ hS 12 rfl rfl ?_
      (try simp only [Act.put, nA, nB, nC])
      first | refine dP hS 13 rfl rfl ?_ | refine dQ hS 13 rfl rfl ?_
      (try simp only [Act.put, nA, nB, nC])
      first | refine dM hS 14 rfl rfl rfl ?_ | refine dQ hS 14 rfl rfl ?_
      (try simp only [Act.put, nA, nB, nC])
      first | refine dP hS 15 rfl rfl ?_ | refine dQ hS 15 rfl rfl ?_
      (try simp only [Act.put, nA, nB, nC])
      refine dP hS 16 rfl rfl ?_
      (try simp only [Act.put, nA, nB, nC])
      refine dM hS 17 rfl rfl rfl ?_
      (try simp only [Act.put, nA, nB, nC])
      first | refine dP hS 18 rfl rfl ?_ | refine dQ hS 18 rfl rfl ?_
      (try simp only [Act.put, nA, nB, nC])
      first | refine dL1 hS 19 rfl rfl rfl rfl ?_ | refine dL2 hS 19 rfl rfl rfl rfl ?_ | refine dL3 hS 19 rfl rfl rfl ?_ | refine dL4 hS 19 rfl rfl rfl ?_ | refine dL5 hS 19 rfl rfl rfl ?_ | refine dL6 hS 19 rfl rfl rfl ?_ | refine dL7 hS 19 rfl rfl rfl ?_ | refine dQ hS 19 rfl rfl ?_
      (try simp only [Act.put, nA, nB, nC])
      first | refine dM hS 20 rfl rfl rfl ?_ | refine dQ hS 20 rfl rfl ?_
      (try simp only [Act.put, nA, nB, nC])
      first | refine dP hS 21 rfl rfl ?_ | refine dQ hS 21 rfl rfl ?_
      (try simp only [Act.put, nA, nB, nC])
      first | refine dL1 hS 22 rfl rfl rfl rfl ?_ | refine dL2 hS 22 rfl rfl rfl rfl ?_ | refine dL3 hS 22 rfl rfl rfl ?_ | refine dL4 hS 22 rfl rfl rfl ?_ | refine dL5 hS 22 rfl rfl rfl ?_ | refine dL6 hS 22 rfl rfl rfl ?_ | refine dL7 hS 22 rfl rfl rfl ?_ | refine dQ hS 22 rfl rfl ?_
      (try simp only [Act.put, nA, nB, nC])
      first | refine dP hS 23 rfl rfl ?_ | refine dQ hS 23 rfl rfl ?_
      (try simp only [Act.put, nA, nB, nC])
      first | refine dP hS 24 rfl rfl ?_ | refine dQ hS 24 rfl rfl ?_
      (try simp only [Act.put, nA, nB, nC])
      refine dP hS 25 rfl rfl ?_
      (try simp only [Act.put, nA, nB, nC])
      refine dM hS 26 rfl rfl rfl ?_
      (try simp only [Act.put, nA, nB, nC])
      first | refine dP hS 27 rfl rfl ?_ | refine dQ hS 27 rfl rfl ?_
      (try simp only [Act.put, nA, nB, nC])
      first | refine dL1 hS 28 rfl rfl rfl rfl ?_ | refine dL2 hS 28 rfl rfl rfl rfl ?_ | refine dL3 hS 28 rfl rfl rfl ?_ | refine dL4 hS 28 rfl rfl rfl ?_ | refine dL5 hS 28 rfl rfl rfl ?_ | refine dL6 hS 28 rfl rfl rfl ?_ | refine dL7 hS 28 rfl rfl rfl ?_ | refine dQ hS 28 rfl rfl ?_
      (try simp only [Act.put, nA, nB, nC])
      first | refine dM hS 29 rfl rfl rfl ?_ | refine dQ hS 29 rfl rfl ?_
      (try simp only [Act.put, nA, nB, nC])
      first | refine dP hS 30 rfl rfl ?_ | refine dQ hS 30 rfl rfl ?_
      (try simp only [Act.put, nA, nB, nC])
      first | refine dL1 hS 31 rfl rfl rfl rfl ?_ | refine dL2 hS 31 rfl rfl rfl rfl ?_ | refine dL3 hS 31 rfl rfl rfl ?_ | refine dL4 hS 31 rfl rfl rfl ?_ | refine dL5 hS 31 rfl rfl rfl ?_ | refine dL6 hS 31 rfl rfl rfl ?_ | refine dL7 hS 31 rfl rfl rfl ?_ | refine dQ hS 31 rfl rfl ?_
      (try simp only [Act.put, nA, nB, nC])
      first | refine dP hS 32 rfl rfl ?_ | refine dQ hS 32 rfl rfl ?_
      (try simp only [Act.put, nA, nB, nC])
      first | refine dL1 hS 33 rfl rfl rfl rfl ?_ | refine dL2 hS 33 rfl rfl rfl rfl ?_ | refine dL3 hS 33 rfl rfl rfl ?_ | refine dL4 hS 33 rfl rfl rfl ?_ | refine dL5 hS 33 rfl rfl rfl ?_ | refine dL6 hS 33 rfl rfl rfl ?_ | refine dL7 hS 33 rfl rfl rfl ?_ | refine dQ hS 33 rfl rfl ?_
      (try simp only [Act.put, nA, nB, nC])
      first | refine dM hS 34 rfl rfl rfl ?_ | refine dQ hS 34 rfl rfl ?_
      (try simp only [Act.put, nA, nB, nC])
      first | refine dP hS 35 rfl rfl ?_ | refine dQ hS 35 rfl rfl ?_
      (try simp only [Act.put, nA, nB, nC])
      first | refine dL1 hS 36 rfl rfl rfl rfl ?_ | refine dL2 hS 36 rfl rfl rfl rfl ?_ | refine dL3 hS 36 rfl rfl rfl ?_ | refine dL4 hS 36 rfl rfl rfl ?_ | refine dL5 hS 36 rfl rfl rfl ?_ | refine dL6 hS 36 rfl rfl rfl ?_ | refine dL7 hS 36 rfl rfl rfl ?_ | refine dQ hS 36 rfl rfl ?_
      (try simp only [Act.put, nA, nB, nC])
      first | refine dP hS 37 rfl rfl ?_ | refine dQ hS 37 rfl rfl ?_
      (try simp only [Act.put, nA, nB, nC])
      first | refine dP hS 38 rfl rfl ?_ | refine dQ hS 38 rfl rfl ?_
      (try simp only [Act.put, nA, nB, nC])
      first | refine dP hS 39 rfl rfl ?_ | refine dQ hS 39 rfl rfl ?_
      (try simp only [Act.put, nA, nB, nC])
      first | refine dL1 hS 40 rfl rfl rfl rfl ?_ | refine dL2 hS 40 rfl rfl rfl rfl ?_ | refine dL3 hS 40 rfl rfl rfl ?_ | refine dL4 hS 40 rfl rfl rfl ?_ | refine dL5 hS 40 rfl rfl rfl ?_ | refine dL6 hS 40 rfl rfl rfl ?_ | refine dL7 hS 40 rfl rfl rfl ?_ | refine dQ hS 40 rfl rfl ?_
      (try simp only [Act.put, nA, nB, nC])
      first | refine dP hS 41 rfl rfl ?_ | refine dQ hS 41 rfl rfl ?_
      (try simp only [Act.put, nA, nB, nC])
      first | refine dL1 hS 42 rfl rfl rfl rfl ?_ | refine dL2 hS 42 rfl rfl rfl rfl ?_ | refine dL3 hS 42 rfl rfl rfl ?_ | refine dL4 hS 42 rfl rfl rfl ?_ | refine dL5 hS 42 rfl rfl rfl ?_ | refine dL6 hS 42 rfl rfl rfl ?_ | refine dL7 hS 42 rfl rfl rfl ?_ | refine dQ hS 42 rfl rfl ?_
      (try simp only [Act.put, nA, nB, nC])
      first | refine dM hS 43 rfl rfl rfl ?_ | refine dQ hS 43 rfl rfl ?_
      (try simp only [Act.put, nA, nB, nC])
      first | refine dP hS 44 rfl rfl ?_ | refine dQ hS 44 rfl rfl ?_
      (try simp only [Act.put, nA, nB, nC])
      first | refine dL1 hS 45 rfl rfl rfl rfl ?_ | refine dL2 hS 45 rfl rfl rfl rfl ?_ | refine dL3 hS 45 rfl rfl rfl ?_ | refine dL4 hS 45 rfl rfl rfl ?_ | refine dL5 hS 45 rfl rfl rfl ?_ | refine dL6 hS 45 rfl rfl rfl ?_ | refine dL7 hS 45 rfl rfl rfl ?_ | refine dQ hS 45 rfl rfl ?_
      (try simp only [Act.put, nA, nB, nC])
      first | refine dP hS 46 rfl rfl ?_ | refine dQ hS 46 rfl rfl ?_
      (try simp only [Act.put, nA, nB, nC])
      refine dP hS 47 rfl rfl ?_
      (try simp only [Act.put, nA, nB, nC])
      refine dA hS 48 rfl rfl rfl ?_
      (try simp only [Act.put, nA, nB, nC])
      refine dr_done (by kernel_rfl) ?_
      all_goals
        go_wp2_with (first | (refine oL ?_; (first | refine sL1 hS rfl rfl rfl ?_ | refine sL2 hS rfl rfl rfl ?_ | refine sL3 hS rfl rfl ?_ | refine sL4 hS rfl rfl ?_ | refine sL5 hS rfl rfl ?_ | refine sL6 hS rfl rfl ?_ | refine sL7 hS rfl rfl ?_)) | (refine oS ?_; ((first | refine sS1 hS rfl rfl rfl ?_ | refine sS2 hS rfl rfl rfl ?_ | refine sS3 hS rfl rfl rfl ?_ | refine sS4 hS rfl rfl rfl ?_ | refine sS5 hS rfl rfl rfl ?_); clear hS; intro w hS)) | ((first | refine sN1 hS rfl ?_); clear hS; first | ((fail_if_success guard_hyp g1); intro g1 w hS) | ((fail_if_success guard_hyp g2); intro g2 w hS) | ((fail_if_success guard_hyp g3); intro g3 w hS) | ((fail_if_success guard_hyp g4); intro g4 w hS) | ((fail_if_success guard_hyp g5); intro g5 w hS) | fail) | fail)
        go_ret
        exact ⟨ret_bool (by simp), hS.toExt⟩
open Go.ChangeShapes Go.WideShapes Go.ChangeAt
set_option maxRecDepth 100000 in
theorem lifted_PatternStays (os : Os) (started : os.Started) (H : Type) (enc : TypeId × Value → H) :
    ReturnsInHanded {} Try.checked os 10 .any (Rows.patternStaysSpec.pre6 enc Try.prog Try.f10 Rows.patternStaysRow.domain false) (Rows.patternStaysSpec.post enc Try.prog Try.f10 false true false false) := by
  refine law_lifted (C := Try.checked) (s := Rows.patternStaysSpec) (tb := 4) (by kernel_rfl) started (by kernel_rfl) Try.func10
      (ChangeSpec.witness6 (enc := enc) (C := Try.checked) false ⟨#[], #[.slice none 0 0, .int .u8 0, .int .u8 0, .int .u8 0], []⟩ 8 (by kernel_rfl) (by kernel_rfl) (by kernel_rfl) (by kernel_rfl))
      (by kernel_rfl) rfl rfl Try.underlying4 (read_of (by kernel_rfl)) ?_ ?_
  · intro ds hl
    match ds, hl with
    | [d0, d1, d2, d3], _ => exact ⟨rfl, rfl, rfl⟩
  · intro W base args ds p hval0 hA0
    have hval : ∀ (j : Nat) t v, Try.f10.params[j]? = some t → args[j]? = some v → Value.okWide Try.prog W .any base t v := hval0
    have hA : DataW.TrodAll enc Try.prog W 0 (fun _ => true) true Try.f10.params.toList args.toList ds p := hA0
    clear hA0 hval0
    rw [Try.params10] at hA hval
    obtain ⟨v0, v1, v2, v3, d0, d1, d2, d3, p0, p1, p2, p3, rfl, rfl, rfl, h0, h1, h2, h3⟩ := trodAll_four hA
    obtain ⟨A, c, xs, rfl, hri, hc, hc', hwf⟩ := open_nums Try.underlying22 Try.underlying5 (by kernel_rfl) (hval 0 _ v0 rfl rfl) h0
    obtain ⟨x1, rfl, _, _, hz1⟩ := open_int Try.underlying5 (hval 1 _ v1 rfl rfl) h1
    obtain ⟨x2, rfl, _, _, hz2⟩ := open_int Try.underlying5 (hval 2 _ v2 rfl rfl) h2
    obtain ⟨x3, rfl, _, _, hz3⟩ := open_int Try.underlying5 (hval 3 _ v3 rfl rfl) h3
    have hb1 := u8_bd hz1
    have hb2 := u8_bd hz2
    have hb3 := u8_bd hz3
    obtain ⟨z1, rfl⟩ : ∃ zn : Nat, x1 = zn := ⟨x1.toNat, by omega⟩
    obtain ⟨z2, rfl⟩ : ∃ zn : Nat, x2 = zn := ⟨x2.toNat, by omega⟩
    obtain ⟨z3, rfl⟩ : ∃ zn : Nat, x3 = zn := ⟨x3.toNat, by omega⟩
    exact patternStays_any A c xs z1 z2 z3 W hri hc hc' (fun b hb => u8_bd (hwf b hb)) (by omega) (by omega) (by omega)
/-- PatternStays returns true for every input, and leaves its arguments as they were. -/
theorem proved_PatternStays : Rows.PatternStaysSaid :=
  OpenClaim.holds_of_wide 10 Try.f10 rfl rfl rfl rfl rfl rfl rfl ⟨rfl, rfl, rfl, rfl, rfl⟩ rfl rfl rfl rfl rfl (by kernel_rfl) Try.func10 (by kernel_rfl)
    (of_decide_eq_true (by kernel_rfl)) (by unfold Func.isWrapper; rw [if_neg (by decide +kernel)]; exact ⟨rfl, rfl⟩)
    (fun os started H enc _ => lifted_PatternStays os started H enc)
end Go.Proofs.Ytjclgbkfnliiaaa
