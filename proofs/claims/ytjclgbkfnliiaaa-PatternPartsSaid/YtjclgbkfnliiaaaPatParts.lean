/- PatternParts returns true for every input. No condition. -/
import Derived.Test.YtjclgbkfnliiaaaPatLaw2
namespace Go.Proofs.Ytjclgbkfnliiaaa
open Go.RowKit
set_option linter.unusedVariables false
set_option linter.unusedSimpArgs false

set_option maxRecDepth 100000 in
set_option maxHeartbeats 3200000 in
theorem patternParts_any (C : Option Addr) (f : Nat) (bs : List Int) (z : Int) (w0 : World) (hbs : RV (fun b => b < w0.heap.size) w0 C (bytes bs)) (hf : bs.length ≤ f) (hf' : f ≤ 9223372036854775807) (hby : ∀ b ∈ bs, 0 ≤ b ∧ b ≤ 255) :
    Calls Try.prog 11 #[.slice C bs.length f, .int .i64 z] w0 fun e w' => e = .returned (.bool true) ∧ Ext w0 w' := by
  have hS := St.start w0 NoM
  have HB := Lib.hid (And.intro hby (RV.sub (S' := Froz w0 NoM) hbs (fun k hk => ⟨hk, id⟩)))
  clear hby hbs
  go_enter Try.func11, Try.ntmps11
  go_wp2_with (first | (go_at_call 15; refine (awake16_any _).mono ?_; rintro e w ⟨rfl, hx1⟩; replace hS := hS.ext hx1) | (refine oL ?_; (first | refine sL1 hS rfl rfl rfl ?_ | refine sL2 hS rfl rfl rfl ?_ | refine sL3 hS rfl rfl ?_ | refine sL4 hS rfl rfl ?_ | refine sL5 hS rfl rfl ?_ | refine sL6 hS rfl rfl ?_ | refine sL7 hS rfl rfl ?_)) | (refine oS ?_; ((first | refine sS1 hS rfl rfl rfl ?_ | refine sS2 hS rfl rfl rfl ?_ | refine sS3 hS rfl rfl rfl ?_ | refine sS4 hS rfl rfl rfl ?_ | refine sS5 hS rfl rfl rfl ?_); clear hS; intro w hS)) | ((first | refine sN1 hS rfl ?_); clear hS; first | ((fail_if_success guard_hyp g1); intro g1 w hS) | ((fail_if_success guard_hyp g2); intro g2 w hS) | fail) | fail)
  refine (new_st (m := 240) hS (by omega) HB.out.2 hf hf' HB.out.1).mono ?_
  rintro e w ⟨gc, κ, rfl, hS⟩
  clear HB
  generalize bs.take 240 = r at *
  go_wp2_with (first | (refine oL ?_; (first | refine sL1 hS rfl rfl rfl ?_ | refine sL2 hS rfl rfl rfl ?_ | refine sL3 hS rfl rfl ?_ | refine sL4 hS rfl rfl ?_ | refine sL5 hS rfl rfl ?_ | refine sL6 hS rfl rfl ?_ | refine sL7 hS rfl rfl ?_)) | (refine oS ?_; ((first | refine sS1 hS rfl rfl rfl ?_ | refine sS2 hS rfl rfl rfl ?_ | refine sS3 hS rfl rfl rfl ?_ | refine sS4 hS rfl rfl rfl ?_ | refine sS5 hS rfl rfl rfl ?_); clear hS; intro w hS)) | ((first | refine sN1 hS rfl ?_); clear hS; first | ((fail_if_success guard_hyp g1); intro g1 w hS) | ((fail_if_success guard_hyp g2); intro g2 w hS) | fail) | fail)
  refine (pattern_st (m := 20) hS rfl (by omega)).mono ?_
  rintro e w ⟨v, p, r1, T, rfl, hsm, hpa, hS⟩
  have HP := Lib.hid (And.intro hsm hpa)
  have e1 := hsm.good.ckl
  have hn5 := hsm.good.n5
  obtain ⟨A1, c1, A2, c2, A3, c3⟩ := v
  simp only [PV.val]
  have HE := Lib.hid e1
  have hn2 := hsm.good.n2
  have hfew := hsm.few
  clear hsm hpa e1
  generalize hu : w = u at *
  go_wp2_with (first | (refine oL ?_; (first | refine sL1 hS rfl rfl rfl ?_ | refine sL2 hS rfl rfl rfl ?_ | refine sL3 hS rfl rfl ?_ | refine sL4 hS rfl rfl ?_ | refine sL5 hS rfl rfl ?_ | refine sL6 hS rfl rfl ?_ | refine sL7 hS rfl rfl ?_)) | (refine oS ?_; ((first | refine sS1 hS rfl rfl rfl ?_ | refine sS2 hS rfl rfl rfl ?_ | refine sS3 hS rfl rfl rfl ?_ | refine sS4 hS rfl rfl rfl ?_ | refine sS5 hS rfl rfl rfl ?_); clear hS; intro w hS)) | ((first | refine sN1 hS rfl ?_); clear hS; first | ((fail_if_success guard_hyp g1); intro g1 w hS) | ((fail_if_success guard_hyp g2); intro g2 w hS) | fail) | fail)
  refine (cut_st hS rfl (HP.out.2.len.into hS.frozInto) (hS.frozNe (κ := κ) (r := r1)) hn5 HP.out.1.good.all).mono ?_
  rintro e w ⟨X, cx, r2, rfl, hS⟩
  have HV := Lib.hid (cut_valid HP.out.1.good r1)
  generalize cutL r1 p.len = xs at *
  have hxl : xs.length = p.len.length := (valid_iff.1 HV.out).1
  have HX := Lib.hid hxl
  clear hxl
  have HPp := Lib.hid HP.out.2
  have HG := Lib.hid HP.out.1
  have hck5 : p.ck.length ≤ 5 := by rw [HE.out]; exact hn5
  clear HP
  go_wp2_with (first | (refine oL ?_; (first | refine sL1 hS rfl rfl rfl ?_ | refine sL2 hS rfl rfl rfl ?_ | refine sL3 hS rfl rfl ?_ | refine sL4 hS rfl rfl ?_ | refine sL5 hS rfl rfl ?_ | refine sL6 hS rfl rfl ?_ | refine sL7 hS rfl rfl ?_)) | (refine oS ?_; ((first | refine sS1 hS rfl rfl rfl ?_ | refine sS2 hS rfl rfl rfl ?_ | refine sS3 hS rfl rfl rfl ?_ | refine sS4 hS rfl rfl rfl ?_ | refine sS5 hS rfl rfl rfl ?_); clear hS; intro w hS)) | ((first | refine sN1 hS rfl ?_); clear hS; first | ((fail_if_success guard_hyp g1); intro g1 w hS) | ((fail_if_success guard_hyp g2); intro g2 w hS) | fail) | fail)
  go_loopw [22] (fun s22 wr => ∃ (q : Nat), q ≤ p.len.length ∧ s22 = .int .i64 q ∧ St w0 NoM [row (.slice X p.len.length cx) 3 1 p.len.length (ints xs), blk g1 [.slice A1 p.len.length c1, .slice A2 p.ck.length c2, .slice A3 p.arcs.length c3] 28, froz T u] wr) (fun s22 _ => p.len.length - (intOf s22).toNat)
  case atStart => exact ⟨0, by omega, rfl, hS.re⟩
  case round =>
    obtain ⟨q, hq, rfl, hS⟩ := hrel
    by_cases hql : q < p.len.length
    · have hqk : q < p.ck.length := by rw [HE.out]; exact hql
      have hql' : (q : Int) < p.len.length := by omega
      have hrl := HG.out.good.rowLen hql
      have hlo := HG.out.good.lo q hql
      have hhi := HG.out.good.hi q hql
      obtain ⟨b1, o1, e1, hfc1⟩ := HPp.out.len.fc hql
      simp only at e1
      subst e1
      generalize hm : nth p.len q = m at *
      go_wp2_with (first | (refine oL ?_; (first | refine sL1 hS rfl rfl rfl ?_ | refine sL2 hS rfl rfl rfl ?_ | refine sL3 hS rfl rfl ?_ | refine sL4 hS rfl rfl ?_ | refine sL5 hS rfl rfl ?_ | refine sL6 hS rfl rfl ?_ | refine sL7 hS rfl rfl ?_)) | (refine oS ?_; ((first | refine sS1 hS rfl rfl rfl ?_ | refine sS2 hS rfl rfl rfl ?_ | refine sS3 hS rfl rfl rfl ?_ | refine sS4 hS rfl rfl rfl ?_ | refine sS5 hS rfl rfl rfl ?_); clear hS; intro w hS)) | ((first | refine sN1 hS rfl ?_); clear hS; first | ((fail_if_success guard_hyp g1); intro g1 w hS) | ((fail_if_success guard_hyp g2); intro g2 w hS) | fail) | fail)
      go_loopw [9] (fun s9 wr => ∃ (k : Nat), (k : Int) ≤ m + 1 ∧ s9 = .int .i64 k ∧ St w0 NoM [row (.slice X p.len.length cx) 3 1 p.len.length (ints xs), blk g1 [.slice (some ⟨b1, o1, none⟩) p.len.length c1, .slice A2 p.ck.length c2, .slice A3 p.arcs.length c3] 28, froz T u] wr) (fun s9 _ => m.toNat + 1 - (intOf s9).toNat)
      case atStart => exact ⟨0, by omega, rfl, hS⟩
      case round =>
        obtain ⟨k, hkm, rfl, hS⟩ := hrel
        by_cases hlt : (k : Int) ≤ m
        · go_wp2_with (first | (refine oL ?_; (first | refine sL1 hS rfl rfl rfl ?_ | refine sL2 hS rfl rfl rfl ?_ | refine sL3 hS rfl rfl ?_ | refine sL4 hS rfl rfl ?_ | refine sL5 hS rfl rfl ?_ | refine sL6 hS rfl rfl ?_ | refine sL7 hS rfl rfl ?_)) | (refine oS ?_; ((first | refine sS1 hS rfl rfl rfl ?_ | refine sS2 hS rfl rfl rfl ?_ | refine sS3 hS rfl rfl rfl ?_ | refine sS4 hS rfl rfl rfl ?_ | refine sS5 hS rfl rfl rfl ?_); clear hS; intro w hS)) | ((first | refine sN1 hS rfl ?_); clear hS; first | ((fail_if_success guard_hyp g1); intro g1 w hS) | ((fail_if_success guard_hyp g2); intro g2 w hS) | fail) | fail)
          refine dr_start0 []  hS (by kernel_rfl) rfl ?_; clear hS; intro w hS
          first | refine dL1 hS 0 rfl rfl rfl rfl ?_ | refine dL2 hS 0 rfl rfl rfl rfl ?_ | refine dL3 hS 0 rfl rfl rfl ?_ | refine dL4 hS 0 rfl rfl rfl ?_ | refine dL5 hS 0 rfl rfl rfl ?_ | refine dL6 hS 0 rfl rfl rfl ?_ | refine dL7 hS 0 rfl rfl rfl ?_
          (try simp only [Act.put, nA, nB, nC])
          refine dM hS 1 rfl rfl rfl ?_
          (try simp only [Act.put, nA, nB, nC])
          refine dM hS 2 rfl rfl rfl ?_
          (try simp only [Act.put, nA, nB, nC])
          first | refine dL1 hS 4 rfl rfl rfl rfl ?_ | refine dL2 hS 4 rfl rfl rfl rfl ?_ | refine dL3 hS 4 rfl rfl rfl ?_ | refine dL4 hS 4 rfl rfl rfl ?_ | refine dL5 hS 4 rfl rfl rfl ?_ | refine dL6 hS 4 rfl rfl rfl ?_ | refine dL7 hS 4 rfl rfl rfl ?_
          (try simp only [Act.put, nA, nB, nC])
          refine dM hS 5 rfl rfl rfl ?_
          (try simp only [Act.put, nA, nB, nC])
          refine dM hS 6 rfl rfl rfl ?_
          (try simp only [Act.put, nA, nB, nC])
          refine dr_one 3 (by kernel_rfl) rfl ?_
          (refine st_call rfl (by kernel_rfl) rfl ?_; go_at_call 18; refine (interval_n rfl rfl (HPp.out.ck.into hS.frozInto) hqk hck5 (by omega)).mono ?_; rintro e w ⟨rfl, hx1⟩; replace hS := hS.ext hx1)
          (try simp only [Act.put, nA, nB, nC])
          refine dr_end hS ?_
          refine dr_one 7 (by kernel_rfl) rfl ?_
          (refine st_call rfl (by kernel_rfl) rfl ?_; go_at_call 44; refine (rinterval_n rfl rfl (HPp.out.ck.into hS.frozInto) hqk hck5 (by omega)).mono ?_; rintro e w ⟨rfl, hx1⟩; replace hS := hS.ext hx1)
          (try simp only [Act.put, nA, nB, nC])
          refine dr_end hS ?_
          refine dP hS 8 rfl rfl ?_
          (try simp only [Act.put, nA, nB, nC])
          refine dr_done (by kernel_rfl) ?_
          all_goals
            go_wp2_with (first | (refine oL ?_; (first | refine sL1 hS rfl rfl rfl ?_ | refine sL2 hS rfl rfl rfl ?_ | refine sL3 hS rfl rfl ?_ | refine sL4 hS rfl rfl ?_ | refine sL5 hS rfl rfl ?_ | refine sL6 hS rfl rfl ?_ | refine sL7 hS rfl rfl ?_)) | (refine oS ?_; ((first | refine sS1 hS rfl rfl rfl ?_ | refine sS2 hS rfl rfl rfl ?_ | refine sS3 hS rfl rfl rfl ?_ | refine sS4 hS rfl rfl rfl ?_ | refine sS5 hS rfl rfl rfl ?_); clear hS; intro w hS)) | ((first | refine sN1 hS rfl ?_); clear hS; first | ((fail_if_success guard_hyp g1); intro g1 w hS) | ((fail_if_success guard_hyp g2); intro g2 w hS) | fail) | fail)
            go_roundw
            case measure => simp [intOf]; omega
            exact ⟨k + 1, by omega, by go_num, hS⟩
        · go_wp2_with (first | (refine oL ?_; (first | refine sL1 hS rfl rfl rfl ?_ | refine sL2 hS rfl rfl rfl ?_ | refine sL3 hS rfl rfl ?_ | refine sL4 hS rfl rfl ?_ | refine sL5 hS rfl rfl ?_ | refine sL6 hS rfl rfl ?_ | refine sL7 hS rfl rfl ?_)) | (refine oS ?_; ((first | refine sS1 hS rfl rfl rfl ?_ | refine sS2 hS rfl rfl rfl ?_ | refine sS3 hS rfl rfl rfl ?_ | refine sS4 hS rfl rfl rfl ?_ | refine sS5 hS rfl rfl rfl ?_); clear hS; intro w hS)) | ((first | refine sN1 hS rfl ?_); clear hS; first | ((fail_if_success guard_hyp g1); intro g1 w hS) | ((fail_if_success guard_hyp g2); intro g2 w hS) | fail) | fail)
          go_roundw
          case measure => simp [intOf]; omega
          exact ⟨q + 1, by omega, by go_num, hS⟩
    · have hle := idxs_le (transit xs) p.arcs p.arcs.length
      generalize hids : idxs (transit xs) p.arcs p.arcs.length = ids at *
      have HID := Lib.hid hids
      clear hids
      go_wp2_with (first | (refine oL ?_; (first | refine sL1 hS rfl rfl rfl ?_ | refine sL2 hS rfl rfl rfl ?_ | refine sL3 hS rfl rfl ?_ | refine sL4 hS rfl rfl ?_ | refine sL5 hS rfl rfl ?_ | refine sL6 hS rfl rfl ?_ | refine sL7 hS rfl rfl ?_)) | (refine oS ?_; ((first | refine sS1 hS rfl rfl rfl ?_ | refine sS2 hS rfl rfl rfl ?_ | refine sS3 hS rfl rfl rfl ?_ | refine sS4 hS rfl rfl rfl ?_ | refine sS5 hS rfl rfl rfl ?_); clear hS; intro w hS)) | ((first | refine sN1 hS rfl ?_); clear hS; first | ((fail_if_success guard_hyp g1); intro g1 w hS) | ((fail_if_success guard_hyp g2); intro g2 w hS) | fail) | fail)
      refine dr_start1 [] 2 hS (by kernel_rfl) rfl ?_; clear hS; intro w hS
      first | refine dL1 hS 0 rfl rfl rfl rfl ?_ | refine dL2 hS 0 rfl rfl rfl rfl ?_ | refine dL3 hS 0 rfl rfl rfl ?_ | refine dL4 hS 0 rfl rfl rfl ?_ | refine dL5 hS 0 rfl rfl rfl ?_ | refine dL6 hS 0 rfl rfl rfl ?_ | refine dL7 hS 0 rfl rfl rfl ?_
      (try simp only [Act.put, nA, nB, nC])
      refine dM hS 1 rfl rfl rfl ?_
      (try simp only [Act.put, nA, nB, nC])
      first | refine dL1 hS 3 rfl rfl rfl rfl ?_ | refine dL2 hS 3 rfl rfl rfl rfl ?_ | refine dL3 hS 3 rfl rfl rfl ?_ | refine dL4 hS 3 rfl rfl rfl ?_ | refine dL5 hS 3 rfl rfl rfl ?_ | refine dL6 hS 3 rfl rfl rfl ?_ | refine dL7 hS 3 rfl rfl rfl ?_
      (try simp only [Act.put, nA, nB, nC])
      refine dM hS 4 rfl rfl rfl ?_
      (try simp only [Act.put, nA, nB, nC])
      refine dr_one 2 (by kernel_rfl) rfl ?_
      (refine st_call rfl (by kernel_rfl) rfl ?_; go_at_call 39; refine (restrict_n rfl rfl rfl HX.out (HPp.out.into hS.frozInto) HG.out.good hS.ri HV.out).mono ?_; rintro e w ⟨⟨B1, d1, B2, d2, B3, d3⟩, rfl, hp1, hx1⟩; simp only [PV.val]; obtain ⟨T1, hS1, hi1, hi0⟩ := hS.grow hx1; clear hS; have hS := hS1; clear hS1; replace HPp := Lib.hid (HPp.out.into hi0); (try replace HPb := Lib.hid (HPb.out.into hi0)); have HPa := Lib.hid (hp1.into hi1))
      (try simp only [Act.put, nA, nB, nC])
      refine dr_end hS ?_
      refine dr_one 5 (by kernel_rfl) rfl ?_
      (refine st_call rfl (by kernel_rfl) rfl ?_; go_at_call 45; refine (rrestrict_n rfl rfl rfl HX.out (HPp.out.into hS.frozInto) HG.out.good hS.ri HV.out).mono ?_; rintro e w ⟨⟨D1, f1, D2, f2, D3, f3⟩, rfl, hp1, hx1⟩; simp only [PV.val]; obtain ⟨T1, hS1, hi1, hi0⟩ := hS.grow hx1; clear hS; have hS := hS1; clear hS1; replace HPp := Lib.hid (HPp.out.into hi0); (try replace HPa := Lib.hid (HPa.out.into hi0)); have HPb := Lib.hid (hp1.into hi1))
      (try simp only [Act.put, nA, nB, nC])
      refine dr_end hS ?_
      refine dr_one 6 (by kernel_rfl) rfl ?_
      (refine st_call rfl (by kernel_rfl) rfl ?_; go_at_call 22; first | (refine (same_n (p := restr p xs) rfl rfl rfl rfl rfl rfl (HPa.out.into hS.frozInto) (HPb.out.into hS.frozInto) (restr_good HG.out.good HV.out).fits).mono ?_; rintro e w ⟨rfl, hx1⟩; replace hS := hS.ext hx1; clear HPa HPb) | (refine (same_n (p := reduce p) rfl rfl rfl rfl rfl rfl (HPc.out.into hS.frozInto) (HPd.out.into hS.frozInto) (reduce_fits HG.out.good)).mono ?_; rintro e w ⟨rfl, hx1⟩; replace hS := hS.ext hx1))
      (try simp only [Act.put, nA, nB, nC])
      refine dr_end hS ?_
      refine dM hS 7 rfl rfl rfl ?_
      (try simp only [Act.put, nA, nB, nC])
      first | refine dL1 hS 8 rfl rfl rfl rfl ?_ | refine dL2 hS 8 rfl rfl rfl rfl ?_ | refine dL3 hS 8 rfl rfl rfl ?_ | refine dL4 hS 8 rfl rfl rfl ?_ | refine dL5 hS 8 rfl rfl rfl ?_ | refine dL6 hS 8 rfl rfl rfl ?_ | refine dL7 hS 8 rfl rfl rfl ?_ | refine dQ hS 8 rfl rfl ?_
      (try simp only [Act.put, nA, nB, nC])
      first | refine dM hS 9 rfl rfl rfl ?_ | refine dQ hS 9 rfl rfl ?_
      (try simp only [Act.put, nA, nB, nC])
      first | refine dL1 hS 11 rfl rfl rfl rfl ?_ | refine dL2 hS 11 rfl rfl rfl rfl ?_ | refine dL3 hS 11 rfl rfl rfl ?_ | refine dL4 hS 11 rfl rfl rfl ?_ | refine dL5 hS 11 rfl rfl rfl ?_ | refine dL6 hS 11 rfl rfl rfl ?_ | refine dL7 hS 11 rfl rfl rfl ?_ | refine dQ hS 11 rfl rfl ?_
      (try simp only [Act.put, nA, nB, nC])
      first | refine dM hS 12 rfl rfl rfl ?_ | refine dQ hS 12 rfl rfl ?_
      (try simp only [Act.put, nA, nB, nC])
      refine dr_one 10 (by kernel_rfl) rfl ?_
      (refine st_call rfl (by kernel_rfl) rfl ?_; go_at_call 40; refine (transit_n rfl rfl rfl HX.out (HPp.out.into hS.frozInto) HG.out.good hS.ri HV.out).mono ?_; rintro e w ⟨La, ka, rfl, ho, hx1⟩; replace hS := hS.addRow ho hx1; rw [HID.out] at hS ⊢)
      (try simp only [Act.put, nA, nB, nC])
      refine dr_end hS ?_
      refine dr_one 13 (by kernel_rfl) rfl ?_
      (refine st_call rfl (by kernel_rfl) rfl ?_; go_at_call 46; refine (rtransit_n rfl rfl rfl HX.out (HPp.out.into hS.frozInto) HG.out.good hS.ri HV.out).mono ?_; rintro e w ⟨Lb, kb, rfl, ho, hx1⟩; replace hS := hS.addRow ho hx1; rw [HID.out] at hS ⊢)
      (try simp only [Act.put, nA, nB, nC])
      refine dr_end hS ?_
      refine dr_one 14 (by kernel_rfl) rfl ?_
      (refine st_call rfl (by kernel_rfl) rfl ?_; go_at_call 27; refine (sameInts_z rfl rfl hS.ri hS.ri (by omega) (by omega)).mono ?_; rintro e w ⟨rfl, hx1⟩; replace hS := hS.ext hx1; rw [decide_eq_true (rfl : ids = ids)])
      (try simp only [Act.put, nA, nB, nC])
      refine dr_end hS ?_
      refine dP hS 15 rfl rfl ?_
      (try simp only [Act.put, nA, nB, nC])
      refine dM hS 16 rfl rfl rfl ?_
      (try simp only [Act.put, nA, nB, nC])
      first | refine dL1 hS 17 rfl rfl rfl rfl ?_ | refine dL2 hS 17 rfl rfl rfl rfl ?_ | refine dL3 hS 17 rfl rfl rfl ?_ | refine dL4 hS 17 rfl rfl rfl ?_ | refine dL5 hS 17 rfl rfl rfl ?_ | refine dL6 hS 17 rfl rfl rfl ?_ | refine dL7 hS 17 rfl rfl rfl ?_ | refine dQ hS 17 rfl rfl ?_
      (try simp only [Act.put, nA, nB, nC])
      first | refine dL1 hS 19 rfl rfl rfl rfl ?_ | refine dL2 hS 19 rfl rfl rfl rfl ?_ | refine dL3 hS 19 rfl rfl rfl ?_ | refine dL4 hS 19 rfl rfl rfl ?_ | refine dL5 hS 19 rfl rfl rfl ?_ | refine dL6 hS 19 rfl rfl rfl ?_ | refine dL7 hS 19 rfl rfl rfl ?_ | refine dQ hS 19 rfl rfl ?_
      (try simp only [Act.put, nA, nB, nC])
      refine dr_one 18 (by kernel_rfl) rfl ?_
      (refine st_call rfl (by kernel_rfl) rfl ?_; go_at_call 47; refine (reduce_n rfl rfl rfl (HPp.out.into hS.frozInto) (by omega)).mono ?_; rintro e w ⟨⟨E1, h1, E2, h2, E3, h3⟩, rfl, hp1, hx1⟩; simp only [PV.val]; obtain ⟨T1, hS1, hi1, hi0⟩ := hS.grow hx1; clear hS; have hS := hS1; clear hS1; replace HPp := Lib.hid (HPp.out.into hi0); (try replace HPd := Lib.hid (HPd.out.into hi0)); have HPc := Lib.hid (hp1.into hi1))
      (try simp only [Act.put, nA, nB, nC])
      refine dr_end hS ?_
      refine dr_one 20 (by kernel_rfl) rfl ?_
      (refine st_call rfl (by kernel_rfl) rfl ?_; go_at_call 48; refine (rreduce_n rfl rfl rfl (HPp.out.into hS.frozInto) (by omega)).mono ?_; rintro e w ⟨⟨K1, i1, K2, i2, K3, i3⟩, rfl, hp1, hx1⟩; simp only [PV.val]; obtain ⟨T1, hS1, hi1, hi0⟩ := hS.grow hx1; clear hS; have hS := hS1; clear hS1; replace HPp := Lib.hid (HPp.out.into hi0); (try replace HPc := Lib.hid (HPc.out.into hi0)); have HPd := Lib.hid (hp1.into hi1))
      (try simp only [Act.put, nA, nB, nC])
      refine dr_end hS ?_
      refine dr_one 21 (by kernel_rfl) rfl ?_
      (refine st_call rfl (by kernel_rfl) rfl ?_; go_at_call 22; first | (refine (same_n (p := restr p xs) rfl rfl rfl rfl rfl rfl (HPa.out.into hS.frozInto) (HPb.out.into hS.frozInto) (restr_good HG.out.good HV.out).fits).mono ?_; rintro e w ⟨rfl, hx1⟩; replace hS := hS.ext hx1; clear HPa HPb) | (refine (same_n (p := reduce p) rfl rfl rfl rfl rfl rfl (HPc.out.into hS.frozInto) (HPd.out.into hS.frozInto) (reduce_fits HG.out.good)).mono ?_; rintro e w ⟨rfl, hx1⟩; replace hS := hS.ext hx1))
      (try simp only [Act.put, nA, nB, nC])
      refine dr_end hS ?_
      refine dP hS 22 rfl rfl ?_
      (try simp only [Act.put, nA, nB, nC])
      refine dA hS 23 rfl rfl rfl ?_
      (try simp only [Act.put, nA, nB, nC])
      refine dr_done (by kernel_rfl) ?_
      all_goals
        go_wp2_with (first | (refine oL ?_; (first | refine sL1 hS rfl rfl rfl ?_ | refine sL2 hS rfl rfl rfl ?_ | refine sL3 hS rfl rfl ?_ | refine sL4 hS rfl rfl ?_ | refine sL5 hS rfl rfl ?_ | refine sL6 hS rfl rfl ?_ | refine sL7 hS rfl rfl ?_)) | (refine oS ?_; ((first | refine sS1 hS rfl rfl rfl ?_ | refine sS2 hS rfl rfl rfl ?_ | refine sS3 hS rfl rfl rfl ?_ | refine sS4 hS rfl rfl rfl ?_ | refine sS5 hS rfl rfl rfl ?_); clear hS; intro w hS)) | ((first | refine sN1 hS rfl ?_); clear hS; first | ((fail_if_success guard_hyp g1); intro g1 w hS) | ((fail_if_success guard_hyp g2); intro g2 w hS) | fail) | fail)
        go_ret
        exact ⟨rfl, hS.toExt⟩
open Go.ChangeShapes Go.WideShapes Go.ChangeAt
set_option maxRecDepth 100000 in
theorem lifted_PatternParts (os : Os) (started : os.Started) (H : Type) (enc : TypeId × Value → H) :
    ReturnsInHanded {} Try.checked os 11 .any (Rows.patternPartsSpec.pre6 enc Try.prog Try.f11 Rows.patternPartsRow.domain false) (Rows.patternPartsSpec.post enc Try.prog Try.f11 false true false false) := by
  refine law_lifted (C := Try.checked) (s := Rows.patternPartsSpec) (tb := 4) (by kernel_rfl) started (by kernel_rfl) Try.func11
      (ChangeSpec.witness6 (enc := enc) (C := Try.checked) false ⟨#[], #[.slice none 0 0, .int .i64 0], []⟩ 8 (by kernel_rfl) (by kernel_rfl) (by kernel_rfl) (by kernel_rfl))
      (by kernel_rfl) rfl rfl Try.underlying4 (read_of (by kernel_rfl)) ?_ ?_
  · intro ds hl
    match ds, hl with
    | [d0, d1], _ => exact ⟨rfl, rfl, rfl⟩
  · intro W base args ds p hval0 hA0
    have hval : ∀ (j : Nat) t v, Try.f11.params[j]? = some t → args[j]? = some v → Value.okWide Try.prog W .any base t v := hval0
    have hA : DataW.TrodAll enc Try.prog W 0 (fun _ => true) true Try.f11.params.toList args.toList ds p := hA0
    clear hA0 hval0
    rw [Try.params11] at hA hval
    obtain ⟨v0, v1, d0, d1, p0, p1, rfl, rfl, rfl, h0, h1⟩ := trodAll_two hA
    obtain ⟨A, c, xs, rfl, hri, hc, hc', hwf⟩ := open_nums Try.underlying22 Try.underlying5 (by kernel_rfl) (hval 0 _ v0 rfl rfl) h0
    obtain ⟨z, rfl, _, _, hz⟩ := open_int Try.underlying3 (hval 1 _ v1 rfl rfl) h1
    exact patternParts_any A c xs z W hri hc hc' (fun b hb => u8_bd (hwf b hb))
/-- PatternParts returns true for every input, and leaves its arguments as they were. -/
theorem proved_PatternParts : Rows.PatternPartsSaid :=
  OpenClaim.holds_of_wide 11 Try.f11 rfl rfl rfl rfl rfl rfl rfl ⟨rfl, rfl, rfl, rfl, rfl⟩ rfl rfl rfl rfl rfl (by kernel_rfl) Try.func11 (by kernel_rfl)
    (of_decide_eq_true (by kernel_rfl)) (by unfold Func.isWrapper; rw [if_neg (by decide +kernel)]; exact ⟨rfl, rfl⟩)
    (fun os started H enc _ => lifted_PatternParts os started H enc)
end Go.Proofs.Ytjclgbkfnliiaaa
