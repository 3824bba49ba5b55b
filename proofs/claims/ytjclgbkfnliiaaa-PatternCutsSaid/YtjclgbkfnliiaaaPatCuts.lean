/- PatternCuts returns true for every input. No condition. -/
import Derived.Test.YtjclgbkfnliiaaaPatPure
import Derived.Test.YtjclgbkfnliiaaaCutLat
namespace Go.Proofs.Ytjclgbkfnliiaaa
open Go.RowKit
set_option linter.unusedVariables false
set_option linter.unusedSimpArgs false

theorem ints_nth {xs : List Int} {k : Nat} (h : k < xs.length) : (ints xs)[k]? = some (.int .i64 (nth xs k)) := by rw [ints_get h, nth_eq h]
theorem nth_snoc {ys : List Int} {z : Int} {i : Nat} : nth (ys ++ [z]) i = if i < ys.length then nth ys i else if i = ys.length then z else 0 := by
  unfold nth
  by_cases h : i < ys.length
  · rw [if_pos h]; simp [List.getD, List.getElem?_append_left h]
  · rw [if_neg h]
    by_cases h2 : i = ys.length
    · subst h2; simp [List.getD]
    · rw [if_neg h2]; simp [List.getD, List.getElem?_append_right (show ys.length ≤ i by omega)]
      rw [List.getElem?_eq_none (by simp; omega)]; rfl
set_option maxRecDepth 100000 in
set_option maxHeartbeats 3200000 in
theorem patternCuts_any (C : Option Addr) (f : Nat) (bs : List Int) (C2 : Option Addr) (f2 : Nat) (b2 : List Int) (w0 : World) (hbs : RV (fun b => b < w0.heap.size) w0 C (bytes bs)) (hf : bs.length ≤ f) (hf' : f ≤ 9223372036854775807) (hby : ∀ b ∈ bs, 0 ≤ b ∧ b ≤ 255) (hb2 : RV (fun b => b < w0.heap.size) w0 C2 (bytes b2)) (hf2 : b2.length ≤ f2) (hf2' : f2 ≤ 9223372036854775807) (hy2 : ∀ b ∈ b2, 0 ≤ b ∧ b ≤ 255) :
    Calls Try.prog 8 #[.slice C bs.length f, .slice C2 b2.length f2] w0 fun e w' => e = .returned (.bool true) ∧ Ext w0 w' := by
  have hS := St.start w0 NoM
  have HB2 := Lib.hid (And.intro hy2 (RV.sub (S' := Froz w0 NoM) hb2 (fun k hk => ⟨hk, id⟩)))
  clear hy2 hb2
  have HB := Lib.hid (And.intro hby (RV.sub (S' := Froz w0 NoM) hbs (fun k hk => ⟨hk, id⟩)))
  clear hby hbs
  go_enter Try.func8, Try.ntmps8
  go_wp2_with (first | (go_at_call 15; refine (awake16_any _).mono ?_; rintro e w ⟨rfl, hx1⟩; replace hS := hS.ext hx1) | (refine oL ?_; (first | refine sL1 hS rfl rfl rfl ?_ | refine sL2 hS rfl rfl rfl ?_ | refine sL3 hS rfl rfl ?_ | refine sL4 hS rfl rfl ?_ | refine sL5 hS rfl rfl ?_ | refine sL6 hS rfl rfl ?_ | refine sL7 hS rfl rfl ?_)) | (refine oS ?_; ((first | refine sS1 hS rfl rfl rfl ?_ | refine sS2 hS rfl rfl rfl ?_ | refine sS3 hS rfl rfl rfl ?_ | refine sS4 hS rfl rfl rfl ?_ | refine sS5 hS rfl rfl rfl ?_); clear hS; intro w hS)) | (refine oP ?_; ((first | refine sP1 hS rfl rfl rfl ?_ | refine sP2 hS rfl rfl rfl ?_ | refine sP3 hS rfl rfl rfl ?_); clear hS; first | ((fail_if_success guard_hyp L1); intro L1 cl1 w hL1 hM1 hS) | ((fail_if_success guard_hyp L2); intro L2 cl2 w hL2 hM2 hS) | fail)) | ((first | refine sN1 hS rfl ?_ | (refine oC ?_; first | refine sC0 hS rfl ?_ | refine sC1 hS rfl rfl ?_ | refine sC2 hS rfl rfl ?_ | refine sC3 hS rfl rfl rfl ?_ | refine sC4 hS rfl rfl rfl ?_)); clear hS; first | ((fail_if_success guard_hyp g1); intro g1 w hS) | ((fail_if_success guard_hyp g2); intro g2 w hS) | ((fail_if_success guard_hyp g3); intro g3 w hS) | ((fail_if_success guard_hyp g4); intro g4 w hS) | ((fail_if_success guard_hyp g5); intro g5 w hS) | fail) | fail)
  refine (new_st (m := 240) hS (by omega) HB.out.2 hf hf' HB.out.1).mono ?_
  rintro e w ⟨gc, κ, rfl, hS⟩
  clear HB
  generalize bs.take 240 = r at *
  go_wp2_with (first | (refine oL ?_; (first | refine sL1 hS rfl rfl rfl ?_ | refine sL2 hS rfl rfl rfl ?_ | refine sL3 hS rfl rfl ?_ | refine sL4 hS rfl rfl ?_ | refine sL5 hS rfl rfl ?_ | refine sL6 hS rfl rfl ?_ | refine sL7 hS rfl rfl ?_)) | (refine oS ?_; ((first | refine sS1 hS rfl rfl rfl ?_ | refine sS2 hS rfl rfl rfl ?_ | refine sS3 hS rfl rfl rfl ?_ | refine sS4 hS rfl rfl rfl ?_ | refine sS5 hS rfl rfl rfl ?_); clear hS; intro w hS)) | (refine oP ?_; ((first | refine sP1 hS rfl rfl rfl ?_ | refine sP2 hS rfl rfl rfl ?_ | refine sP3 hS rfl rfl rfl ?_); clear hS; first | ((fail_if_success guard_hyp L1); intro L1 cl1 w hL1 hM1 hS) | ((fail_if_success guard_hyp L2); intro L2 cl2 w hL2 hM2 hS) | fail)) | ((first | refine sN1 hS rfl ?_ | (refine oC ?_; first | refine sC0 hS rfl ?_ | refine sC1 hS rfl rfl ?_ | refine sC2 hS rfl rfl ?_ | refine sC3 hS rfl rfl rfl ?_ | refine sC4 hS rfl rfl rfl ?_)); clear hS; first | ((fail_if_success guard_hyp g1); intro g1 w hS) | ((fail_if_success guard_hyp g2); intro g2 w hS) | ((fail_if_success guard_hyp g3); intro g3 w hS) | ((fail_if_success guard_hyp g4); intro g4 w hS) | ((fail_if_success guard_hyp g5); intro g5 w hS) | fail) | fail)
  refine (pattern_st (m := 20) hS rfl (by omega)).mono ?_
  rintro e w ⟨v, p, r1, T, rfl, hsm, hpa, hS⟩
  have HP := Lib.hid (And.intro hsm hpa)
  have e1 := hsm.good.ckl
  have hn5 := hsm.good.n5
  obtain ⟨A1, c1, A2, c2, A3, c3⟩ := v
  simp only [PV.val]
  have HE := Lib.hid e1
  have hn2 := hsm.good.n2
  have hfew := hsm.few
  clear hsm hpa e1
  generalize hu : w = u at *
  go_wp2_with (first | (refine oL ?_; (first | refine sL1 hS rfl rfl rfl ?_ | refine sL2 hS rfl rfl rfl ?_ | refine sL3 hS rfl rfl ?_ | refine sL4 hS rfl rfl ?_ | refine sL5 hS rfl rfl ?_ | refine sL6 hS rfl rfl ?_ | refine sL7 hS rfl rfl ?_)) | (refine oS ?_; ((first | refine sS1 hS rfl rfl rfl ?_ | refine sS2 hS rfl rfl rfl ?_ | refine sS3 hS rfl rfl rfl ?_ | refine sS4 hS rfl rfl rfl ?_ | refine sS5 hS rfl rfl rfl ?_); clear hS; intro w hS)) | (refine oP ?_; ((first | refine sP1 hS rfl rfl rfl ?_ | refine sP2 hS rfl rfl rfl ?_ | refine sP3 hS rfl rfl rfl ?_); clear hS; first | ((fail_if_success guard_hyp L1); intro L1 cl1 w hL1 hM1 hS) | ((fail_if_success guard_hyp L2); intro L2 cl2 w hL2 hM2 hS) | fail)) | ((first | refine sN1 hS rfl ?_ | (refine oC ?_; first | refine sC0 hS rfl ?_ | refine sC1 hS rfl rfl ?_ | refine sC2 hS rfl rfl ?_ | refine sC3 hS rfl rfl rfl ?_ | refine sC4 hS rfl rfl rfl ?_)); clear hS; first | ((fail_if_success guard_hyp g1); intro g1 w hS) | ((fail_if_success guard_hyp g2); intro g2 w hS) | ((fail_if_success guard_hyp g3); intro g3 w hS) | ((fail_if_success guard_hyp g4); intro g4 w hS) | ((fail_if_success guard_hyp g5); intro g5 w hS) | fail) | fail)
  refine (cut_st hS rfl (HP.out.2.len.into hS.frozInto) (hS.frozNe (κ := κ) (r := r1)) hn5 HP.out.1.good.all).mono ?_
  rintro e w ⟨X, cx, r2, rfl, hS⟩
  have HV := Lib.hid (cut_valid HP.out.1.good r1)
  generalize cutL r1 p.len = xs at *
  have hxl : xs.length = p.len.length := (valid_iff.1 HV.out).1
  have HX := Lib.hid hxl
  clear hxl
  have HPp := Lib.hid HP.out.2
  have HG := Lib.hid HP.out.1
  have hck5 : p.ck.length ≤ 5 := by rw [HE.out]; exact hn5
  clear HP
  obtain ⟨gx, rfl⟩ := hS.rowSome X (by omega)
  go_wp2_with (first | (go_at_call 16; refine (new_st (m := 20) hS (by omega) HB2.out.2 hf2 hf2' HB2.out.1).mono ?_; rintro e w ⟨ga, κa, rfl, hS⟩; clear HB2; generalize b2.take 20 = ra at hS) | (refine oL ?_; (first | refine sL1 hS rfl rfl rfl ?_ | refine sL2 hS rfl rfl rfl ?_ | refine sL3 hS rfl rfl ?_ | refine sL4 hS rfl rfl ?_ | refine sL5 hS rfl rfl ?_ | refine sL6 hS rfl rfl ?_ | refine sL7 hS rfl rfl ?_)) | (refine oS ?_; ((first | refine sS1 hS rfl rfl rfl ?_ | refine sS2 hS rfl rfl rfl ?_ | refine sS3 hS rfl rfl rfl ?_ | refine sS4 hS rfl rfl rfl ?_ | refine sS5 hS rfl rfl rfl ?_); clear hS; intro w hS)) | (refine oP ?_; ((first | refine sP1 hS rfl rfl rfl ?_ | refine sP2 hS rfl rfl rfl ?_ | refine sP3 hS rfl rfl rfl ?_); clear hS; first | ((fail_if_success guard_hyp L1); intro L1 cl1 w hL1 hM1 hS) | ((fail_if_success guard_hyp L2); intro L2 cl2 w hL2 hM2 hS) | fail)) | ((first | refine sN1 hS rfl ?_ | (refine oC ?_; first | refine sC0 hS rfl ?_ | refine sC1 hS rfl rfl ?_ | refine sC2 hS rfl rfl ?_ | refine sC3 hS rfl rfl rfl ?_ | refine sC4 hS rfl rfl rfl ?_)); clear hS; first | ((fail_if_success guard_hyp g1); intro g1 w hS) | ((fail_if_success guard_hyp g2); intro g2 w hS) | ((fail_if_success guard_hyp g3); intro g3 w hS) | ((fail_if_success guard_hyp g4); intro g4 w hS) | ((fail_if_success guard_hyp g5); intro g5 w hS) | fail) | fail)
  go_loopw [9, 29] (fun s9 s29 wr => ∃ (k : Nat) (L : Option Addr) (cl : Nat) (ys r' : List Int), k ≤ p.len.length ∧ ys.length ≤ 5 ∧ s29 = .int .i64 k ∧ s9 = .slice L ys.length cl ∧ Hid (ys.length = k ∧ ∀ i, i < k → 0 ≤ nth ys i ∧ nth ys i ≤ nth xs i) ∧ St w0 NoM [irow 3 L cl ys, cds ga κa r', row (.slice (some ⟨gx, 0, none⟩) p.len.length cx) 3 1 p.len.length (ints xs), blk g1 [.slice A1 p.len.length c1, .slice A2 p.ck.length c2, .slice A3 p.arcs.length c3] 28, froz T u] wr) (fun _ s29 _ => p.len.length - (intOf s29).toNat)
  case atStart => exact ⟨0, none, 0, [], ra, by omega, by simp, rfl, rfl, Lib.hid ⟨rfl, fun i hi => absurd hi (by omega)⟩, St.addNil hS.re _ _⟩
  case round =>
    obtain ⟨k, L, cl, ys, r', hk, hyl, rfl, rfl, HY, hS⟩ := hrel
    by_cases hkl : k < p.len.length
    · have hcell := ints_nth (xs := xs) (k := k) (by rw [HX.out]; exact hkl)
      have hbd := (valid_iff.1 HV.out).2 k hkl
      have hhi := HG.out.good.hi k hkl
      generalize hm : nth xs k = m at *
      obtain ⟨mn, rfl⟩ : ∃ mn : Nat, m = mn := ⟨m.toNat, by omega⟩
      go_wp2_with (first | (go_at_call 38; refine (next_z (mn + 1) hS (by simp) (by omega) (by omega)).mono ?_; rintro e w ⟨rfl, hS1⟩; clear hS; have hS := hS1; clear hS1; have hnx := nxt_lt r' (n := mn + 1) (by omega); generalize nxt r' (mn + 1) = z at *) | (refine oL ?_; (first | refine sL1 hS rfl rfl rfl ?_ | refine sL2 hS rfl rfl rfl ?_ | refine sL3 hS rfl rfl ?_ | refine sL4 hS rfl rfl ?_ | refine sL5 hS rfl rfl ?_ | refine sL6 hS rfl rfl ?_ | refine sL7 hS rfl rfl ?_)) | (refine oS ?_; ((first | refine sS1 hS rfl rfl rfl ?_ | refine sS2 hS rfl rfl rfl ?_ | refine sS3 hS rfl rfl rfl ?_ | refine sS4 hS rfl rfl rfl ?_ | refine sS5 hS rfl rfl rfl ?_); clear hS; intro w hS)) | (refine oP ?_; ((first | refine sP1 hS rfl rfl rfl ?_ | refine sP2 hS rfl rfl rfl ?_ | refine sP3 hS rfl rfl rfl ?_); clear hS; first | ((fail_if_success guard_hyp L1); intro L1 cl1 w hL1 hM1 hS) | ((fail_if_success guard_hyp L2); intro L2 cl2 w hL2 hM2 hS) | fail)) | ((first | refine sN1 hS rfl ?_ | (refine oC ?_; first | refine sC0 hS rfl ?_ | refine sC1 hS rfl rfl ?_ | refine sC2 hS rfl rfl ?_ | refine sC3 hS rfl rfl rfl ?_ | refine sC4 hS rfl rfl rfl ?_)); clear hS; first | ((fail_if_success guard_hyp g1); intro g1 w hS) | ((fail_if_success guard_hyp g2); intro g2 w hS) | ((fail_if_success guard_hyp g3); intro g3 w hS) | ((fail_if_success guard_hyp g4); intro g4 w hS) | ((fail_if_success guard_hyp g5); intro g5 w hS) | fail) | fail)
      go_roundw
      case measure => simp [intOf]; omega
      have hyk := HY.out.1
      refine ⟨k + 1, L1, cl1, ys ++ [(z : Int)], r'.tail, by omega, by simp; omega, by go_num, by simp, Lib.hid ⟨by simp [hyk], fun i hi => ?_⟩, hS⟩
      rw [nth_snoc]
      split
      · exact HY.out.2 i (by omega)
      · rw [if_pos (by omega), show i = k by omega, hm]; omega
    · have hke : k = p.len.length := by omega
      subst hke
      have HVY := Lib.hid (show validB xs ys = true from valid_iff.2 ⟨HY.out.1.trans HX.out.symm, fun i hi => HY.out.2 i (by rw [← HX.out]; exact hi)⟩)
      have HVP := Lib.hid (show validB p.len ys = true from valid_iff.2 ⟨HY.out.1, fun i hi => by have h1 := HY.out.2 i hi; have h2 := (valid_iff.1 HV.out).2 i hi; omega⟩)
      go_upto_region 14 with (first | (go_at_call 39; refine (restrict_n rfl rfl rfl HX.out (HPp.out.into hS.frozInto) HG.out.good hS.ri HV.out).mono ?_; rintro e w ⟨⟨B1, d1, B2, d2, B3, d3⟩, rfl, hp1, hx1⟩; simp only [PV.val]; obtain ⟨T1, hS1, hi1, hi0⟩ := hS.grow hx1; clear hS; have hS := hS1; clear hS1; replace HPp := Lib.hid (HPp.out.into hi0); skip; have HPa := Lib.hid (hp1.into hi1)) | (refine oL ?_; (first | refine sL1 hS rfl rfl rfl ?_ | refine sL2 hS rfl rfl rfl ?_ | refine sL3 hS rfl rfl ?_ | refine sL4 hS rfl rfl ?_ | refine sL5 hS rfl rfl ?_ | refine sL6 hS rfl rfl ?_ | refine sL7 hS rfl rfl ?_)) | (refine oS ?_; ((first | refine sS1 hS rfl rfl rfl ?_ | refine sS2 hS rfl rfl rfl ?_ | refine sS3 hS rfl rfl rfl ?_ | refine sS4 hS rfl rfl rfl ?_ | refine sS5 hS rfl rfl rfl ?_); clear hS; intro w hS)) | (refine oP ?_; ((first | refine sP1 hS rfl rfl rfl ?_ | refine sP2 hS rfl rfl rfl ?_ | refine sP3 hS rfl rfl rfl ?_); clear hS; first | ((fail_if_success guard_hyp L1); intro L1 cl1 w hL1 hM1 hS) | ((fail_if_success guard_hyp L2); intro L2 cl2 w hL2 hM2 hS) | fail)) | ((first | refine sN1 hS rfl ?_ | (refine oC ?_; first | refine sC0 hS rfl ?_ | refine sC1 hS rfl rfl ?_ | refine sC2 hS rfl rfl ?_ | refine sC3 hS rfl rfl rfl ?_ | refine sC4 hS rfl rfl rfl ?_)); clear hS; first | ((fail_if_success guard_hyp g1); intro g1 w hS) | ((fail_if_success guard_hyp g2); intro g2 w hS) | ((fail_if_success guard_hyp g3); intro g3 w hS) | ((fail_if_success guard_hyp g4); intro g4 w hS) | ((fail_if_success guard_hyp g5); intro g5 w hS) | fail) | fail)
      have HGa := Lib.hid (restr_good HG.out.good HV.out)
      have HRR := Lib.hid (restr_restr HG.out.good HV.out HVY.out)
      have HSE := Lib.hid (restr_sent xs p.arcs)
      have hale : (restr p xs).arcs.length ≤ 256 := HGa.out.few
      have HAl := Lib.hid (show (restr p xs).len.length = p.len.length from HX.out)
      generalize hpa : restr p xs = pa at *
      have HLA := Lib.hid (show pa.len = xs by rw [← hpa]; rfl)
      have HSE2 := Lib.hid (show pa.arcs.length = p.arcs.countP (sentB xs) by rw [← hpa]; exact HSE.out)
      clear hpa HSE
      simp only [Act.put, nA, nB, nC]
      go_cut [62] (fun s62 wx => s62 = .bool false ∧ ∃ (T1 : Nat → Prop) (u1 : World), Hid (PatAt T1 u1 ⟨A1, c1, A2, c2, A3, c3⟩ p) ∧ St w0 NoM [row (.slice (some ⟨gx, 0, none⟩) p.len.length cx) 3 1 p.len.length (ints xs), blk g1 [.slice A1 p.len.length c1, .slice A2 p.ck.length c2, .slice A3 p.arcs.length c3] 28, blk g2 [.slice B1 pa.len.length d1, .slice B2 pa.ck.length d2, .slice B3 pa.arcs.length d3] 28, froz T1 u1] wx)
      case first =>
        refine dr_start1 [] 5 hS (by kernel_rfl) rfl ?_; clear hS; intro w hS
        first | refine dL1 hS 0 rfl rfl rfl rfl ?_ | refine dL2 hS 0 rfl rfl rfl rfl ?_ | refine dL3 hS 0 rfl rfl rfl ?_ | refine dL4 hS 0 rfl rfl rfl ?_ | refine dL5 hS 0 rfl rfl rfl ?_ | refine dL6 hS 0 rfl rfl rfl ?_ | refine dL7 hS 0 rfl rfl rfl ?_
        (try simp only [Act.put, nA, nB, nC])
        refine dM hS 1 rfl rfl rfl ?_
        (try simp only [Act.put, nA, nB, nC])
        first | refine dL1 hS 3 rfl rfl rfl rfl ?_ | refine dL2 hS 3 rfl rfl rfl rfl ?_ | refine dL3 hS 3 rfl rfl rfl ?_ | refine dL4 hS 3 rfl rfl rfl ?_ | refine dL5 hS 3 rfl rfl rfl ?_ | refine dL6 hS 3 rfl rfl rfl ?_ | refine dL7 hS 3 rfl rfl rfl ?_
        (try simp only [Act.put, nA, nB, nC])
        refine dM hS 4 rfl rfl rfl ?_
        (try simp only [Act.put, nA, nB, nC])
        refine dr_one 2 (by kernel_rfl) rfl ?_
        (refine st_call rfl (by kernel_rfl) rfl ?_; go_at_call 39; refine (restrict_n rfl rfl rfl rfl (HPa.out.into hS.frozInto) HGa.out hS.ri (by rw [HLA.out]; exact HVY.out)).mono ?_; rw [HRR.out]; rintro e w ⟨⟨D1, f1, D2, f3, D3, f4⟩, rfl, hp1, hx1⟩; simp only [PV.val]; obtain ⟨T1, hS1, hi1, hi0⟩ := hS.grow hx1; clear hS; have hS := hS1; clear hS1; replace HPp := Lib.hid (HPp.out.into hi0); replace HPa := Lib.hid (HPa.out.into hi0); (try replace HPc := Lib.hid (HPc.out.into hi0)); have HPb := Lib.hid (hp1.into hi1))
        (try simp only [Act.put, nA, nB, nC])
        refine dr_end hS ?_
        refine dr_one 5 (by kernel_rfl) rfl ?_
        (refine st_call rfl (by kernel_rfl) rfl ?_; go_at_call 39; refine (restrict_n rfl rfl rfl rfl (HPp.out.into hS.frozInto) HG.out.good hS.ri HVP.out).mono ?_; rintro e w ⟨⟨K1, i1, K2, i2, K3, i3⟩, rfl, hp1, hx1⟩; simp only [PV.val]; obtain ⟨T1, hS1, hi1, hi0⟩ := hS.grow hx1; clear hS; have hS := hS1; clear hS1; replace HPp := Lib.hid (HPp.out.into hi0); replace HPa := Lib.hid (HPa.out.into hi0); (try replace HPb := Lib.hid (HPb.out.into hi0)); have HPc := Lib.hid (hp1.into hi1))
        (try simp only [Act.put, nA, nB, nC])
        refine dr_end hS ?_
        refine dr_one 6 (by kernel_rfl) rfl ?_
        (refine st_call rfl (by kernel_rfl) rfl ?_; go_at_call 22; refine (same_n (p := restr p ys) rfl rfl rfl rfl rfl rfl (HPb.out.into hS.frozInto) (HPc.out.into hS.frozInto) (restr_good HG.out.good HVP.out).fits).mono ?_; rintro e w ⟨rfl, hx1⟩; replace hS := hS.ext hx1; clear HPb HPc)
        (try simp only [Act.put, nA, nB, nC])
        refine dr_end hS ?_
        refine dP hS 7 rfl rfl ?_
        (try simp only [Act.put, nA, nB, nC])
        refine dM hS 8 rfl rfl rfl ?_
        (try simp only [Act.put, nA, nB, nC])
        first | refine dL1 hS 9 rfl rfl rfl rfl ?_ | refine dL2 hS 9 rfl rfl rfl rfl ?_ | refine dL3 hS 9 rfl rfl rfl ?_ | refine dL4 hS 9 rfl rfl rfl ?_ | refine dL5 hS 9 rfl rfl rfl ?_ | refine dL6 hS 9 rfl rfl rfl ?_ | refine dL7 hS 9 rfl rfl rfl ?_ | refine dQ hS 9 rfl rfl ?_
        (try simp only [Act.put, nA, nB, nC])
        first | refine dP hS 10 rfl rfl ?_ | refine dQ hS 10 rfl rfl ?_
        (try simp only [Act.put, nA, nB, nC])
        first | refine dL1 hS 11 rfl rfl rfl rfl ?_ | refine dL2 hS 11 rfl rfl rfl rfl ?_ | refine dL3 hS 11 rfl rfl rfl ?_ | refine dL4 hS 11 rfl rfl rfl ?_ | refine dL5 hS 11 rfl rfl rfl ?_ | refine dL6 hS 11 rfl rfl rfl ?_ | refine dL7 hS 11 rfl rfl rfl ?_ | refine dQ hS 11 rfl rfl ?_
        (try simp only [Act.put, nA, nB, nC])
        first | refine dL1 hS 13 rfl rfl rfl rfl ?_ | refine dL2 hS 13 rfl rfl rfl rfl ?_ | refine dL3 hS 13 rfl rfl rfl ?_ | refine dL4 hS 13 rfl rfl rfl ?_ | refine dL5 hS 13 rfl rfl rfl ?_ | refine dL6 hS 13 rfl rfl rfl ?_ | refine dL7 hS 13 rfl rfl rfl ?_ | refine dQ hS 13 rfl rfl ?_
        (try simp only [Act.put, nA, nB, nC])
        refine dr_one 12 (by kernel_rfl) rfl ?_
        (refine st_call rfl (by kernel_rfl) rfl ?_; go_at_call 39; refine (restrict_n rfl rfl rfl rfl (HPp.out.into hS.frozInto) HG.out.good (HPp.out.len.into hS.frozInto) (valid_len HG.out.good)).mono ?_; rw [restr_len HG.out.good]; rintro e w ⟨⟨E1, h1, E2, h2, E3, h3⟩, rfl, hp1, hx1⟩; simp only [PV.val]; obtain ⟨T1, hS1, hi1, hi0⟩ := hS.grow hx1; clear hS; have hS := hS1; clear hS1; replace HPp := Lib.hid (HPp.out.into hi0); replace HPa := Lib.hid (HPa.out.into hi0); have HPd := Lib.hid (hp1.into hi1))
        (try simp only [Act.put, nA, nB, nC])
        refine dr_end hS ?_
        refine dr_one 14 (by kernel_rfl) rfl ?_
        (refine st_call rfl (by kernel_rfl) rfl ?_; go_at_call 22; refine (same_n (p := p) rfl rfl rfl rfl rfl rfl (HPd.out.into hS.frozInto) (HPp.out.into hS.frozInto) HG.out.good.fits).mono ?_; rintro e w ⟨rfl, hx1⟩; replace hS := hS.ext hx1)
        (try simp only [Act.put, nA, nB, nC])
        refine dr_end hS ?_
        first | refine dP hS 15 rfl rfl ?_ | refine dQ hS 15 rfl rfl ?_
        (try simp only [Act.put, nA, nB, nC])
        refine dP hS 16 rfl rfl ?_
        (try simp only [Act.put, nA, nB, nC])
        refine dr_done (by kernel_rfl) ?_
        all_goals
          go_wp2_with fail
          go_meet
          exact ⟨rfl, T1, _, HPp, hS.re⟩
      case rest =>
        clear HPp HPa hS
        obtain ⟨rfl, T2, u2, HPp, hS⟩ := hcut
        have HOK := Lib.hid (HG.out.good.arcs_in HX.out)
        have HTC := Lib.hid (transit_count (x := xs) (l := p.arcs) (fun a ha => (HG.out.good.arc a ha).at0))
        have HIC := Lib.hid (idxs_count (transit xs) p.arcs p.arcs.length (Nat.le_refl _))
        have hsle : ∀ k, (p.arcs.take k).countP (sentB xs) ≤ p.arcs.length := fun k => Nat.le_trans List.countP_le_length (by rw [List.length_take]; omega)
        have hgle : ∀ k, (p.arcs.take k).countP (gotB xs) ≤ p.arcs.length := fun k => Nat.le_trans List.countP_le_length (by rw [List.length_take]; omega)
        go_wp2_with (first | (refine oL ?_; (first | refine sL1 hS rfl rfl rfl ?_ | refine sL2 hS rfl rfl rfl ?_ | refine sL3 hS rfl rfl ?_ | refine sL4 hS rfl rfl ?_ | refine sL5 hS rfl rfl ?_ | refine sL6 hS rfl rfl ?_ | refine sL7 hS rfl rfl ?_)) | (refine oS ?_; ((first | refine sS1 hS rfl rfl rfl ?_ | refine sS2 hS rfl rfl rfl ?_ | refine sS3 hS rfl rfl rfl ?_ | refine sS4 hS rfl rfl rfl ?_ | refine sS5 hS rfl rfl rfl ?_); clear hS; intro w hS)) | (refine oP ?_; ((first | refine sP1 hS rfl rfl rfl ?_ | refine sP2 hS rfl rfl rfl ?_ | refine sP3 hS rfl rfl rfl ?_); clear hS; first | ((fail_if_success guard_hyp L1); intro L1 cl1 w hL1 hM1 hS) | ((fail_if_success guard_hyp L2); intro L2 cl2 w hL2 hM2 hS) | fail)) | ((first | refine sN1 hS rfl ?_ | (refine oC ?_; first | refine sC0 hS rfl ?_ | refine sC1 hS rfl rfl ?_ | refine sC2 hS rfl rfl ?_ | refine sC3 hS rfl rfl rfl ?_ | refine sC4 hS rfl rfl rfl ?_)); clear hS; first | ((fail_if_success guard_hyp g1); intro g1 w hS) | ((fail_if_success guard_hyp g2); intro g2 w hS) | ((fail_if_success guard_hyp g3); intro g3 w hS) | ((fail_if_success guard_hyp g4); intro g4 w hS) | ((fail_if_success guard_hyp g5); intro g5 w hS) | fail) | fail)
        go_loopw [12, 13, 66] (fun s12 s13 s66 wr => ∃ (k sn gt : Nat), k ≤ p.arcs.length ∧ sn ≤ 256 ∧ gt ≤ 256 ∧ s66 = .int .i64 k ∧ s12 = .int .i64 sn ∧ s13 = .int .i64 gt ∧ Hid (sn = (p.arcs.take k).countP (sentB xs) ∧ gt = (p.arcs.take k).countP (gotB xs)) ∧ St w0 NoM [row (.slice (some ⟨gx, 0, none⟩) p.len.length cx) 3 1 p.len.length (ints xs), blk g1 [.slice A1 p.len.length c1, .slice A2 p.ck.length c2, .slice A3 p.arcs.length c3] 28, blk g2 [.slice B1 pa.len.length d1, .slice B2 pa.ck.length d2, .slice B3 pa.arcs.length d3] 28, froz T2 u2] wr) (fun _ _ s66 _ => p.arcs.length - (intOf s66).toNat)
        case atStart => exact ⟨0, 0, 0, by omega, by omega, by omega, rfl, rfl, rfl, Lib.hid (by simp), hS⟩
        case round =>
          obtain ⟨k, sn, gt, hk, hsn, hgt, rfl, rfl, rfl, HC, hS⟩ := hrel
          by_cases hka : k < p.arcs.length
          · have h1s := hsle (k + 1)
            have h1g := hgle (k + 1)
            have HS1 := Lib.hid (And.intro (countP_take_succ (sentB xs) hka) (countP_take_succ (gotB xs) hka))
            have HLE := Lib.hid (And.intro h1s h1g)
            obtain ⟨b3, o3, e3, hfs⟩ := HPp.out.arcs.fcs hka
            simp only at e3
            subst e3
            have ho := HOK.out _ (List.getElem_mem hka)
            generalize p.arcs[k] = ar at *
            have hc1 := ints_nth (xs := xs) ho.1
            have hc2 := ints_nth (xs := xs) ho.2.1
            simp only [arcCells] at hfs
            have hxl := HX.out
            have hf' : (ar.fr : Int) < p.len.length := by omega
            have ht' : (ar.to : Int) < p.len.length := by omega
            have h0 := ho.2.2
            clear ho hxl h1s h1g
            have hse : sentB xs ar = decide (ar.ix ≤ nth xs ar.fr) := rfl
            have hgo : gotB xs ar = (sentB xs ar && (decide (0 < ar.at_) && decide (ar.at_ ≤ nth xs ar.to))) := rfl
            generalize sentB xs ar = se at *
            generalize gotB xs ar = go at *
            generalize nth xs ar.to = y1 at *
            generalize nth xs ar.fr = y2 at *
            obtain ⟨fr, ix, too, at_⟩ := ar
            simp only at *
            have hb1 := HS1.out
            rw [← HC.out.1, ← HC.out.2] at hb1
            have hb2 := HLE.out
            rw [hb1.1, hb1.2] at hb2
            have HBD := Lib.hid (And.intro hb1 hb2)
            clear hb1 hb2
            by_cases h1 : ix ≤ y2
            · have d1 : decide (ix ≤ y2) = true := by simp [h1]
              rw [d1] at hse
              subst hse
              by_cases h2 : 0 < at_
              · have d2 : decide (0 < at_) = true := by simp [h2]
                by_cases h3 : at_ ≤ y1
                · have d3 : decide (at_ ≤ y1) = true := by simp [h3]
                  have hgo' : go = true := by rw [hgo, d2, d3]; rfl
                  clear hgo
                  subst hgo'
                  have hB := HBD.out.2
                  simp at hB
                  go_wp2_with (first | (refine oL ?_; (first | refine sL1 hS rfl rfl rfl ?_ | refine sL2 hS rfl rfl rfl ?_ | refine sL3 hS rfl rfl ?_ | refine sL4 hS rfl rfl ?_ | refine sL5 hS rfl rfl ?_ | refine sL6 hS rfl rfl ?_ | refine sL7 hS rfl rfl ?_)) | (refine oS ?_; ((first | refine sS1 hS rfl rfl rfl ?_ | refine sS2 hS rfl rfl rfl ?_ | refine sS3 hS rfl rfl rfl ?_ | refine sS4 hS rfl rfl rfl ?_ | refine sS5 hS rfl rfl rfl ?_); clear hS; intro w hS)) | (refine oP ?_; ((first | refine sP1 hS rfl rfl rfl ?_ | refine sP2 hS rfl rfl rfl ?_ | refine sP3 hS rfl rfl rfl ?_); clear hS; first | ((fail_if_success guard_hyp L1); intro L1 cl1 w hL1 hM1 hS) | ((fail_if_success guard_hyp L2); intro L2 cl2 w hL2 hM2 hS) | fail)) | ((first | refine sN1 hS rfl ?_ | (refine oC ?_; first | refine sC0 hS rfl ?_ | refine sC1 hS rfl rfl ?_ | refine sC2 hS rfl rfl ?_ | refine sC3 hS rfl rfl rfl ?_ | refine sC4 hS rfl rfl rfl ?_)); clear hS; first | ((fail_if_success guard_hyp g1); intro g1 w hS) | ((fail_if_success guard_hyp g2); intro g2 w hS) | ((fail_if_success guard_hyp g3); intro g3 w hS) | ((fail_if_success guard_hyp g4); intro g4 w hS) | ((fail_if_success guard_hyp g5); intro g5 w hS) | fail) | fail)
                  refine dr_start0 []  hS (by kernel_rfl) rfl ?_; clear hS; intro w hS
                  refine dP hS 0 rfl rfl ?_
                  (try simp only [Act.put, nA, nB, nC])
                  first | refine dL1 hS 1 rfl rfl rfl rfl ?_ | refine dL2 hS 1 rfl rfl rfl rfl ?_ | refine dL3 hS 1 rfl rfl rfl ?_ | refine dL4 hS 1 rfl rfl rfl ?_ | refine dL5 hS 1 rfl rfl rfl ?_ | refine dL6 hS 1 rfl rfl rfl ?_ | refine dL7 hS 1 rfl rfl rfl ?_
                  (try simp only [Act.put, nA, nB, nC])
                  refine dM hS 2 rfl rfl rfl ?_
                  (try simp only [Act.put, nA, nB, nC])
                  refine dP hS 3 rfl rfl ?_
                  (try simp only [Act.put, nA, nB, nC])
                  first | refine dL1 hS 4 rfl rfl rfl rfl ?_ | refine dL2 hS 4 rfl rfl rfl rfl ?_ | refine dL3 hS 4 rfl rfl rfl ?_ | refine dL4 hS 4 rfl rfl rfl ?_ | refine dL5 hS 4 rfl rfl rfl ?_ | refine dL6 hS 4 rfl rfl rfl ?_ | refine dL7 hS 4 rfl rfl rfl ?_
                  (try simp only [Act.put, nA, nB, nC])
                  refine dP hS 5 rfl rfl ?_
                  (try simp only [Act.put, nA, nB, nC])
                  first | refine dL1 hS 6 rfl rfl rfl rfl ?_ | refine dL2 hS 6 rfl rfl rfl rfl ?_ | refine dL3 hS 6 rfl rfl rfl ?_ | refine dL4 hS 6 rfl rfl rfl ?_ | refine dL5 hS 6 rfl rfl rfl ?_ | refine dL6 hS 6 rfl rfl rfl ?_ | refine dL7 hS 6 rfl rfl rfl ?_
                  (try simp only [Act.put, nA, nB, nC])
                  refine dP hS 7 rfl rfl ?_
                  (try simp only [Act.put, nA, nB, nC])
                  refine dr_done (by kernel_rfl) ?_
                  go_wp2_with (first | (refine oL ?_; (first | refine sL1 hS rfl rfl rfl ?_ | refine sL2 hS rfl rfl rfl ?_ | refine sL3 hS rfl rfl ?_ | refine sL4 hS rfl rfl ?_ | refine sL5 hS rfl rfl ?_ | refine sL6 hS rfl rfl ?_ | refine sL7 hS rfl rfl ?_)) | (refine oS ?_; ((first | refine sS1 hS rfl rfl rfl ?_ | refine sS2 hS rfl rfl rfl ?_ | refine sS3 hS rfl rfl rfl ?_ | refine sS4 hS rfl rfl rfl ?_ | refine sS5 hS rfl rfl rfl ?_); clear hS; intro w hS)) | (refine oP ?_; ((first | refine sP1 hS rfl rfl rfl ?_ | refine sP2 hS rfl rfl rfl ?_ | refine sP3 hS rfl rfl rfl ?_); clear hS; first | ((fail_if_success guard_hyp L1); intro L1 cl1 w hL1 hM1 hS) | ((fail_if_success guard_hyp L2); intro L2 cl2 w hL2 hM2 hS) | fail)) | ((first | refine sN1 hS rfl ?_ | (refine oC ?_; first | refine sC0 hS rfl ?_ | refine sC1 hS rfl rfl ?_ | refine sC2 hS rfl rfl ?_ | refine sC3 hS rfl rfl rfl ?_ | refine sC4 hS rfl rfl rfl ?_)); clear hS; first | ((fail_if_success guard_hyp g1); intro g1 w hS) | ((fail_if_success guard_hyp g2); intro g2 w hS) | ((fail_if_success guard_hyp g3); intro g3 w hS) | ((fail_if_success guard_hyp g4); intro g4 w hS) | ((fail_if_success guard_hyp g5); intro g5 w hS) | fail) | fail)
                  refine dr_start0 []  hS (by kernel_rfl) rfl ?_; clear hS; intro w hS
                  refine dP hS 0 rfl rfl ?_
                  (try simp only [Act.put, nA, nB, nC])
                  first | refine dL1 hS 1 rfl rfl rfl rfl ?_ | refine dL2 hS 1 rfl rfl rfl rfl ?_ | refine dL3 hS 1 rfl rfl rfl ?_ | refine dL4 hS 1 rfl rfl rfl ?_ | refine dL5 hS 1 rfl rfl rfl ?_ | refine dL6 hS 1 rfl rfl rfl ?_ | refine dL7 hS 1 rfl rfl rfl ?_
                  (try simp only [Act.put, nA, nB, nC])
                  refine dP hS 2 rfl rfl ?_
                  (try simp only [Act.put, nA, nB, nC])
                  refine dM hS 3 rfl rfl rfl ?_
                  (try simp only [Act.put, nA, nB, nC])
                  first | refine dP hS 4 rfl rfl ?_ | refine dQ hS 4 rfl rfl ?_
                  (try simp only [Act.put, nA, nB, nC])
                  first | refine dL1 hS 5 rfl rfl rfl rfl ?_ | refine dL2 hS 5 rfl rfl rfl rfl ?_ | refine dL3 hS 5 rfl rfl rfl ?_ | refine dL4 hS 5 rfl rfl rfl ?_ | refine dL5 hS 5 rfl rfl rfl ?_ | refine dL6 hS 5 rfl rfl rfl ?_ | refine dL7 hS 5 rfl rfl rfl ?_ | refine dQ hS 5 rfl rfl ?_
                  (try simp only [Act.put, nA, nB, nC])
                  first | refine dM hS 6 rfl rfl rfl ?_ | refine dQ hS 6 rfl rfl ?_
                  (try simp only [Act.put, nA, nB, nC])
                  first | refine dP hS 7 rfl rfl ?_ | refine dQ hS 7 rfl rfl ?_
                  (try simp only [Act.put, nA, nB, nC])
                  first | refine dL1 hS 8 rfl rfl rfl rfl ?_ | refine dL2 hS 8 rfl rfl rfl rfl ?_ | refine dL3 hS 8 rfl rfl rfl ?_ | refine dL4 hS 8 rfl rfl rfl ?_ | refine dL5 hS 8 rfl rfl rfl ?_ | refine dL6 hS 8 rfl rfl rfl ?_ | refine dL7 hS 8 rfl rfl rfl ?_ | refine dQ hS 8 rfl rfl ?_
                  (try simp only [Act.put, nA, nB, nC])
                  first | refine dP hS 9 rfl rfl ?_ | refine dQ hS 9 rfl rfl ?_
                  (try simp only [Act.put, nA, nB, nC])
                  first | refine dL1 hS 10 rfl rfl rfl rfl ?_ | refine dL2 hS 10 rfl rfl rfl rfl ?_ | refine dL3 hS 10 rfl rfl rfl ?_ | refine dL4 hS 10 rfl rfl rfl ?_ | refine dL5 hS 10 rfl rfl rfl ?_ | refine dL6 hS 10 rfl rfl rfl ?_ | refine dL7 hS 10 rfl rfl rfl ?_ | refine dQ hS 10 rfl rfl ?_
                  (try simp only [Act.put, nA, nB, nC])
                  first | refine dP hS 11 rfl rfl ?_ | refine dQ hS 11 rfl rfl ?_
                  (try simp only [Act.put, nA, nB, nC])
                  refine dP hS 12 rfl rfl ?_
                  (try simp only [Act.put, nA, nB, nC])
                  refine dr_done (by kernel_rfl) ?_
                  go_wp2_with (first | (refine oL ?_; (first | refine sL1 hS rfl rfl rfl ?_ | refine sL2 hS rfl rfl rfl ?_ | refine sL3 hS rfl rfl ?_ | refine sL4 hS rfl rfl ?_ | refine sL5 hS rfl rfl ?_ | refine sL6 hS rfl rfl ?_ | refine sL7 hS rfl rfl ?_)) | (refine oS ?_; ((first | refine sS1 hS rfl rfl rfl ?_ | refine sS2 hS rfl rfl rfl ?_ | refine sS3 hS rfl rfl rfl ?_ | refine sS4 hS rfl rfl rfl ?_ | refine sS5 hS rfl rfl rfl ?_); clear hS; intro w hS)) | (refine oP ?_; ((first | refine sP1 hS rfl rfl rfl ?_ | refine sP2 hS rfl rfl rfl ?_ | refine sP3 hS rfl rfl rfl ?_); clear hS; first | ((fail_if_success guard_hyp L1); intro L1 cl1 w hL1 hM1 hS) | ((fail_if_success guard_hyp L2); intro L2 cl2 w hL2 hM2 hS) | fail)) | ((first | refine sN1 hS rfl ?_ | (refine oC ?_; first | refine sC0 hS rfl ?_ | refine sC1 hS rfl rfl ?_ | refine sC2 hS rfl rfl ?_ | refine sC3 hS rfl rfl rfl ?_ | refine sC4 hS rfl rfl rfl ?_)); clear hS; first | ((fail_if_success guard_hyp g1); intro g1 w hS) | ((fail_if_success guard_hyp g2); intro g2 w hS) | ((fail_if_success guard_hyp g3); intro g3 w hS) | ((fail_if_success guard_hyp g4); intro g4 w hS) | ((fail_if_success guard_hyp g5); intro g5 w hS) | fail) | fail)
                  go_roundw
                  case measure => simp [intOf]; omega
                  exact ⟨k + 1, sn + 1, gt + 1, by omega, by omega, by omega, by go_num, by go_num, by go_num, Lib.hid ⟨by rw [HBD.out.1.1]; simp, by rw [HBD.out.1.2]; simp⟩, hS.re⟩
                · have d3 : decide (at_ ≤ y1) = false := by simp [h3]
                  have hgo' : go = false := by rw [hgo, d2, d3]; rfl
                  clear hgo
                  subst hgo'
                  have hB := HBD.out.2
                  simp at hB
                  go_wp2_with (first | (refine oL ?_; (first | refine sL1 hS rfl rfl rfl ?_ | refine sL2 hS rfl rfl rfl ?_ | refine sL3 hS rfl rfl ?_ | refine sL4 hS rfl rfl ?_ | refine sL5 hS rfl rfl ?_ | refine sL6 hS rfl rfl ?_ | refine sL7 hS rfl rfl ?_)) | (refine oS ?_; ((first | refine sS1 hS rfl rfl rfl ?_ | refine sS2 hS rfl rfl rfl ?_ | refine sS3 hS rfl rfl rfl ?_ | refine sS4 hS rfl rfl rfl ?_ | refine sS5 hS rfl rfl rfl ?_); clear hS; intro w hS)) | (refine oP ?_; ((first | refine sP1 hS rfl rfl rfl ?_ | refine sP2 hS rfl rfl rfl ?_ | refine sP3 hS rfl rfl rfl ?_); clear hS; first | ((fail_if_success guard_hyp L1); intro L1 cl1 w hL1 hM1 hS) | ((fail_if_success guard_hyp L2); intro L2 cl2 w hL2 hM2 hS) | fail)) | ((first | refine sN1 hS rfl ?_ | (refine oC ?_; first | refine sC0 hS rfl ?_ | refine sC1 hS rfl rfl ?_ | refine sC2 hS rfl rfl ?_ | refine sC3 hS rfl rfl rfl ?_ | refine sC4 hS rfl rfl rfl ?_)); clear hS; first | ((fail_if_success guard_hyp g1); intro g1 w hS) | ((fail_if_success guard_hyp g2); intro g2 w hS) | ((fail_if_success guard_hyp g3); intro g3 w hS) | ((fail_if_success guard_hyp g4); intro g4 w hS) | ((fail_if_success guard_hyp g5); intro g5 w hS) | fail) | fail)
                  refine dr_start0 []  hS (by kernel_rfl) rfl ?_; clear hS; intro w hS
                  refine dP hS 0 rfl rfl ?_
                  (try simp only [Act.put, nA, nB, nC])
                  first | refine dL1 hS 1 rfl rfl rfl rfl ?_ | refine dL2 hS 1 rfl rfl rfl rfl ?_ | refine dL3 hS 1 rfl rfl rfl ?_ | refine dL4 hS 1 rfl rfl rfl ?_ | refine dL5 hS 1 rfl rfl rfl ?_ | refine dL6 hS 1 rfl rfl rfl ?_ | refine dL7 hS 1 rfl rfl rfl ?_
                  (try simp only [Act.put, nA, nB, nC])
                  refine dM hS 2 rfl rfl rfl ?_
                  (try simp only [Act.put, nA, nB, nC])
                  refine dP hS 3 rfl rfl ?_
                  (try simp only [Act.put, nA, nB, nC])
                  first | refine dL1 hS 4 rfl rfl rfl rfl ?_ | refine dL2 hS 4 rfl rfl rfl rfl ?_ | refine dL3 hS 4 rfl rfl rfl ?_ | refine dL4 hS 4 rfl rfl rfl ?_ | refine dL5 hS 4 rfl rfl rfl ?_ | refine dL6 hS 4 rfl rfl rfl ?_ | refine dL7 hS 4 rfl rfl rfl ?_
                  (try simp only [Act.put, nA, nB, nC])
                  refine dP hS 5 rfl rfl ?_
                  (try simp only [Act.put, nA, nB, nC])
                  first | refine dL1 hS 6 rfl rfl rfl rfl ?_ | refine dL2 hS 6 rfl rfl rfl rfl ?_ | refine dL3 hS 6 rfl rfl rfl ?_ | refine dL4 hS 6 rfl rfl rfl ?_ | refine dL5 hS 6 rfl rfl rfl ?_ | refine dL6 hS 6 rfl rfl rfl ?_ | refine dL7 hS 6 rfl rfl rfl ?_
                  (try simp only [Act.put, nA, nB, nC])
                  refine dP hS 7 rfl rfl ?_
                  (try simp only [Act.put, nA, nB, nC])
                  refine dr_done (by kernel_rfl) ?_
                  go_wp2_with (first | (refine oL ?_; (first | refine sL1 hS rfl rfl rfl ?_ | refine sL2 hS rfl rfl rfl ?_ | refine sL3 hS rfl rfl ?_ | refine sL4 hS rfl rfl ?_ | refine sL5 hS rfl rfl ?_ | refine sL6 hS rfl rfl ?_ | refine sL7 hS rfl rfl ?_)) | (refine oS ?_; ((first | refine sS1 hS rfl rfl rfl ?_ | refine sS2 hS rfl rfl rfl ?_ | refine sS3 hS rfl rfl rfl ?_ | refine sS4 hS rfl rfl rfl ?_ | refine sS5 hS rfl rfl rfl ?_); clear hS; intro w hS)) | (refine oP ?_; ((first | refine sP1 hS rfl rfl rfl ?_ | refine sP2 hS rfl rfl rfl ?_ | refine sP3 hS rfl rfl rfl ?_); clear hS; first | ((fail_if_success guard_hyp L1); intro L1 cl1 w hL1 hM1 hS) | ((fail_if_success guard_hyp L2); intro L2 cl2 w hL2 hM2 hS) | fail)) | ((first | refine sN1 hS rfl ?_ | (refine oC ?_; first | refine sC0 hS rfl ?_ | refine sC1 hS rfl rfl ?_ | refine sC2 hS rfl rfl ?_ | refine sC3 hS rfl rfl rfl ?_ | refine sC4 hS rfl rfl rfl ?_)); clear hS; first | ((fail_if_success guard_hyp g1); intro g1 w hS) | ((fail_if_success guard_hyp g2); intro g2 w hS) | ((fail_if_success guard_hyp g3); intro g3 w hS) | ((fail_if_success guard_hyp g4); intro g4 w hS) | ((fail_if_success guard_hyp g5); intro g5 w hS) | fail) | fail)
                  refine dr_start0 []  hS (by kernel_rfl) rfl ?_; clear hS; intro w hS
                  refine dP hS 0 rfl rfl ?_
                  (try simp only [Act.put, nA, nB, nC])
                  first | refine dL1 hS 1 rfl rfl rfl rfl ?_ | refine dL2 hS 1 rfl rfl rfl rfl ?_ | refine dL3 hS 1 rfl rfl rfl ?_ | refine dL4 hS 1 rfl rfl rfl ?_ | refine dL5 hS 1 rfl rfl rfl ?_ | refine dL6 hS 1 rfl rfl rfl ?_ | refine dL7 hS 1 rfl rfl rfl ?_
                  (try simp only [Act.put, nA, nB, nC])
                  refine dP hS 2 rfl rfl ?_
                  (try simp only [Act.put, nA, nB, nC])
                  refine dM hS 3 rfl rfl rfl ?_
                  (try simp only [Act.put, nA, nB, nC])
                  first | refine dP hS 4 rfl rfl ?_ | refine dQ hS 4 rfl rfl ?_
                  (try simp only [Act.put, nA, nB, nC])
                  first | refine dL1 hS 5 rfl rfl rfl rfl ?_ | refine dL2 hS 5 rfl rfl rfl rfl ?_ | refine dL3 hS 5 rfl rfl rfl ?_ | refine dL4 hS 5 rfl rfl rfl ?_ | refine dL5 hS 5 rfl rfl rfl ?_ | refine dL6 hS 5 rfl rfl rfl ?_ | refine dL7 hS 5 rfl rfl rfl ?_ | refine dQ hS 5 rfl rfl ?_
                  (try simp only [Act.put, nA, nB, nC])
                  first | refine dM hS 6 rfl rfl rfl ?_ | refine dQ hS 6 rfl rfl ?_
                  (try simp only [Act.put, nA, nB, nC])
                  first | refine dP hS 7 rfl rfl ?_ | refine dQ hS 7 rfl rfl ?_
                  (try simp only [Act.put, nA, nB, nC])
                  first | refine dL1 hS 8 rfl rfl rfl rfl ?_ | refine dL2 hS 8 rfl rfl rfl rfl ?_ | refine dL3 hS 8 rfl rfl rfl ?_ | refine dL4 hS 8 rfl rfl rfl ?_ | refine dL5 hS 8 rfl rfl rfl ?_ | refine dL6 hS 8 rfl rfl rfl ?_ | refine dL7 hS 8 rfl rfl rfl ?_ | refine dQ hS 8 rfl rfl ?_
                  (try simp only [Act.put, nA, nB, nC])
                  first | refine dP hS 9 rfl rfl ?_ | refine dQ hS 9 rfl rfl ?_
                  (try simp only [Act.put, nA, nB, nC])
                  first | refine dL1 hS 10 rfl rfl rfl rfl ?_ | refine dL2 hS 10 rfl rfl rfl rfl ?_ | refine dL3 hS 10 rfl rfl rfl ?_ | refine dL4 hS 10 rfl rfl rfl ?_ | refine dL5 hS 10 rfl rfl rfl ?_ | refine dL6 hS 10 rfl rfl rfl ?_ | refine dL7 hS 10 rfl rfl rfl ?_ | refine dQ hS 10 rfl rfl ?_
                  (try simp only [Act.put, nA, nB, nC])
                  first | refine dP hS 11 rfl rfl ?_ | refine dQ hS 11 rfl rfl ?_
                  (try simp only [Act.put, nA, nB, nC])
                  refine dP hS 12 rfl rfl ?_
                  (try simp only [Act.put, nA, nB, nC])
                  refine dr_done (by kernel_rfl) ?_
                  go_wp2_with (first | (refine oL ?_; (first | refine sL1 hS rfl rfl rfl ?_ | refine sL2 hS rfl rfl rfl ?_ | refine sL3 hS rfl rfl ?_ | refine sL4 hS rfl rfl ?_ | refine sL5 hS rfl rfl ?_ | refine sL6 hS rfl rfl ?_ | refine sL7 hS rfl rfl ?_)) | (refine oS ?_; ((first | refine sS1 hS rfl rfl rfl ?_ | refine sS2 hS rfl rfl rfl ?_ | refine sS3 hS rfl rfl rfl ?_ | refine sS4 hS rfl rfl rfl ?_ | refine sS5 hS rfl rfl rfl ?_); clear hS; intro w hS)) | (refine oP ?_; ((first | refine sP1 hS rfl rfl rfl ?_ | refine sP2 hS rfl rfl rfl ?_ | refine sP3 hS rfl rfl rfl ?_); clear hS; first | ((fail_if_success guard_hyp L1); intro L1 cl1 w hL1 hM1 hS) | ((fail_if_success guard_hyp L2); intro L2 cl2 w hL2 hM2 hS) | fail)) | ((first | refine sN1 hS rfl ?_ | (refine oC ?_; first | refine sC0 hS rfl ?_ | refine sC1 hS rfl rfl ?_ | refine sC2 hS rfl rfl ?_ | refine sC3 hS rfl rfl rfl ?_ | refine sC4 hS rfl rfl rfl ?_)); clear hS; first | ((fail_if_success guard_hyp g1); intro g1 w hS) | ((fail_if_success guard_hyp g2); intro g2 w hS) | ((fail_if_success guard_hyp g3); intro g3 w hS) | ((fail_if_success guard_hyp g4); intro g4 w hS) | ((fail_if_success guard_hyp g5); intro g5 w hS) | fail) | fail)
                  go_roundw
                  case measure => simp [intOf]; omega
                  exact ⟨k + 1, sn + 1, gt, by omega, by omega, by omega, by go_num, by go_num, by go_num, Lib.hid ⟨by rw [HBD.out.1.1]; simp, by rw [HBD.out.1.2]; simp⟩, hS.re⟩
              · have d2 : decide (0 < at_) = false := by simp [h2]
                have hgo' : go = false := by rw [hgo, d2]; rfl
                clear hgo
                subst hgo'
                have hB := HBD.out.2
                simp at hB
                go_wp2_with (first | (refine oL ?_; (first | refine sL1 hS rfl rfl rfl ?_ | refine sL2 hS rfl rfl rfl ?_ | refine sL3 hS rfl rfl ?_ | refine sL4 hS rfl rfl ?_ | refine sL5 hS rfl rfl ?_ | refine sL6 hS rfl rfl ?_ | refine sL7 hS rfl rfl ?_)) | (refine oS ?_; ((first | refine sS1 hS rfl rfl rfl ?_ | refine sS2 hS rfl rfl rfl ?_ | refine sS3 hS rfl rfl rfl ?_ | refine sS4 hS rfl rfl rfl ?_ | refine sS5 hS rfl rfl rfl ?_); clear hS; intro w hS)) | (refine oP ?_; ((first | refine sP1 hS rfl rfl rfl ?_ | refine sP2 hS rfl rfl rfl ?_ | refine sP3 hS rfl rfl rfl ?_); clear hS; first | ((fail_if_success guard_hyp L1); intro L1 cl1 w hL1 hM1 hS) | ((fail_if_success guard_hyp L2); intro L2 cl2 w hL2 hM2 hS) | fail)) | ((first | refine sN1 hS rfl ?_ | (refine oC ?_; first | refine sC0 hS rfl ?_ | refine sC1 hS rfl rfl ?_ | refine sC2 hS rfl rfl ?_ | refine sC3 hS rfl rfl rfl ?_ | refine sC4 hS rfl rfl rfl ?_)); clear hS; first | ((fail_if_success guard_hyp g1); intro g1 w hS) | ((fail_if_success guard_hyp g2); intro g2 w hS) | ((fail_if_success guard_hyp g3); intro g3 w hS) | ((fail_if_success guard_hyp g4); intro g4 w hS) | ((fail_if_success guard_hyp g5); intro g5 w hS) | fail) | fail)
                refine dr_start0 []  hS (by kernel_rfl) rfl ?_; clear hS; intro w hS
                refine dP hS 0 rfl rfl ?_
                (try simp only [Act.put, nA, nB, nC])
                first | refine dL1 hS 1 rfl rfl rfl rfl ?_ | refine dL2 hS 1 rfl rfl rfl rfl ?_ | refine dL3 hS 1 rfl rfl rfl ?_ | refine dL4 hS 1 rfl rfl rfl ?_ | refine dL5 hS 1 rfl rfl rfl ?_ | refine dL6 hS 1 rfl rfl rfl ?_ | refine dL7 hS 1 rfl rfl rfl ?_
                (try simp only [Act.put, nA, nB, nC])
                refine dM hS 2 rfl rfl rfl ?_
                (try simp only [Act.put, nA, nB, nC])
                refine dP hS 3 rfl rfl ?_
                (try simp only [Act.put, nA, nB, nC])
                first | refine dL1 hS 4 rfl rfl rfl rfl ?_ | refine dL2 hS 4 rfl rfl rfl rfl ?_ | refine dL3 hS 4 rfl rfl rfl ?_ | refine dL4 hS 4 rfl rfl rfl ?_ | refine dL5 hS 4 rfl rfl rfl ?_ | refine dL6 hS 4 rfl rfl rfl ?_ | refine dL7 hS 4 rfl rfl rfl ?_
                (try simp only [Act.put, nA, nB, nC])
                refine dP hS 5 rfl rfl ?_
                (try simp only [Act.put, nA, nB, nC])
                first | refine dL1 hS 6 rfl rfl rfl rfl ?_ | refine dL2 hS 6 rfl rfl rfl rfl ?_ | refine dL3 hS 6 rfl rfl rfl ?_ | refine dL4 hS 6 rfl rfl rfl ?_ | refine dL5 hS 6 rfl rfl rfl ?_ | refine dL6 hS 6 rfl rfl rfl ?_ | refine dL7 hS 6 rfl rfl rfl ?_
                (try simp only [Act.put, nA, nB, nC])
                refine dP hS 7 rfl rfl ?_
                (try simp only [Act.put, nA, nB, nC])
                refine dr_done (by kernel_rfl) ?_
                go_wp2_with (first | (refine oL ?_; (first | refine sL1 hS rfl rfl rfl ?_ | refine sL2 hS rfl rfl rfl ?_ | refine sL3 hS rfl rfl ?_ | refine sL4 hS rfl rfl ?_ | refine sL5 hS rfl rfl ?_ | refine sL6 hS rfl rfl ?_ | refine sL7 hS rfl rfl ?_)) | (refine oS ?_; ((first | refine sS1 hS rfl rfl rfl ?_ | refine sS2 hS rfl rfl rfl ?_ | refine sS3 hS rfl rfl rfl ?_ | refine sS4 hS rfl rfl rfl ?_ | refine sS5 hS rfl rfl rfl ?_); clear hS; intro w hS)) | (refine oP ?_; ((first | refine sP1 hS rfl rfl rfl ?_ | refine sP2 hS rfl rfl rfl ?_ | refine sP3 hS rfl rfl rfl ?_); clear hS; first | ((fail_if_success guard_hyp L1); intro L1 cl1 w hL1 hM1 hS) | ((fail_if_success guard_hyp L2); intro L2 cl2 w hL2 hM2 hS) | fail)) | ((first | refine sN1 hS rfl ?_ | (refine oC ?_; first | refine sC0 hS rfl ?_ | refine sC1 hS rfl rfl ?_ | refine sC2 hS rfl rfl ?_ | refine sC3 hS rfl rfl rfl ?_ | refine sC4 hS rfl rfl rfl ?_)); clear hS; first | ((fail_if_success guard_hyp g1); intro g1 w hS) | ((fail_if_success guard_hyp g2); intro g2 w hS) | ((fail_if_success guard_hyp g3); intro g3 w hS) | ((fail_if_success guard_hyp g4); intro g4 w hS) | ((fail_if_success guard_hyp g5); intro g5 w hS) | fail) | fail)
                refine dr_start0 []  hS (by kernel_rfl) rfl ?_; clear hS; intro w hS
                refine dP hS 0 rfl rfl ?_
                (try simp only [Act.put, nA, nB, nC])
                first | refine dL1 hS 1 rfl rfl rfl rfl ?_ | refine dL2 hS 1 rfl rfl rfl rfl ?_ | refine dL3 hS 1 rfl rfl rfl ?_ | refine dL4 hS 1 rfl rfl rfl ?_ | refine dL5 hS 1 rfl rfl rfl ?_ | refine dL6 hS 1 rfl rfl rfl ?_ | refine dL7 hS 1 rfl rfl rfl ?_
                (try simp only [Act.put, nA, nB, nC])
                refine dP hS 2 rfl rfl ?_
                (try simp only [Act.put, nA, nB, nC])
                refine dM hS 3 rfl rfl rfl ?_
                (try simp only [Act.put, nA, nB, nC])
                first | refine dP hS 4 rfl rfl ?_ | refine dQ hS 4 rfl rfl ?_
                (try simp only [Act.put, nA, nB, nC])
                first | refine dL1 hS 5 rfl rfl rfl rfl ?_ | refine dL2 hS 5 rfl rfl rfl rfl ?_ | refine dL3 hS 5 rfl rfl rfl ?_ | refine dL4 hS 5 rfl rfl rfl ?_ | refine dL5 hS 5 rfl rfl rfl ?_ | refine dL6 hS 5 rfl rfl rfl ?_ | refine dL7 hS 5 rfl rfl rfl ?_ | refine dQ hS 5 rfl rfl ?_
                (try simp only [Act.put, nA, nB, nC])
                first | refine dM hS 6 rfl rfl rfl ?_ | refine dQ hS 6 rfl rfl ?_
                (try simp only [Act.put, nA, nB, nC])
                first | refine dP hS 7 rfl rfl ?_ | refine dQ hS 7 rfl rfl ?_
                (try simp only [Act.put, nA, nB, nC])
                first | refine dL1 hS 8 rfl rfl rfl rfl ?_ | refine dL2 hS 8 rfl rfl rfl rfl ?_ | refine dL3 hS 8 rfl rfl rfl ?_ | refine dL4 hS 8 rfl rfl rfl ?_ | refine dL5 hS 8 rfl rfl rfl ?_ | refine dL6 hS 8 rfl rfl rfl ?_ | refine dL7 hS 8 rfl rfl rfl ?_ | refine dQ hS 8 rfl rfl ?_
                (try simp only [Act.put, nA, nB, nC])
                first | refine dP hS 9 rfl rfl ?_ | refine dQ hS 9 rfl rfl ?_
                (try simp only [Act.put, nA, nB, nC])
                first | refine dL1 hS 10 rfl rfl rfl rfl ?_ | refine dL2 hS 10 rfl rfl rfl rfl ?_ | refine dL3 hS 10 rfl rfl rfl ?_ | refine dL4 hS 10 rfl rfl rfl ?_ | refine dL5 hS 10 rfl rfl rfl ?_ | refine dL6 hS 10 rfl rfl rfl ?_ | refine dL7 hS 10 rfl rfl rfl ?_ | refine dQ hS 10 rfl rfl ?_
                (try simp only [Act.put, nA, nB, nC])
                first | refine dP hS 11 rfl rfl ?_ | refine dQ hS 11 rfl rfl ?_
                (try simp only [Act.put, nA, nB, nC])
                refine dP hS 12 rfl rfl ?_
                (try simp only [Act.put, nA, nB, nC])
                refine dr_done (by kernel_rfl) ?_
                go_wp2_with (first | (refine oL ?_; (first | refine sL1 hS rfl rfl rfl ?_ | refine sL2 hS rfl rfl rfl ?_ | refine sL3 hS rfl rfl ?_ | refine sL4 hS rfl rfl ?_ | refine sL5 hS rfl rfl ?_ | refine sL6 hS rfl rfl ?_ | refine sL7 hS rfl rfl ?_)) | (refine oS ?_; ((first | refine sS1 hS rfl rfl rfl ?_ | refine sS2 hS rfl rfl rfl ?_ | refine sS3 hS rfl rfl rfl ?_ | refine sS4 hS rfl rfl rfl ?_ | refine sS5 hS rfl rfl rfl ?_); clear hS; intro w hS)) | (refine oP ?_; ((first | refine sP1 hS rfl rfl rfl ?_ | refine sP2 hS rfl rfl rfl ?_ | refine sP3 hS rfl rfl rfl ?_); clear hS; first | ((fail_if_success guard_hyp L1); intro L1 cl1 w hL1 hM1 hS) | ((fail_if_success guard_hyp L2); intro L2 cl2 w hL2 hM2 hS) | fail)) | ((first | refine sN1 hS rfl ?_ | (refine oC ?_; first | refine sC0 hS rfl ?_ | refine sC1 hS rfl rfl ?_ | refine sC2 hS rfl rfl ?_ | refine sC3 hS rfl rfl rfl ?_ | refine sC4 hS rfl rfl rfl ?_)); clear hS; first | ((fail_if_success guard_hyp g1); intro g1 w hS) | ((fail_if_success guard_hyp g2); intro g2 w hS) | ((fail_if_success guard_hyp g3); intro g3 w hS) | ((fail_if_success guard_hyp g4); intro g4 w hS) | ((fail_if_success guard_hyp g5); intro g5 w hS) | fail) | fail)
                go_roundw
                case measure => simp [intOf]; omega
                exact ⟨k + 1, sn + 1, gt, by omega, by omega, by omega, by go_num, by go_num, by go_num, Lib.hid ⟨by rw [HBD.out.1.1]; simp, by rw [HBD.out.1.2]; simp⟩, hS.re⟩
            · have d1 : decide (ix ≤ y2) = false := by simp [h1]
              rw [d1] at hse
              subst hse
              have hgo' : go = false := by rw [hgo]; rfl
              clear hgo
              subst hgo'
              go_wp2_with (first | (refine oL ?_; (first | refine sL1 hS rfl rfl rfl ?_ | refine sL2 hS rfl rfl rfl ?_ | refine sL3 hS rfl rfl ?_ | refine sL4 hS rfl rfl ?_ | refine sL5 hS rfl rfl ?_ | refine sL6 hS rfl rfl ?_ | refine sL7 hS rfl rfl ?_)) | (refine oS ?_; ((first | refine sS1 hS rfl rfl rfl ?_ | refine sS2 hS rfl rfl rfl ?_ | refine sS3 hS rfl rfl rfl ?_ | refine sS4 hS rfl rfl rfl ?_ | refine sS5 hS rfl rfl rfl ?_); clear hS; intro w hS)) | (refine oP ?_; ((first | refine sP1 hS rfl rfl rfl ?_ | refine sP2 hS rfl rfl rfl ?_ | refine sP3 hS rfl rfl rfl ?_); clear hS; first | ((fail_if_success guard_hyp L1); intro L1 cl1 w hL1 hM1 hS) | ((fail_if_success guard_hyp L2); intro L2 cl2 w hL2 hM2 hS) | fail)) | ((first | refine sN1 hS rfl ?_ | (refine oC ?_; first | refine sC0 hS rfl ?_ | refine sC1 hS rfl rfl ?_ | refine sC2 hS rfl rfl ?_ | refine sC3 hS rfl rfl rfl ?_ | refine sC4 hS rfl rfl rfl ?_)); clear hS; first | ((fail_if_success guard_hyp g1); intro g1 w hS) | ((fail_if_success guard_hyp g2); intro g2 w hS) | ((fail_if_success guard_hyp g3); intro g3 w hS) | ((fail_if_success guard_hyp g4); intro g4 w hS) | ((fail_if_success guard_hyp g5); intro g5 w hS) | fail) | fail)
              refine dr_start0 []  hS (by kernel_rfl) rfl ?_; clear hS; intro w hS
              refine dP hS 0 rfl rfl ?_
              (try simp only [Act.put, nA, nB, nC])
              first | refine dL1 hS 1 rfl rfl rfl rfl ?_ | refine dL2 hS 1 rfl rfl rfl rfl ?_ | refine dL3 hS 1 rfl rfl rfl ?_ | refine dL4 hS 1 rfl rfl rfl ?_ | refine dL5 hS 1 rfl rfl rfl ?_ | refine dL6 hS 1 rfl rfl rfl ?_ | refine dL7 hS 1 rfl rfl rfl ?_
              (try simp only [Act.put, nA, nB, nC])
              refine dM hS 2 rfl rfl rfl ?_
              (try simp only [Act.put, nA, nB, nC])
              refine dP hS 3 rfl rfl ?_
              (try simp only [Act.put, nA, nB, nC])
              first | refine dL1 hS 4 rfl rfl rfl rfl ?_ | refine dL2 hS 4 rfl rfl rfl rfl ?_ | refine dL3 hS 4 rfl rfl rfl ?_ | refine dL4 hS 4 rfl rfl rfl ?_ | refine dL5 hS 4 rfl rfl rfl ?_ | refine dL6 hS 4 rfl rfl rfl ?_ | refine dL7 hS 4 rfl rfl rfl ?_
              (try simp only [Act.put, nA, nB, nC])
              refine dP hS 5 rfl rfl ?_
              (try simp only [Act.put, nA, nB, nC])
              first | refine dL1 hS 6 rfl rfl rfl rfl ?_ | refine dL2 hS 6 rfl rfl rfl rfl ?_ | refine dL3 hS 6 rfl rfl rfl ?_ | refine dL4 hS 6 rfl rfl rfl ?_ | refine dL5 hS 6 rfl rfl rfl ?_ | refine dL6 hS 6 rfl rfl rfl ?_ | refine dL7 hS 6 rfl rfl rfl ?_
              (try simp only [Act.put, nA, nB, nC])
              refine dP hS 7 rfl rfl ?_
              (try simp only [Act.put, nA, nB, nC])
              refine dr_done (by kernel_rfl) ?_
              go_wp2_with (first | (refine oL ?_; (first | refine sL1 hS rfl rfl rfl ?_ | refine sL2 hS rfl rfl rfl ?_ | refine sL3 hS rfl rfl ?_ | refine sL4 hS rfl rfl ?_ | refine sL5 hS rfl rfl ?_ | refine sL6 hS rfl rfl ?_ | refine sL7 hS rfl rfl ?_)) | (refine oS ?_; ((first | refine sS1 hS rfl rfl rfl ?_ | refine sS2 hS rfl rfl rfl ?_ | refine sS3 hS rfl rfl rfl ?_ | refine sS4 hS rfl rfl rfl ?_ | refine sS5 hS rfl rfl rfl ?_); clear hS; intro w hS)) | (refine oP ?_; ((first | refine sP1 hS rfl rfl rfl ?_ | refine sP2 hS rfl rfl rfl ?_ | refine sP3 hS rfl rfl rfl ?_); clear hS; first | ((fail_if_success guard_hyp L1); intro L1 cl1 w hL1 hM1 hS) | ((fail_if_success guard_hyp L2); intro L2 cl2 w hL2 hM2 hS) | fail)) | ((first | refine sN1 hS rfl ?_ | (refine oC ?_; first | refine sC0 hS rfl ?_ | refine sC1 hS rfl rfl ?_ | refine sC2 hS rfl rfl ?_ | refine sC3 hS rfl rfl rfl ?_ | refine sC4 hS rfl rfl rfl ?_)); clear hS; first | ((fail_if_success guard_hyp g1); intro g1 w hS) | ((fail_if_success guard_hyp g2); intro g2 w hS) | ((fail_if_success guard_hyp g3); intro g3 w hS) | ((fail_if_success guard_hyp g4); intro g4 w hS) | ((fail_if_success guard_hyp g5); intro g5 w hS) | fail) | fail)
              go_roundw
              case measure => simp [intOf]; omega
              exact ⟨k + 1, sn, gt, by omega, by omega, by omega, by go_num, by go_num, by go_num, Lib.hid ⟨by rw [HBD.out.1.1]; simp, by rw [HBD.out.1.2]; simp⟩, hS.re⟩
          · have HF := Lib.hid (show sn = pa.arcs.length ∧ (idxs (transit xs) p.arcs p.arcs.length).length + gt = sn by
              have h1 := HC.out.1
              have h2 := HC.out.2
              rw [List.take_of_length_le (by omega)] at h1 h2
              have h3 := HIC.out
              rw [List.take_length] at h3
              have h4 := HTC.out
              exact ⟨by rw [HSE2.out, h1], by rw [h3, h2, h1]; exact h4⟩)
            have hle := idxs_le (transit xs) p.arcs p.arcs.length
            generalize hids : idxs (transit xs) p.arcs p.arcs.length = ids at *
            have HID := Lib.hid hids
            clear hids
            have he1 : ((pa.arcs.length : Int) == (sn : Int)) = true := by rw [HF.out.1]; simp
            have he2 : ((ids.length : Int) == (sn : Int) - (gt : Int)) = true := by have := HF.out.2; rw [beq_iff_eq]; omega
            have hb := HF.out
            go_wp2_with (first | (go_at_call 40; refine (transit_n rfl rfl rfl HX.out (HPp.out.into hS.frozInto) HG.out.good hS.ri HV.out).mono ?_; rintro e w ⟨La, ka, rfl, ho, hx1⟩; replace hS := hS.addRow ho hx1; rw [HID.out] at hS ⊢) | (refine oL ?_; (first | refine sL1 hS rfl rfl rfl ?_ | refine sL2 hS rfl rfl rfl ?_ | refine sL3 hS rfl rfl ?_ | refine sL4 hS rfl rfl ?_ | refine sL5 hS rfl rfl ?_ | refine sL6 hS rfl rfl ?_ | refine sL7 hS rfl rfl ?_)) | (refine oS ?_; ((first | refine sS1 hS rfl rfl rfl ?_ | refine sS2 hS rfl rfl rfl ?_ | refine sS3 hS rfl rfl rfl ?_ | refine sS4 hS rfl rfl rfl ?_ | refine sS5 hS rfl rfl rfl ?_); clear hS; intro w hS)) | (refine oP ?_; ((first | refine sP1 hS rfl rfl rfl ?_ | refine sP2 hS rfl rfl rfl ?_ | refine sP3 hS rfl rfl rfl ?_); clear hS; first | ((fail_if_success guard_hyp L1); intro L1 cl1 w hL1 hM1 hS) | ((fail_if_success guard_hyp L2); intro L2 cl2 w hL2 hM2 hS) | fail)) | ((first | refine sN1 hS rfl ?_ | (refine oC ?_; first | refine sC0 hS rfl ?_ | refine sC1 hS rfl rfl ?_ | refine sC2 hS rfl rfl ?_ | refine sC3 hS rfl rfl rfl ?_ | refine sC4 hS rfl rfl rfl ?_)); clear hS; first | ((fail_if_success guard_hyp g1); intro g1 w hS) | ((fail_if_success guard_hyp g2); intro g2 w hS) | ((fail_if_success guard_hyp g3); intro g3 w hS) | ((fail_if_success guard_hyp g4); intro g4 w hS) | ((fail_if_success guard_hyp g5); intro g5 w hS) | fail) | fail)
            go_ret
            exact ⟨ret_bool (by have h := HF.out; rw [beq_iff_eq]; omega), hS.toExt⟩
open Go.ChangeShapes Go.WideShapes Go.ChangeAt
set_option maxRecDepth 100000 in
theorem lifted_PatternCuts (os : Os) (started : os.Started) (H : Type) (enc : TypeId × Value → H) :
    ReturnsInHanded {} Try.checked os 8 .any (Rows.patternCutsSpec.pre6 enc Try.prog Try.f8 Rows.patternCutsRow.domain false) (Rows.patternCutsSpec.post enc Try.prog Try.f8 false true false false) := by
  refine law_lifted (C := Try.checked) (s := Rows.patternCutsSpec) (tb := 4) (by kernel_rfl) started (by kernel_rfl) Try.func8
      (ChangeSpec.witness6 (enc := enc) (C := Try.checked) false ⟨#[], #[.slice none 0 0, .slice none 0 0], []⟩ 8 (by kernel_rfl) (by kernel_rfl) (by kernel_rfl) (by kernel_rfl))
      (by kernel_rfl) rfl rfl Try.underlying4 (read_of (by kernel_rfl)) ?_ ?_
  · intro ds hl
    match ds, hl with
    | [d0, d1], _ => exact ⟨rfl, rfl, rfl⟩
  · intro W base args ds p hval0 hA0
    have hval : ∀ (j : Nat) t v, Try.f8.params[j]? = some t → args[j]? = some v → Value.okWide Try.prog W .any base t v := hval0
    have hA : DataW.TrodAll enc Try.prog W 0 (fun _ => true) true Try.f8.params.toList args.toList ds p := hA0
    clear hA0 hval0
    rw [Try.params8] at hA hval
    obtain ⟨v0, v1, d0, d1, p0, p1, rfl, rfl, rfl, h0, h1⟩ := trodAll_two hA
    obtain ⟨A, c, xs, rfl, hri, hc, hc', hwf⟩ := open_nums Try.underlying22 Try.underlying5 (by kernel_rfl) (hval 0 _ v0 rfl rfl) h0
    obtain ⟨B, d, ys, rfl, hri1, hd, hd', hwf1⟩ := open_nums Try.underlying22 Try.underlying5 (by kernel_rfl) (hval 1 _ v1 rfl rfl) h1
    exact patternCuts_any A c xs B d ys W hri hc hc' (fun b hb => u8_bd (hwf b hb)) hri1 hd hd' (fun b hb => u8_bd (hwf1 b hb))
/-- PatternCuts returns true for every input, and leaves its arguments as they were. -/
theorem proved_PatternCuts : Rows.PatternCutsSaid :=
  OpenClaim.holds_of_wide 8 Try.f8 rfl rfl rfl rfl rfl rfl rfl ⟨rfl, rfl, rfl, rfl, rfl⟩ rfl rfl rfl rfl rfl (by kernel_rfl) Try.func8 (by kernel_rfl)
    (of_decide_eq_true (by kernel_rfl)) (by unfold Func.isWrapper; rw [if_neg (by decide +kernel)]; exact ⟨rfl, rfl⟩)
    (fun os started H enc _ => lifted_PatternCuts os started H enc)
end Go.Proofs.Ytjclgbkfnliiaaa
