/- DependGlobals returns true for every input. No condition. -/
import Derived.Test.YtkflmichekpfbaaRef19B
import Derived.Test.YtkflmichekpfbaaDepL
namespace Go.Proofs.Ytkflmichekpfbaa
open Go.RowKit
set_option linter.unusedVariables false
set_option linter.unusedSimpArgs false

theorem global_m {S T : Nat → Prop} {A1 A2 A3 X : Option Addr} {c1 c2 c3 cx n1 n2 n3 n : Nat} {p : Pat} {xs : List Int} {w : World} (e1 : p.len.length = n1) (e2 : p.ck.length = n2) (e3 : p.arcs.length = n3) (hn : n = n1) (hp : PatAt S w ⟨A1, c1, A2, c2, A3, c3⟩ p) (hg : Good p) (hx : RI T w X xs) (hl : xs.length = p.len.length) (ha : ∀ q, q < p.len.length → CkOk p (q, nth xs q)) :
    Calls Try.prog 49 #[.agg #[.slice A1 n1 c1, .slice A2 n2 c2, .slice A3 n3 c3], .slice X n cx] w (GlobRes p xs w) := by
  subst e1 e2 e3 hn; exact global_any ⟨A1, c1, A2, c2, A3, c3⟩ p X cx xs w hp hg hx hl ha
theorem glob_same {p : Pat} {xs : List Int} {b b' : Bool} (h : b = true ↔ IsGlobal p xs) (h' : b' = true ↔ IsGlobal p xs) : b' = b := by
  rw [Bool.eq_iff_iff, h, h']
set_option maxRecDepth 100000 in
set_option maxHeartbeats 6400000 in
theorem dependGlobals_any (C : Option Addr) (f : Nat) (bs : List Int) (C2 : Option Addr) (f2 : Nat) (b2 : List Int) (w0 : World) (hbs : RV (fun b => b < w0.heap.size) w0 C (bytes bs)) (hf : bs.length ≤ f) (hf' : f ≤ 9223372036854775807) (hby : ∀ b ∈ bs, 0 ≤ b ∧ b ≤ 255) (hb2 : RV (fun b => b < w0.heap.size) w0 C2 (bytes b2)) (hf2 : b2.length ≤ f2) (hf2' : f2 ≤ 9223372036854775807) (hy2 : ∀ b ∈ b2, 0 ≤ b ∧ b ≤ 255) :
    Calls Try.prog 11 #[.slice C bs.length f, .slice C2 b2.length f2] w0 fun e w' => e = .returned (.bool true) ∧ Ext w0 w' := by
  have hS := St.start w0 NoM
  have HB2 := Lib.hid (And.intro hy2 (RV.sub (S' := Froz w0 NoM) hb2 (fun k hk => ⟨hk, id⟩)))
  clear hy2 hb2
  have HB := Lib.hid (And.intro hby (RV.sub (S' := Froz w0 NoM) hbs (fun k hk => ⟨hk, id⟩)))
  clear hby hbs
  go_enter Try.func11, Try.ntmps11
  go_wp2_with (first | (go_at_call 31; refine (awake19_any _).mono ?_; rintro e w ⟨rfl, hx1⟩; replace hS := hS.ext hx1) | (refine oL ?_; (first | refine sL1 hS rfl rfl rfl ?_ | refine sL2 hS rfl rfl rfl ?_ | refine sL3 hS rfl rfl ?_ | refine sL4 hS rfl rfl ?_ | refine sL5 hS rfl rfl ?_ | refine sL6 hS rfl rfl ?_ | refine sL7 hS rfl rfl ?_)) | (refine oS ?_; ((first | refine sS1 hS rfl rfl rfl ?_ | refine sS2 hS rfl rfl rfl ?_ | refine sS3 hS rfl rfl rfl ?_ | refine sS4 hS rfl rfl rfl ?_ | refine sS5 hS rfl rfl rfl ?_); clear hS; intro w hS)) | ((first | refine sN1 hS rfl ?_); clear hS; first | ((fail_if_success guard_hyp g1); intro g1 w hS) | ((fail_if_success guard_hyp g2); intro g2 w hS) | fail) | fail)
  refine (new_st (m := 240) hS (by omega) HB.out.2 hf hf' HB.out.1).mono ?_
  rintro e w ⟨gc, κ, rfl, hS⟩
  clear HB
  generalize bs.take 240 = r at *
  go_wp2_with (first | (refine oL ?_; (first | refine sL1 hS rfl rfl rfl ?_ | refine sL2 hS rfl rfl rfl ?_ | refine sL3 hS rfl rfl ?_ | refine sL4 hS rfl rfl ?_ | refine sL5 hS rfl rfl ?_ | refine sL6 hS rfl rfl ?_ | refine sL7 hS rfl rfl ?_)) | (refine oS ?_; ((first | refine sS1 hS rfl rfl rfl ?_ | refine sS2 hS rfl rfl rfl ?_ | refine sS3 hS rfl rfl rfl ?_ | refine sS4 hS rfl rfl rfl ?_ | refine sS5 hS rfl rfl rfl ?_); clear hS; intro w hS)) | ((first | refine sN1 hS rfl ?_); clear hS; first | ((fail_if_success guard_hyp g1); intro g1 w hS) | ((fail_if_success guard_hyp g2); intro g2 w hS) | fail) | fail)
  refine (pattern_st (m := 14) hS rfl (by omega)).mono ?_
  rintro e w ⟨v, p, r1, T, rfl, hsm, hpa, hS⟩
  have HP := Lib.hid (And.intro hsm hpa)
  have e1 := hsm.good.ckl
  have hn5 := hsm.good.n5
  obtain ⟨A1, c1, A2, c2, A3, c3⟩ := v
  simp only [PV.val]
  have HE := Lib.hid e1
  have hn2 := hsm.good.n2
  have hfew := hsm.few
  clear hsm hpa e1
  generalize hu : w = u at *
  have hck5 : p.ck.length ≤ 5 := by rw [HE.out]; exact hn5
  have HG := Lib.hid HP.out.1.good
  have HPp := Lib.hid HP.out.2
  clear HP
  go_wp2_with (first | (go_at_call 45; refine (rall_any _ _ _ _ _ _ _ _ p _ (HPp.out.ck.into hS.frozInto) HG.out).mono ?_; rintro e w ⟨pts, hok, hal, Lp, cp, rfl, ho, hx1⟩; replace hS := hS.addRow ho hx1; clear ho; have HAP := Lib.hid hok; clear hok) | (refine oL ?_; (first | refine sL1 hS rfl rfl rfl ?_ | refine sL2 hS rfl rfl rfl ?_ | refine sL3 hS rfl rfl ?_ | refine sL4 hS rfl rfl ?_ | refine sL5 hS rfl rfl ?_ | refine sL6 hS rfl rfl ?_ | refine sL7 hS rfl rfl ?_)) | (refine oS ?_; ((first | refine sS1 hS rfl rfl rfl ?_ | refine sS2 hS rfl rfl rfl ?_ | refine sS3 hS rfl rfl rfl ?_ | refine sS4 hS rfl rfl rfl ?_ | refine sS5 hS rfl rfl rfl ?_); clear hS; intro w hS)) | ((first | refine sN1 hS rfl ?_); clear hS; first | ((fail_if_success guard_hyp g1); intro g1 w hS) | ((fail_if_success guard_hyp g2); intro g2 w hS) | fail) | fail)
  go_loopw [19] (fun s19 wr => ∃ (i : Nat), i ≤ pts.length ∧ s19 = .int .i64 i ∧ St w0 NoM [row (.slice Lp pts.length cp) 37 2 pts.length (pts.flatMap ptCells), blk g1 [.slice A1 p.len.length c1, .slice A2 p.ck.length c2, .slice A3 p.arcs.length c3] 28, froz T u] wr) (fun s19 _ => pts.length - (intOf s19).toNat)
  case atStart => exact ⟨0, by omega, rfl, hS.re⟩
  case round =>
    obtain ⟨i, hi, rfl, hS⟩ := hrel
    by_cases hil : i < pts.length
    · have hil' : (i : Int) < pts.length := by omega
      obtain ⟨gp, rfl⟩ := hS.rowSome Lp (by omega)
      have HI := Lib.hid (And.intro (pt_at' hil) (HAP.out _ (List.getElem_mem hil)))
      generalize pts[i] = pi at *
      obtain ⟨qi, ki⟩ := pi
      go_wp2_with (first | (refine oL ?_; (first | refine sL1 hS rfl rfl rfl ?_ | refine sL2 hS rfl rfl rfl ?_ | refine sL3 hS rfl rfl ?_ | refine sL4 hS rfl rfl ?_ | refine sL5 hS rfl rfl ?_ | refine sL6 hS rfl rfl ?_ | refine sL7 hS rfl rfl ?_)) | (refine oS ?_; ((first | refine sS1 hS rfl rfl rfl ?_ | refine sS2 hS rfl rfl rfl ?_ | refine sS3 hS rfl rfl rfl ?_ | refine sS4 hS rfl rfl rfl ?_ | refine sS5 hS rfl rfl rfl ?_); clear hS; intro w hS)) | ((first | refine sN1 hS rfl ?_); clear hS; first | ((fail_if_success guard_hyp g1); intro g1 w hS) | ((fail_if_success guard_hyp g2); intro g2 w hS) | fail) | fail)
      go_loopw [24] (fun s24 wr => ∃ (k : Nat), k ≤ pts.length ∧ s24 = .int .i64 k ∧ St w0 NoM [row (.slice (some ⟨gp, 0, none⟩) pts.length cp) 37 2 pts.length (pts.flatMap ptCells), blk g1 [.slice A1 p.len.length c1, .slice A2 p.ck.length c2, .slice A3 p.arcs.length c3] 28, froz T u] wr) (fun s24 _ => pts.length - (intOf s24).toNat)
      case atStart => exact ⟨0, by omega, rfl, hS.re⟩
      case round =>
        obtain ⟨k, hk, rfl, hS⟩ := hrel
        by_cases hkl : k < pts.length
        · have hkl' : (k : Int) < pts.length := by omega
          have HK := Lib.hid (And.intro (pt_at' hkl) (HAP.out _ (List.getElem_mem hkl)))
          generalize pts[k] = pk at *
          obtain ⟨qk, kk⟩ := pk
          go_wp2_with (first | (refine oL ?_; (first | refine sL1 hS rfl rfl rfl ?_ | refine sL2 hS rfl rfl rfl ?_ | refine sL3 hS rfl rfl ?_ | refine sL4 hS rfl rfl ?_ | refine sL5 hS rfl rfl ?_ | refine sL6 hS rfl rfl ?_ | refine sL7 hS rfl rfl ?_)) | (refine oS ?_; ((first | refine sS1 hS rfl rfl rfl ?_ | refine sS2 hS rfl rfl rfl ?_ | refine sS3 hS rfl rfl rfl ?_ | refine sS4 hS rfl rfl rfl ?_ | refine sS5 hS rfl rfl rfl ?_); clear hS; intro w hS)) | ((first | refine sN1 hS rfl ?_); clear hS; first | ((fail_if_success guard_hyp g1); intro g1 w hS) | ((fail_if_success guard_hyp g2); intro g2 w hS) | fail) | fail)
          refine dr_start0 []  hS (by kernel_rfl) rfl ?_; clear hS; intro w hS
          first | refine dL1 hS 0 rfl rfl rfl rfl ?_ | refine dL2 hS 0 rfl rfl rfl rfl ?_ | refine dL3 hS 0 rfl rfl rfl ?_ | refine dL4 hS 0 rfl rfl rfl ?_ | refine dL5 hS 0 rfl rfl rfl ?_ | refine dL6 hS 0 rfl rfl rfl ?_ | refine dL7 hS 0 rfl rfl rfl ?_
          (try simp only [Act.put, nA, nB, nC])
          refine dM hS 1 rfl rfl rfl ?_
          (try simp only [Act.put, nA, nB, nC])
          refine dM hS 2 rfl rfl rfl ?_
          (try simp only [Act.put, nA, nB, nC])
          refine dP hS 3 rfl rfl ?_
          (try simp only [Act.put, nA, nB, nC])
          first | refine dL8 hS 4 rfl rfl rfl HI.out.1 ?_ | refine dL1 hS 4 rfl rfl rfl rfl ?_ | refine dL2 hS 4 rfl rfl rfl rfl ?_ | refine dL3 hS 4 rfl rfl rfl ?_ | refine dL4 hS 4 rfl rfl rfl ?_ | refine dL5 hS 4 rfl rfl rfl ?_ | refine dL6 hS 4 rfl rfl rfl ?_ | refine dL7 hS 4 rfl rfl rfl ?_
          (try simp only [Act.put, nA, nB, nC])
          refine dM hS 5 rfl rfl rfl ?_
          (try simp only [Act.put, nA, nB, nC])
          refine dM hS 6 rfl rfl rfl ?_
          (try simp only [Act.put, nA, nB, nC])
          refine dP hS 7 rfl rfl ?_
          (try simp only [Act.put, nA, nB, nC])
          first | refine dL8 hS 8 rfl rfl rfl HK.out.1 ?_ | refine dL1 hS 8 rfl rfl rfl rfl ?_ | refine dL2 hS 8 rfl rfl rfl rfl ?_ | refine dL3 hS 8 rfl rfl rfl ?_ | refine dL4 hS 8 rfl rfl rfl ?_ | refine dL5 hS 8 rfl rfl rfl ?_ | refine dL6 hS 8 rfl rfl rfl ?_ | refine dL7 hS 8 rfl rfl rfl ?_
          (try simp only [Act.put, nA, nB, nC])
          first | refine dL1 hS 10 rfl rfl rfl rfl ?_ | refine dL2 hS 10 rfl rfl rfl rfl ?_ | refine dL3 hS 10 rfl rfl rfl ?_ | refine dL4 hS 10 rfl rfl rfl ?_ | refine dL5 hS 10 rfl rfl rfl ?_ | refine dL6 hS 10 rfl rfl rfl ?_ | refine dL7 hS 10 rfl rfl rfl ?_
          (try simp only [Act.put, nA, nB, nC])
          refine dM hS 11 rfl rfl rfl ?_
          (try simp only [Act.put, nA, nB, nC])
          refine dM hS 12 rfl rfl rfl ?_
          (try simp only [Act.put, nA, nB, nC])
          refine dP hS 13 rfl rfl ?_
          (try simp only [Act.put, nA, nB, nC])
          first | refine dL8 hS 14 rfl rfl rfl HI.out.1 ?_ | refine dL1 hS 14 rfl rfl rfl rfl ?_ | refine dL2 hS 14 rfl rfl rfl rfl ?_ | refine dL3 hS 14 rfl rfl rfl ?_ | refine dL4 hS 14 rfl rfl rfl ?_ | refine dL5 hS 14 rfl rfl rfl ?_ | refine dL6 hS 14 rfl rfl rfl ?_ | refine dL7 hS 14 rfl rfl rfl ?_
          (try simp only [Act.put, nA, nB, nC])
          refine dM hS 15 rfl rfl rfl ?_
          (try simp only [Act.put, nA, nB, nC])
          refine dM hS 16 rfl rfl rfl ?_
          (try simp only [Act.put, nA, nB, nC])
          refine dP hS 17 rfl rfl ?_
          (try simp only [Act.put, nA, nB, nC])
          first | refine dL8 hS 18 rfl rfl rfl HK.out.1 ?_ | refine dL1 hS 18 rfl rfl rfl rfl ?_ | refine dL2 hS 18 rfl rfl rfl rfl ?_ | refine dL3 hS 18 rfl rfl rfl ?_ | refine dL4 hS 18 rfl rfl rfl ?_ | refine dL5 hS 18 rfl rfl rfl ?_ | refine dL6 hS 18 rfl rfl rfl ?_ | refine dL7 hS 18 rfl rfl rfl ?_
          (try simp only [Act.put, nA, nB, nC])
          refine dr_one 9 (by kernel_rfl) rfl ?_
          (refine st_call rfl (by kernel_rfl) rfl ?_; go_at_call 46; refine (depends_n rfl rfl rfl rfl rfl (HPp.out.into (hS.intoK (T := T) (u := u))) HG.out HI.out.2 HK.out.2).mono ?_; rintro e w ⟨ca, hca, rfl, hx1⟩; replace hS := hS.ext hx1; have HCA := Lib.hid hca; clear hca)
          (try simp only [Act.put, nA, nB, nC])
          refine dr_end hS ?_
          refine dr_one 19 (by kernel_rfl) rfl ?_
          (refine st_call rfl (by kernel_rfl) rfl ?_; go_at_call 47; refine (rdepends_n rfl rfl rfl rfl rfl (HPp.out.into (hS.intoK (T := T) (u := u))) HG.out HI.out.2 HK.out.2).mono ?_; rintro e w ⟨cb, hcb, rfl, hx1⟩; replace hS := hS.ext hx1; obtain rfl : cb = ca := hcb.unique HCA.out; clear hcb)
          (try simp only [Act.put, nA, nB, nC])
          refine dr_end hS ?_
          refine dP hS 20 rfl rfl ?_
          (try simp only [Act.put, nA, nB, nC])
          refine dr_done (by kernel_rfl) ?_
          go_wp2_with (first | (refine oL ?_; (first | refine sL1 hS rfl rfl rfl ?_ | refine sL2 hS rfl rfl rfl ?_ | refine sL3 hS rfl rfl ?_ | refine sL4 hS rfl rfl ?_ | refine sL5 hS rfl rfl ?_ | refine sL6 hS rfl rfl ?_ | refine sL7 hS rfl rfl ?_)) | (refine oS ?_; ((first | refine sS1 hS rfl rfl rfl ?_ | refine sS2 hS rfl rfl rfl ?_ | refine sS3 hS rfl rfl rfl ?_ | refine sS4 hS rfl rfl rfl ?_ | refine sS5 hS rfl rfl rfl ?_); clear hS; intro w hS)) | ((first | refine sN1 hS rfl ?_); clear hS; first | ((fail_if_success guard_hyp g1); intro g1 w hS) | ((fail_if_success guard_hyp g2); intro g2 w hS) | fail) | fail)
          go_roundw
          case measure => simp [intOf]; omega
          exact ⟨k + 1, by omega, by go_num, hS.re⟩
        · go_wp2_with (first | (refine oL ?_; (first | refine sL1 hS rfl rfl rfl ?_ | refine sL2 hS rfl rfl rfl ?_ | refine sL3 hS rfl rfl ?_ | refine sL4 hS rfl rfl ?_ | refine sL5 hS rfl rfl ?_ | refine sL6 hS rfl rfl ?_ | refine sL7 hS rfl rfl ?_)) | (refine oS ?_; ((first | refine sS1 hS rfl rfl rfl ?_ | refine sS2 hS rfl rfl rfl ?_ | refine sS3 hS rfl rfl rfl ?_ | refine sS4 hS rfl rfl rfl ?_ | refine sS5 hS rfl rfl rfl ?_); clear hS; intro w hS)) | ((first | refine sN1 hS rfl ?_); clear hS; first | ((fail_if_success guard_hyp g1); intro g1 w hS) | ((fail_if_success guard_hyp g2); intro g2 w hS) | fail) | fail)
          go_roundw
          case measure => simp [intOf]; omega
          exact ⟨i + 1, by omega, by go_num, hS.re⟩
    · go_wp2_with (first | (refine oL ?_; (first | refine sL1 hS rfl rfl rfl ?_ | refine sL2 hS rfl rfl rfl ?_ | refine sL3 hS rfl rfl ?_ | refine sL4 hS rfl rfl ?_ | refine sL5 hS rfl rfl ?_ | refine sL6 hS rfl rfl ?_ | refine sL7 hS rfl rfl ?_)) | (refine oS ?_; ((first | refine sS1 hS rfl rfl rfl ?_ | refine sS2 hS rfl rfl rfl ?_ | refine sS3 hS rfl rfl rfl ?_ | refine sS4 hS rfl rfl rfl ?_ | refine sS5 hS rfl rfl rfl ?_); clear hS; intro w hS)) | ((first | refine sN1 hS rfl ?_); clear hS; first | ((fail_if_success guard_hyp g1); intro g1 w hS) | ((fail_if_success guard_hyp g2); intro g2 w hS) | fail) | fail)
      refine dr_start0 []  hS (by kernel_rfl) rfl ?_; clear hS; intro w hS
      refine dM hS 0 rfl rfl rfl ?_
      (try simp only [Act.put, nA, nB, nC])
      first | refine dL1 hS 2 rfl rfl rfl rfl ?_ | refine dL2 hS 2 rfl rfl rfl rfl ?_ | refine dL3 hS 2 rfl rfl rfl ?_ | refine dL4 hS 2 rfl rfl rfl ?_ | refine dL5 hS 2 rfl rfl rfl ?_ | refine dL6 hS 2 rfl rfl rfl ?_ | refine dL7 hS 2 rfl rfl rfl ?_
      (try simp only [Act.put, nA, nB, nC])
      refine dr_one 1 (by kernel_rfl) rfl ?_
      (refine st_call rfl (by kernel_rfl) rfl ?_; go_at_call 16; refine (new_st (m := 20) hS (by omega) HB2.out.2 hf2 hf2' HB2.out.1).mono ?_; rintro e w ⟨ga, κa, rfl, hS1⟩; replace hS := hS1; clear HB2 hS1; generalize b2.take 20 = ra at hS)
      (try simp only [Act.put, nA, nB, nC])
      refine dr_end hS ?_
      refine dr_one 3 (by kernel_rfl) rfl ?_
      (refine st_call rfl (by kernel_rfl) rfl ?_; go_at_call 48; refine (numbers_st hS rfl (HPp.out.ck.into hS.frozInto) (hS.frozNe (κ := κa) (r := ra)) hck5 (fun q hq => by have := HG.out.rowLen (q := q) (by rw [← HE.out]; exact hq); omega)).mono ?_; rintro e w ⟨X, cx, ra2, rfl, hS1⟩; replace hS := hS1; clear hS1)
      (try simp only [Act.put, nA, nB, nC])
      refine dr_end hS ?_
      refine dA hS 4 rfl rfl rfl ?_
      (try simp only [Act.put, nA, nB, nC])
      refine dr_done (by kernel_rfl) ?_
      have HV := Lib.hid (show ∀ q, q < p.len.length → CkOk p (q, nth (numL ra p.ck) q) from fun q hq => ⟨hq, numL_ok p.ck ra q (by rw [HE.out]; exact hq)⟩)
      have HX := Lib.hid (show (numL ra p.ck).length = p.len.length by rw [numL_length, HE.out])
      generalize numL ra p.ck = ns at *
      go_wp2_with (first | (refine oL ?_; (first | refine sL1 hS rfl rfl rfl ?_ | refine sL2 hS rfl rfl rfl ?_ | refine sL3 hS rfl rfl ?_ | refine sL4 hS rfl rfl ?_ | refine sL5 hS rfl rfl ?_ | refine sL6 hS rfl rfl ?_ | refine sL7 hS rfl rfl ?_)) | (refine oS ?_; ((first | refine sS1 hS rfl rfl rfl ?_ | refine sS2 hS rfl rfl rfl ?_ | refine sS3 hS rfl rfl rfl ?_ | refine sS4 hS rfl rfl rfl ?_ | refine sS5 hS rfl rfl rfl ?_); clear hS; intro w hS)) | ((first | refine sN1 hS rfl ?_); clear hS; first | ((fail_if_success guard_hyp g1); intro g1 w hS) | ((fail_if_success guard_hyp g2); intro g2 w hS) | fail) | fail)
      refine dr_start0 []  hS (by kernel_rfl) rfl ?_; clear hS; intro w hS
      first | refine dL1 hS 0 rfl rfl rfl rfl ?_ | refine dL2 hS 0 rfl rfl rfl rfl ?_ | refine dL3 hS 0 rfl rfl rfl ?_ | refine dL4 hS 0 rfl rfl rfl ?_ | refine dL5 hS 0 rfl rfl rfl ?_ | refine dL6 hS 0 rfl rfl rfl ?_ | refine dL7 hS 0 rfl rfl rfl ?_
      (try simp only [Act.put, nA, nB, nC])
      refine dM hS 1 rfl rfl rfl ?_
      (try simp only [Act.put, nA, nB, nC])
      first | refine dL1 hS 3 rfl rfl rfl rfl ?_ | refine dL2 hS 3 rfl rfl rfl rfl ?_ | refine dL3 hS 3 rfl rfl rfl ?_ | refine dL4 hS 3 rfl rfl rfl ?_ | refine dL5 hS 3 rfl rfl rfl ?_ | refine dL6 hS 3 rfl rfl rfl ?_ | refine dL7 hS 3 rfl rfl rfl ?_
      (try simp only [Act.put, nA, nB, nC])
      refine dM hS 4 rfl rfl rfl ?_
      (try simp only [Act.put, nA, nB, nC])
      refine dr_one 2 (by kernel_rfl) rfl ?_
      (refine st_call rfl (by kernel_rfl) rfl ?_; go_at_call 49; refine (global_m rfl rfl rfl HE.out (HPp.out.into hS.frozInto) HG.out hS.ri HX.out HV.out).mono ?_; rintro e w ⟨b, hb, rfl, hx1⟩; replace hS := hS.ext hx1; have HB := Lib.hid hb; clear hb)
      (try simp only [Act.put, nA, nB, nC])
      refine dr_end hS ?_
      refine dr_one 5 (by kernel_rfl) rfl ?_
      (refine st_call rfl (by kernel_rfl) rfl ?_; go_at_call 50; refine (rglobal_n rfl rfl rfl HE.out (HPp.out.into hS.frozInto) HG.out hS.ri HX.out HV.out).mono ?_; rintro e w ⟨b', hb', rfl, hx1⟩; replace hS := hS.ext hx1; obtain rfl := glob_same HB.out hb'; clear hb')
      (try simp only [Act.put, nA, nB, nC])
      refine dr_end hS ?_
      refine dP hS 6 rfl rfl ?_
      (try simp only [Act.put, nA, nB, nC])
      refine dA hS 7 rfl rfl rfl ?_
      (try simp only [Act.put, nA, nB, nC])
      refine dr_done (by kernel_rfl) ?_
      go_wp2_with (first | (refine oL ?_; (first | refine sL1 hS rfl rfl rfl ?_ | refine sL2 hS rfl rfl rfl ?_ | refine sL3 hS rfl rfl ?_ | refine sL4 hS rfl rfl ?_ | refine sL5 hS rfl rfl ?_ | refine sL6 hS rfl rfl ?_ | refine sL7 hS rfl rfl ?_)) | (refine oS ?_; ((first | refine sS1 hS rfl rfl rfl ?_ | refine sS2 hS rfl rfl rfl ?_ | refine sS3 hS rfl rfl rfl ?_ | refine sS4 hS rfl rfl rfl ?_ | refine sS5 hS rfl rfl rfl ?_); clear hS; intro w hS)) | ((first | refine sN1 hS rfl ?_); clear hS; first | ((fail_if_success guard_hyp g1); intro g1 w hS) | ((fail_if_success guard_hyp g2); intro g2 w hS) | fail) | fail)
      go_ret
      exact ⟨by simp, hS.toExt⟩
open Go.ChangeShapes Go.WideShapes Go.ChangeAt
set_option maxRecDepth 100000 in
theorem lifted_DependGlobals (os : Os) (started : os.Started) (H : Type) (enc : TypeId × Value → H) :
    ReturnsInHanded {} Try.checked os 11 .any (Rows.dependGlobalsSpec.pre6 enc Try.prog Try.f11 Rows.dependGlobalsRow.domain false) (Rows.dependGlobalsSpec.post enc Try.prog Try.f11 false true false false) := by
  refine law_lifted (C := Try.checked) (s := Rows.dependGlobalsSpec) (tb := 4) (by kernel_rfl) started (by kernel_rfl) Try.func11
      (ChangeSpec.witness6 (enc := enc) (C := Try.checked) false ⟨#[], #[.slice none 0 0, .slice none 0 0], []⟩ 8 (by kernel_rfl) (by kernel_rfl) (by kernel_rfl) (by kernel_rfl))
      (by kernel_rfl) rfl rfl Try.underlying4 (read_of (by kernel_rfl)) ?_ ?_
  · intro ds hl
    match ds, hl with
    | [d0, d1], _ => exact ⟨rfl, rfl, rfl⟩
  · intro W base args ds p hval0 hA0
    have hval : ∀ (j : Nat) t v, Try.f11.params[j]? = some t → args[j]? = some v → Value.okWide Try.prog W .any base t v := hval0
    have hA : DataW.TrodAll enc Try.prog W 0 (fun _ => true) true Try.f11.params.toList args.toList ds p := hA0
    clear hA0 hval0
    rw [Try.params11] at hA hval
    obtain ⟨v0, v1, d0, d1, p0, p1, rfl, rfl, rfl, h0, h1⟩ := trodAll_two hA
    obtain ⟨A0, c0, xs0, rfl, hri0, hc0, hd0, hwf0⟩ := open_nums Try.underlying22 Try.underlying5 (by kernel_rfl) (hval 0 _ v0 rfl rfl) h0
    obtain ⟨A1, c1, xs1, rfl, hri1, hc1, hd1, hwf1⟩ := open_nums Try.underlying22 Try.underlying5 (by kernel_rfl) (hval 1 _ v1 rfl rfl) h1
    exact dependGlobals_any A0 c0 xs0 A1 c1 xs1 W hri0 hc0 hd0 (fun b hb => u8_bd (hwf0 b hb)) hri1 hc1 hd1 (fun b hb => u8_bd (hwf1 b hb))
/-- DependGlobals returns true for every input, and leaves its arguments as they were. -/
theorem proved_DependGlobals : Rows.DependGlobalsSaid :=
  OpenClaim.holds_of_wide 11 Try.f11 rfl rfl rfl rfl rfl rfl rfl ⟨rfl, rfl, rfl, rfl, rfl⟩ rfl rfl rfl rfl rfl (by kernel_rfl) Try.func11 (by kernel_rfl)
    (of_decide_eq_true (by kernel_rfl)) (by unfold Func.isWrapper; rw [if_neg (by decide +kernel)]; exact ⟨rfl, rfl⟩)
    (fun os started H enc _ => lifted_DependGlobals os started H enc)
end Go.Proofs.Ytkflmichekpfbaa
