/- DependCuts returns true for every input. No condition. -/
import Derived.Test.YtkflmichekpfbaaDepL
namespace Go.Proofs.Ytkflmichekpfbaa
open Go.RowKit
set_option linter.unusedVariables false
set_option linter.unusedSimpArgs false

theorem global_n {S T : Nat → Prop} {A1 A2 A3 X : Option Addr} {c1 c2 c3 cx n1 n2 n3 n : Nat} {p : Pat} {xs : List Int} {w : World} (e1 : p.len.length = n1) (e2 : p.ck.length = n2) (e3 : p.arcs.length = n3) (hn : n = n1) (hp : PatAt S w ⟨A1, c1, A2, c2, A3, c3⟩ p) (hg : Good p) (hx : RI T w X xs) (hl : xs.length = p.len.length) (ha : ∀ q, q < p.len.length → CkOk p (q, nth xs q)) :
    Calls Try.prog 49 #[.agg #[.slice A1 n1 c1, .slice A2 n2 c2, .slice A3 n3 c3], .slice X n cx] w (GlobRes p xs w) := by
  subst e1 e2 e3 hn; exact global_any ⟨A1, c1, A2, c2, A3, c3⟩ p X cx xs w hp hg hx hl ha
theorem consistent_nn {S T : Nat → Prop} {A1 A2 A3 X : Option Addr} {c1 c2 c3 c n1 n2 n3 : Nat} {p : Pat} {xs : List Int} {w : World} (e1 : p.len.length = n1) (e2 : p.ck.length = n2) (e3 : p.arcs.length = n3) (hp : PatAt S w ⟨A1, c1, A2, c2, A3, c3⟩ p) (hg : Good p) (hx : RI T w X xs) (hv : validB p.len xs = true) :
    Calls Try.prog 58 #[.agg #[.slice A1 n1 c1, .slice A2 n2 c2, .slice A3 n3 c3], .slice X xs.length c] w fun e w' => e = .returned (.bool (consB p.arcs xs)) ∧ Ext w w' := by
  subst e1 e2 e3; exact consistent_any ⟨A1, c1, A2, c2, A3, c3⟩ X c p xs w hp hg hx hv
theorem ckCut_take {p : Pat} {xs : List Int} {k : Nat} (hk : k < p.len.length) : (ckCut p xs).take (k + 1) = (ckCut p xs).take k ++ [ckIx p k (nth xs k)] := by
  have h : k < (ckCut p xs).length := by rw [ckCut_length]; exact hk
  rw [List.take_succ_eq_append_getElem h, ← nth_eq h, ckCut_nth hk]
set_option maxRecDepth 100000 in
set_option maxHeartbeats 3200000 in
theorem dependCuts_any (C : Option Addr) (f : Nat) (bs : List Int) (C2 : Option Addr) (f2 : Nat) (b2 : List Int) (w0 : World) (hbs : RV (fun b => b < w0.heap.size) w0 C (bytes bs)) (hf : bs.length ≤ f) (hf' : f ≤ 9223372036854775807) (hby : ∀ b ∈ bs, 0 ≤ b ∧ b ≤ 255) (hb2 : RV (fun b => b < w0.heap.size) w0 C2 (bytes b2)) (hf2 : b2.length ≤ f2) (hf2' : f2 ≤ 9223372036854775807) (hy2 : ∀ b ∈ b2, 0 ≤ b ∧ b ≤ 255) :
    Calls Try.prog 14 #[.slice C bs.length f, .slice C2 b2.length f2] w0 fun e w' => e = .returned (.bool true) ∧ Ext w0 w' := by
  have hS := St.start w0 NoM
  have HB2 := Lib.hid (And.intro hy2 (RV.sub (S' := Froz w0 NoM) hb2 (fun k hk => ⟨hk, id⟩)))
  clear hy2 hb2
  have HB := Lib.hid (And.intro hby (RV.sub (S' := Froz w0 NoM) hbs (fun k hk => ⟨hk, id⟩)))
  clear hby hbs
  go_enter Try.func14, Try.ntmps14
  go_wp2_with (first | (go_at_call 31; refine (awake19_any _).mono ?_; rintro e w ⟨rfl, hx1⟩; replace hS := hS.ext hx1) | (refine oS ?_; ((first | refine sS1 hS rfl rfl rfl ?_ | refine sS2 hS rfl rfl rfl ?_ | refine sS3 hS rfl rfl rfl ?_ | refine sS4 hS rfl rfl rfl ?_ | refine sS5 hS rfl rfl rfl ?_); clear hS; intro w hS)) | ((first | refine sN1 hS rfl ?_); clear hS; first | ((fail_if_success guard_hyp g1); intro g1 w hS) | ((fail_if_success guard_hyp g2); intro g2 w hS) | ((fail_if_success guard_hyp g3); intro g3 w hS) | fail) | fail)
  refine (new_st (m := 240) hS (by omega) HB.out.2 hf hf' HB.out.1).mono ?_
  rintro e w ⟨gc, κ, rfl, hS⟩
  clear HB
  generalize bs.take 240 = r at *
  go_wp2_with (first | (refine oS ?_; ((first | refine sS1 hS rfl rfl rfl ?_ | refine sS2 hS rfl rfl rfl ?_ | refine sS3 hS rfl rfl rfl ?_ | refine sS4 hS rfl rfl rfl ?_ | refine sS5 hS rfl rfl rfl ?_); clear hS; intro w hS)) | ((first | refine sN1 hS rfl ?_); clear hS; first | ((fail_if_success guard_hyp g1); intro g1 w hS) | ((fail_if_success guard_hyp g2); intro g2 w hS) | ((fail_if_success guard_hyp g3); intro g3 w hS) | fail) | fail)
  refine (pattern_st (m := 20) hS rfl (by omega)).mono ?_
  rintro e w ⟨v, p, r1, T, rfl, hsm, hpa, hS⟩
  have HP := Lib.hid (And.intro hsm hpa)
  have e1 := hsm.good.ckl
  have hn5 := hsm.good.n5
  obtain ⟨A1, c1, A2, c2, A3, c3⟩ := v
  simp only [PV.val]
  have HE := Lib.hid e1
  have hn2 := hsm.good.n2
  have hfew := hsm.few
  clear hsm hpa e1
  generalize hu : w = u at *
  have hck5 : p.ck.length ≤ 5 := by rw [HE.out]; exact hn5
  go_wp2_with (first | (refine oS ?_; ((first | refine sS1 hS rfl rfl rfl ?_ | refine sS2 hS rfl rfl rfl ?_ | refine sS3 hS rfl rfl rfl ?_ | refine sS4 hS rfl rfl rfl ?_ | refine sS5 hS rfl rfl rfl ?_); clear hS; intro w hS)) | ((first | refine sN1 hS rfl ?_); clear hS; first | ((fail_if_success guard_hyp g1); intro g1 w hS) | ((fail_if_success guard_hyp g2); intro g2 w hS) | ((fail_if_success guard_hyp g3); intro g3 w hS) | fail) | fail)
  refine dr_start0 []  hS (by kernel_rfl) rfl ?_; clear hS; intro w hS
  refine dM hS 0 rfl rfl rfl ?_
  (try simp only [Act.put, nA, nB, nC])
  first | refine dL1 hS 2 rfl rfl rfl rfl ?_ | refine dL2 hS 2 rfl rfl rfl rfl ?_ | refine dL3 hS 2 rfl rfl rfl ?_ | refine dL4 hS 2 rfl rfl rfl ?_ | refine dL5 hS 2 rfl rfl rfl ?_ | refine dL6 hS 2 rfl rfl rfl ?_ | refine dL7 hS 2 rfl rfl rfl ?_
  (try simp only [Act.put, nA, nB, nC])
  refine dr_one 1 (by kernel_rfl) rfl ?_
  (refine st_call rfl (by kernel_rfl) rfl ?_; go_at_call 16; refine (new_st (m := 20) hS (by omega) HB2.out.2 hf2 hf2' HB2.out.1).mono ?_; rintro e w ⟨ga, κa, rfl, hS1⟩; replace hS := hS1; clear HB2 hS1; generalize b2.take 20 = ra at hS)
  (try simp only [Act.put, nA, nB, nC])
  refine dr_end hS ?_
  refine dr_one 3 (by kernel_rfl) rfl ?_
  (refine st_call rfl (by kernel_rfl) rfl ?_; go_at_call 48; refine (numbers_st hS rfl (HP.out.2.ck.into hS.frozInto) (hS.frozNe (κ := κa) (r := ra)) hck5 (fun q hq => by have := HP.out.1.good.rowLen (q := q) (by rw [← HE.out]; exact hq); omega)).mono ?_; rintro e w ⟨X, cx, ra2, rfl, hS1⟩; replace hS := hS1; clear hS1)
  (try simp only [Act.put, nA, nB, nC])
  refine dr_end hS ?_
  refine dA hS 4 rfl rfl rfl ?_
  (try simp only [Act.put, nA, nB, nC])
  refine dr_done (by kernel_rfl) ?_
  have HV := Lib.hid (show ∀ q, q < p.len.length → CkOk p (q, nth (numL ra p.ck) q) from fun q hq => ⟨hq, numL_ok p.ck ra q (by rw [HE.out]; exact hq)⟩)
  have HX := Lib.hid (show (numL ra p.ck).length = p.len.length by rw [numL_length, HE.out])
  generalize numL ra p.ck = ns at *
  go_wp2_with (first | (refine oS ?_; ((first | refine sS1 hS rfl rfl rfl ?_ | refine sS2 hS rfl rfl rfl ?_ | refine sS3 hS rfl rfl rfl ?_ | refine sS4 hS rfl rfl rfl ?_ | refine sS5 hS rfl rfl rfl ?_); clear hS; intro w hS)) | ((first | refine sN1 hS rfl ?_); clear hS; first | ((fail_if_success guard_hyp g1); intro g1 w hS) | ((fail_if_success guard_hyp g2); intro g2 w hS) | ((fail_if_success guard_hyp g3); intro g3 w hS) | fail) | fail)
  go_loopw [7, 20] (fun s7 s20 wr => ∃ (k : Nat) (L : Option Addr) (cl : Nat) (zs : List Int), k ≤ p.ck.length ∧ s20 = .int .i64 k ∧ s7 = .slice L zs.length cl ∧ zs.length ≤ 5 ∧ Hid (zs = (ckCut p ns).take k) ∧ St w0 NoM [irow 3 L cl zs, row (.slice X p.ck.length cx) 3 1 p.ck.length (ints ns), blk g1 [.slice A1 p.len.length c1, .slice A2 p.ck.length c2, .slice A3 p.arcs.length c3] 28, froz T u] wr) (fun _ s20 _ => p.ck.length - (intOf s20).toNat)
  case atStart => exact ⟨0, none, 0, [], by omega, rfl, rfl, by simp, Lib.hid (by simp), St.addNil hS.re _ _⟩
  case round =>
    obtain ⟨k, L, cl, zs, hk, rfl, rfl, hz5, HZ, hS⟩ := hrel
    by_cases hlt : k < p.ck.length
    · obtain ⟨gx, rfl⟩ := hS.rowSome X (by omega)
      have hlt' : k < p.len.length := by rw [← HE.out]; exact hlt
      have hcell : (ints ns)[k]? = some (.int .i64 (nth ns k)) := by rw [ints_get (by rw [HX.out]; exact hlt'), nth_eq (by rw [HX.out]; exact hlt')]
      have HA := Lib.hid (HV.out k hlt')
      have HT := Lib.hid (ckCut_take (p := p) (xs := ns) hlt')
      have HZL := Lib.hid (show zs.length = k by rw [HZ.out, List.length_take, ckCut_length]; omega)
      generalize nth ns k = m at *
      go_wp2_with (first | (refine oS ?_; ((first | refine sS1 hS rfl rfl rfl ?_ | refine sS2 hS rfl rfl rfl ?_ | refine sS3 hS rfl rfl rfl ?_ | refine sS4 hS rfl rfl rfl ?_ | refine sS5 hS rfl rfl rfl ?_); clear hS; intro w hS)) | ((first | refine sN1 hS rfl ?_); clear hS; first | ((fail_if_success guard_hyp g1); intro g1 w hS) | ((fail_if_success guard_hyp g2); intro g2 w hS) | ((fail_if_success guard_hyp g3); intro g3 w hS) | fail) | fail)
      refine dr_start1 [] 0 hS (by kernel_rfl) rfl ?_; clear hS; intro w hS
      refine dM hS 0 rfl rfl rfl ?_
      (try simp only [Act.put, nA, nB, nC])
      first | refine dL1 hS 1 rfl rfl rfl rfl ?_ | refine dL2 hS 1 rfl rfl rfl rfl ?_ | refine dL3 hS 1 rfl rfl rfl ?_ | refine dL4 hS 1 rfl rfl rfl ?_ | refine dL5 hS 1 rfl rfl rfl ?_ | refine dL6 hS 1 rfl rfl rfl ?_ | refine dL7 hS 1 rfl rfl rfl ?_
      (try simp only [Act.put, nA, nB, nC])
      refine dM hS 2 rfl rfl rfl ?_
      (try simp only [Act.put, nA, nB, nC])
      refine dM hS 3 rfl rfl rfl ?_
      (try simp only [Act.put, nA, nB, nC])
      refine dM hS 4 rfl rfl rfl ?_
      (try simp only [Act.put, nA, nB, nC])
      refine dP hS 5 rfl rfl ?_
      (try simp only [Act.put, nA, nB, nC])
      first | refine dL1 hS 6 rfl rfl rfl rfl ?_ | refine dL2 hS 6 rfl rfl rfl rfl ?_ | refine dL3 hS 6 rfl rfl rfl ?_ | refine dL4 hS 6 rfl rfl rfl ?_ | refine dL5 hS 6 rfl rfl rfl ?_ | refine dL6 hS 6 rfl rfl rfl ?_ | refine dL7 hS 6 rfl rfl rfl ?_
      (try simp only [Act.put, nA, nB, nC])
      refine dr_one 7 (by kernel_rfl) rfl ?_
      (refine st_call rfl (by kernel_rfl) rfl ?_; go_at_call 38; refine (dindex_n rfl rfl rfl rfl (HP.out.2.into hS.frozInto) HP.out.1.good hlt' HA.out.2.1).mono ?_; rintro e w ⟨rfl, hx1⟩; replace hS := hS.ext hx1; generalize hix : ckIx p k m = ix at *)
      (try simp only [Act.put, nA, nB, nC])
      refine dr_end hS ?_
      refine dr_one 8 (by kernel_rfl) rfl ?_
      ((first | refine sC0 hS rfl ?_ | refine sC1 hS rfl rfl ?_ | refine sC2 hS rfl rfl ?_ | refine sC3 hS rfl rfl rfl ?_ | refine sC4 hS rfl rfl rfl ?_); clear hS; first | ((fail_if_success guard_hyp g1); intro g1 w hS) | ((fail_if_success guard_hyp g2); intro g2 w hS) | ((fail_if_success guard_hyp g3); intro g3 w hS) | fail)
      (try simp only [Act.put, nA, nB, nC])
      refine dr_end hS ?_
      refine dr_one 9 (by kernel_rfl) rfl ?_
      ((first | refine sP1 hS rfl rfl rfl ?_ | refine sP2 hS rfl rfl rfl ?_ | refine sP3 hS rfl rfl rfl ?_); clear hS; first | ((fail_if_success guard_hyp L1); intro L1 cl1 w hL1 hM1 hS) | ((fail_if_success guard_hyp L2); intro L2 cl2 w hL2 hM2 hS) | fail)
      (try simp only [Act.put, nA, nB, nC])
      refine dr_end hS ?_
      refine dA hS 10 rfl rfl rfl ?_
      (try simp only [Act.put, nA, nB, nC])
      refine dr_done (by kernel_rfl) ?_
      go_wp2_with (first | (refine oS ?_; ((first | refine sS1 hS rfl rfl rfl ?_ | refine sS2 hS rfl rfl rfl ?_ | refine sS3 hS rfl rfl rfl ?_ | refine sS4 hS rfl rfl rfl ?_ | refine sS5 hS rfl rfl rfl ?_); clear hS; intro w hS)) | ((first | refine sN1 hS rfl ?_); clear hS; first | ((fail_if_success guard_hyp g1); intro g1 w hS) | ((fail_if_success guard_hyp g2); intro g2 w hS) | ((fail_if_success guard_hyp g3); intro g3 w hS) | fail) | fail)
      go_roundw
      case measure => simp [intOf]; omega
      refine ⟨k + 1, L1, cl1, zs ++ [ix], by omega, by go_num, by simp, by simp [HZL.out]; omega, Lib.hid (by rw [HT.out, ← HZ.out]), hS.re⟩
    · have hke : k = p.ck.length := by omega
      subst hke
      have hz := HZ.out
      rw [List.take_of_length_le (by rw [ckCut_length, HE.out]; omega)] at hz
      have HZ' := Lib.hid hz
      have HVZ := Lib.hid (show validB p.len zs = true by rw [hz]; exact ckCut_valid HP.out.1.good HV.out)
      have HGC := Lib.hid (show IsGlobal p ns ↔ consB p.arcs zs = true by rw [hz]; exact glob_cons HP.out.1.good HV.out)
      clear hz HZ
      go_wp2_with (first | (refine oS ?_; ((first | refine sS1 hS rfl rfl rfl ?_ | refine sS2 hS rfl rfl rfl ?_ | refine sS3 hS rfl rfl rfl ?_ | refine sS4 hS rfl rfl rfl ?_ | refine sS5 hS rfl rfl rfl ?_); clear hS; intro w hS)) | ((first | refine sN1 hS rfl ?_); clear hS; first | ((fail_if_success guard_hyp g1); intro g1 w hS) | ((fail_if_success guard_hyp g2); intro g2 w hS) | ((fail_if_success guard_hyp g3); intro g3 w hS) | fail) | fail)
      refine dr_start0 []  hS (by kernel_rfl) rfl ?_; clear hS; intro w hS
      first | refine dL1 hS 0 rfl rfl rfl rfl ?_ | refine dL2 hS 0 rfl rfl rfl rfl ?_ | refine dL3 hS 0 rfl rfl rfl ?_ | refine dL4 hS 0 rfl rfl rfl ?_ | refine dL5 hS 0 rfl rfl rfl ?_ | refine dL6 hS 0 rfl rfl rfl ?_ | refine dL7 hS 0 rfl rfl rfl ?_
      (try simp only [Act.put, nA, nB, nC])
      refine dM hS 1 rfl rfl rfl ?_
      (try simp only [Act.put, nA, nB, nC])
      refine dr_one 2 (by kernel_rfl) rfl ?_
      (refine st_call rfl (by kernel_rfl) rfl ?_; go_at_call 57; refine (valid_n rfl rfl (HP.out.2.len.into hS.frozInto) hS.ri hn5 (by omega)).mono ?_; rintro e w ⟨rfl, hx1⟩; replace hS := hS.ext hx1; rw [HVZ.out])
      (try simp only [Act.put, nA, nB, nC])
      refine dr_end hS ?_
      refine dM hS 3 rfl rfl rfl ?_
      (try simp only [Act.put, nA, nB, nC])
      first | refine dL1 hS 4 rfl rfl rfl rfl ?_ | refine dL2 hS 4 rfl rfl rfl rfl ?_ | refine dL3 hS 4 rfl rfl rfl ?_ | refine dL4 hS 4 rfl rfl rfl ?_ | refine dL5 hS 4 rfl rfl rfl ?_ | refine dL6 hS 4 rfl rfl rfl ?_ | refine dL7 hS 4 rfl rfl rfl ?_ | refine dQ hS 4 rfl rfl ?_
      (try simp only [Act.put, nA, nB, nC])
      first | refine dM hS 5 rfl rfl rfl ?_ | refine dQ hS 5 rfl rfl ?_
      (try simp only [Act.put, nA, nB, nC])
      first | refine dL1 hS 7 rfl rfl rfl rfl ?_ | refine dL2 hS 7 rfl rfl rfl rfl ?_ | refine dL3 hS 7 rfl rfl rfl ?_ | refine dL4 hS 7 rfl rfl rfl ?_ | refine dL5 hS 7 rfl rfl rfl ?_ | refine dL6 hS 7 rfl rfl rfl ?_ | refine dL7 hS 7 rfl rfl rfl ?_ | refine dQ hS 7 rfl rfl ?_
      (try simp only [Act.put, nA, nB, nC])
      first | refine dM hS 8 rfl rfl rfl ?_ | refine dQ hS 8 rfl rfl ?_
      (try simp only [Act.put, nA, nB, nC])
      refine dr_one 6 (by kernel_rfl) rfl ?_
      (refine st_call rfl (by kernel_rfl) rfl ?_; go_at_call 49; refine (global_n rfl rfl rfl HE.out (HP.out.2.into hS.frozInto) HP.out.1.good hS.ri HX.out HV.out).mono ?_; rintro e w ⟨b, hb, rfl, hx1⟩; replace hS := hS.ext hx1; obtain rfl : b = consB p.arcs zs := by (rw [Bool.eq_iff_iff, hb]; exact HGC.out))
      (try simp only [Act.put, nA, nB, nC])
      refine dr_end hS ?_
      refine dr_one 9 (by kernel_rfl) rfl ?_
      (refine st_call rfl (by kernel_rfl) rfl ?_; go_at_call 58; refine (consistent_nn rfl rfl rfl (HP.out.2.into hS.frozInto) HP.out.1.good hS.ri HVZ.out).mono ?_; rintro e w ⟨rfl, hx1⟩; replace hS := hS.ext hx1)
      (try simp only [Act.put, nA, nB, nC])
      refine dr_end hS ?_
      first | refine dP hS 10 rfl rfl ?_ | refine dQ hS 10 rfl rfl ?_
      (try simp only [Act.put, nA, nB, nC])
      refine dP hS 11 rfl rfl ?_
      (try simp only [Act.put, nA, nB, nC])
      refine dA hS 12 rfl rfl rfl ?_
      (try simp only [Act.put, nA, nB, nC])
      refine dr_done (by kernel_rfl) ?_
      go_wp2_with (first | (refine oS ?_; ((first | refine sS1 hS rfl rfl rfl ?_ | refine sS2 hS rfl rfl rfl ?_ | refine sS3 hS rfl rfl rfl ?_ | refine sS4 hS rfl rfl rfl ?_ | refine sS5 hS rfl rfl rfl ?_); clear hS; intro w hS)) | ((first | refine sN1 hS rfl ?_); clear hS; first | ((fail_if_success guard_hyp g1); intro g1 w hS) | ((fail_if_success guard_hyp g2); intro g2 w hS) | ((fail_if_success guard_hyp g3); intro g3 w hS) | fail) | fail)
      go_ret
      exact ⟨rfl, hS.toExt⟩
open Go.ChangeShapes Go.WideShapes Go.ChangeAt
set_option maxRecDepth 100000 in
theorem lifted_DependCuts (os : Os) (started : os.Started) (H : Type) (enc : TypeId × Value → H) :
    ReturnsInHanded {} Try.checked os 14 .any (Rows.dependCutsSpec.pre6 enc Try.prog Try.f14 Rows.dependCutsRow.domain false) (Rows.dependCutsSpec.post enc Try.prog Try.f14 false true false false) := by
  refine law_lifted (C := Try.checked) (s := Rows.dependCutsSpec) (tb := 4) (by kernel_rfl) started (by kernel_rfl) Try.func14
      (ChangeSpec.witness6 (enc := enc) (C := Try.checked) false ⟨#[], #[.slice none 0 0, .slice none 0 0], []⟩ 8 (by kernel_rfl) (by kernel_rfl) (by kernel_rfl) (by kernel_rfl))
      (by kernel_rfl) rfl rfl Try.underlying4 (read_of (by kernel_rfl)) ?_ ?_
  · intro ds hl
    match ds, hl with
    | [d0, d1], _ => exact ⟨rfl, rfl, rfl⟩
  · intro W base args ds p hval0 hA0
    have hval : ∀ (j : Nat) t v, Try.f14.params[j]? = some t → args[j]? = some v → Value.okWide Try.prog W .any base t v := hval0
    have hA : DataW.TrodAll enc Try.prog W 0 (fun _ => true) true Try.f14.params.toList args.toList ds p := hA0
    clear hA0 hval0
    rw [Try.params14] at hA hval
    obtain ⟨v0, v1, d0, d1, p0, p1, rfl, rfl, rfl, h0, h1⟩ := trodAll_two hA
    obtain ⟨A0, c0, xs0, rfl, hri0, hc0, hd0, hwf0⟩ := open_nums Try.underlying22 Try.underlying5 (by kernel_rfl) (hval 0 _ v0 rfl rfl) h0
    obtain ⟨A1, c1, xs1, rfl, hri1, hc1, hd1, hwf1⟩ := open_nums Try.underlying22 Try.underlying5 (by kernel_rfl) (hval 1 _ v1 rfl rfl) h1
    exact dependCuts_any A0 c0 xs0 A1 c1 xs1 W hri0 hc0 hd0 (fun b hb => u8_bd (hwf0 b hb)) hri1 hc1 hd1 (fun b hb => u8_bd (hwf1 b hb))
/-- DependCuts returns true for every input, and leaves its arguments as they were. -/
theorem proved_DependCuts : Rows.DependCutsSaid :=
  OpenClaim.holds_of_wide 14 Try.f14 rfl rfl rfl rfl rfl rfl rfl ⟨rfl, rfl, rfl, rfl, rfl⟩ rfl rfl rfl rfl rfl (by kernel_rfl) Try.func14 (by kernel_rfl)
    (of_decide_eq_true (by kernel_rfl)) (by unfold Func.isWrapper; rw [if_neg (by decide +kernel)]; exact ⟨rfl, rfl⟩)
    (fun os started H enc _ => lifted_DependCuts os started H enc)
end Go.Proofs.Ytkflmichekpfbaa
