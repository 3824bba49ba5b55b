/- The helpers of chapter 24's laws: in, lasts, needs, draw, the sanity check. Conditions: patterns are good and lie in memory. -/
import Derived.Test.YtmjmdncdmmcmaaaTwC
import Derived.Test.YtmjmdncdmmcmaaaSameI
import Derived.Test.YtmjmdncdmmcmaaaGe
import Derived.Test.YtmjmdncdmmcmaaaGg
namespace Go.Proofs.Ytmjmdncdmmcmaaa
open Go.RowKit
set_option linter.unusedVariables false
set_option linter.unusedSimpArgs false
set_option linter.unusedSectionVars false

set_option maxRecDepth 100000 in
set_option maxHeartbeats 1600000 in
theorem in24_any {S : Nat → Prop} (A : Option Addr) (c n : Nat) (xs : List Int) (k : Int) (w0 : World) (hx : RI S w0 A xs) (hn : xs.length = n) (hl : n ≤ 1000000) :
    Calls Try.prog 25 #[.slice A n c, .int .i64 k] w0 fun e w' => e = .returned (.bool (decide (k ∈ xs))) ∧ Ext w0 w' := by
  have hS := St.start w0 NoM
  subst hn
  go_enter Try.func25, Try.ntmps25
  go_wp2_with (first | (refine oL ?_; (first | refine sL1 hS rfl rfl rfl ?_ | refine sL2 hS rfl rfl rfl ?_ | refine sL3 hS rfl rfl ?_ | refine sL4 hS rfl rfl ?_ | refine sL5 hS rfl rfl ?_ | refine sL6 hS rfl rfl ?_ | refine sL7 hS rfl rfl ?_)) | fail)
  go_loopw [5] (fun s5 wr => ∃ (j : Nat), j ≤ xs.length ∧ s5 = .int .i64 j ∧ Hid (¬ k ∈ xs.take j) ∧ St w0 NoM [] wr) (fun s5 _ => xs.length - (intOf s5).toNat)
  case atStart => exact ⟨0, by omega, rfl, Lib.hid (by simp), hS⟩
  case round =>
    clear hS
    obtain ⟨j, hj, rfl, HK, hS⟩ := hrel
    by_cases hlt : j < xs.length
    · have hlt' : (j : Int) < xs.length := by omega
      obtain ⟨b, o, rfl, _, hc⟩ := hx.atNS hlt
      have HX := Lib.hid (nth_eq hlt)
      have HTK := Lib.hid (List.take_succ_eq_append_getElem hlt)
      by_cases he : nth xs j = k
      · have HF := Lib.hid (show decide (k ∈ xs) = true by rw [← he, HX.out]; simp)
        have he1 : (nth xs j == k) = true := by simp [he]
        clear he
        go_wp2_with (first | (refine oL ?_; (first | refine sL1 hS rfl rfl rfl ?_ | refine sL2 hS rfl rfl rfl ?_ | refine sL3 hS rfl rfl ?_ | refine sL4 hS rfl rfl ?_ | refine sL5 hS rfl rfl ?_ | refine sL6 hS rfl rfl ?_ | refine sL7 hS rfl rfl ?_)) | fail)
        go_ret
        rw [HF.out]
        exact ⟨rfl, hS.toExt⟩
      · have HF := Lib.hid (show ¬ k ∈ xs.take (j + 1) by
          rw [HTK.out, List.mem_append, ← HX.out]
          rintro (h | h)
          · exact HK.out h
          · simp only [List.mem_singleton] at h; exact he h.symm)
        have he1 : (nth xs j == k) = false := by simp [he]
        clear he
        go_wp2_with (first | (refine oL ?_; (first | refine sL1 hS rfl rfl rfl ?_ | refine sL2 hS rfl rfl rfl ?_ | refine sL3 hS rfl rfl ?_ | refine sL4 hS rfl rfl ?_ | refine sL5 hS rfl rfl ?_ | refine sL6 hS rfl rfl ?_ | refine sL7 hS rfl rfl ?_)) | fail)
        go_roundw
        case measure => simp [intOf]; try omega
        exact ⟨j + 1, by omega, by go_num, HF, hS⟩
    · have HF := Lib.hid (show decide (k ∈ xs) = false by have := HK.out; rw [List.take_of_length_le (by omega)] at this; simp [this])
      have hlt' : ¬ (j : Int) < xs.length := by omega
      go_wp2_with (first | (refine oL ?_; (first | refine sL1 hS rfl rfl rfl ?_ | refine sL2 hS rfl rfl rfl ?_ | refine sL3 hS rfl rfl ?_ | refine sL4 hS rfl rfl ?_ | refine sL5 hS rfl rfl ?_ | refine sL6 hS rfl rfl ?_ | refine sL7 hS rfl rfl ?_)) | fail)
      go_ret
      rw [HF.out]
      exact ⟨rfl, hS.toExt⟩
/-- the cut of the last checkpoints -/
def lastsL (p : Pat) : List Int := (List.range p.len.length).map (lastC p)
theorem lastsL_len (p : Pat) : (lastsL p).length = p.len.length := by simp [lastsL]
theorem lastsL_at {p : Pat} {q : Nat} (hq : q < p.len.length) : nth (lastsL p) q = lastC p q := by simp [nth, lastsL, hq]
theorem lastC_mem {p : Pat} (hg : Good p) {q : Nat} (hq : q < p.len.length) : lastC p q ∈ rowOf p.ck q := by
  have h1 := (hg.row1 hq).1
  unfold lastC
  rw [nth_eq (by omega)]
  exact List.getElem_mem _
theorem lastC_bd {p : Pat} (hg : Good p) {q : Nat} (hq : q < p.len.length) : 0 ≤ lastC p q ∧ lastC p q ≤ nth p.len q := ⟨(hg.row q hq).nonneg _ (lastC_mem hg hq), (hg.row q hq).le _ (lastC_mem hg hq)⟩
theorem lastsL_valid {p : Pat} (hg : Good p) : validB p.len (lastsL p) = true := valid_iff.2 ⟨lastsL_len p, fun k hk => by rw [lastsL_at hk]; exact lastC_bd hg hk⟩
set_option maxRecDepth 100000 in
set_option maxHeartbeats 1600000 in
theorem lasts_any {S : Nat → Prop} (v : PV) (p : Pat) (w0 : World) (hp : PatAt S w0 v p) (hg : Good p) :
    Calls Try.prog 27 #[v.val p] w0 (RetRow w0 3 1 p.len.length (ints (lastsL p))) := by
  have hS := St.start w0 NoM
  obtain ⟨A1, c1, A2, c2, A3, c3⟩ := v
  have HP := Lib.hid (And.intro hp hg)
  have hn5 := hg.n5
  have hck := hg.ckl
  clear hp hg
  have HCK := Lib.hid hck
  have hc1 : p.ck.length ≤ p.len.length := by omega
  have hc2 : p.len.length ≤ p.ck.length := by omega
  clear hck
  simp only [PV.val]
  go_enter Try.func27, Try.ntmps27
  go_wp2_with (first | (refine oL ?_; (first | refine sL1 hS rfl rfl rfl ?_ | refine sL2 hS rfl rfl rfl ?_ | refine sL3 hS rfl rfl ?_ | refine sL4 hS rfl rfl ?_ | refine sL5 hS rfl rfl ?_ | refine sL6 hS rfl rfl ?_ | refine sL7 hS rfl rfl ?_)) | ((first | (refine oB ?_; first | refine sB1 hS rfl rfl ?_ | refine sB2 hS rfl rfl ?_)); clear hS; first | ((fail_if_success guard_hyp g1); intro g1 w hS) | ((fail_if_success guard_hyp g2); intro g2 w hS) | ((fail_if_success guard_hyp g3); intro g3 w hS) | fail) | fail)
  replace hS := hS.addNil 3 1
  go_loopw [3, 4] (fun s3 s4 wr => ∃ (j c3' : Nat) (L : Option Addr), j ≤ p.len.length ∧ s4 = .int .i64 j ∧ s3 = .slice L j c3' ∧ St w0 NoM [row (.slice L j c3') 3 1 j (ints ((lastsL p).take j)), blk g1 [.slice A1 p.len.length c1, .slice A2 p.ck.length c2, .slice A3 p.arcs.length c3] 44] wr) (fun _ s4 _ => p.len.length - (intOf s4).toNat)
  case atStart => exact ⟨0, 0, none, by omega, rfl, rfl, hS⟩
  case round =>
    clear hS
    obtain ⟨q, cq, L, hq, rfl, rfl, hS⟩ := hrel
    by_cases hlt : q < p.len.length
    · have hlt' : (q : Int) < p.ck.length := by omega
      have hqc : q < p.ck.length := by omega
      obtain ⟨h0, h65⟩ := HP.out.2.row1 hlt
      obtain ⟨b, o, B, c, hA2, _, hcell, hlc, hc, hri⟩ := HP.out.1.ck.atS hqc
      simp only at hA2
      subst hA2
      rw [← rowOf_eq hqc] at hcell hlc hri
      obtain ⟨b2, o2, rfl, _, hcx⟩ := hri.atNS (k := (rowOf p.ck q).length - 1) (by omega)
      have HT := Lib.hid (show (lastsL p).take (q + 1) = (lastsL p).take q ++ [nth (rowOf p.ck q) ((rowOf p.ck q).length - 1)] by
        rw [List.take_succ_eq_append_getElem (by rw [lastsL_len]; exact hlt)]
        simp [lastsL, lastC])
      generalize rowOf p.ck q = l at *
      have hl1 : ((l.length : Int) - 1) = ((l.length - 1 : Nat) : Int) := by omega
      have hl2 : ((l.length - 1 : Nat) : Int) < (l.length : Int) := by omega
      generalize nth l (l.length - 1) = x at *
      generalize l.length - 1 = m at *
      generalize l.length = n at *
      go_wp2_with (first | (refine oL ?_; (first | refine sL1 hS rfl rfl rfl ?_ | refine sL2 hS rfl rfl rfl ?_ | refine sL3 hS rfl rfl ?_ | refine sL4 hS rfl rfl ?_ | refine sL5 hS rfl rfl ?_ | refine sL6 hS rfl rfl ?_ | refine sL7 hS rfl rfl ?_)) | ((first | (refine oB ?_; first | refine sB1 hS rfl rfl ?_ | refine sB2 hS rfl rfl ?_)); clear hS; first | ((fail_if_success guard_hyp g1); intro g1 w hS) | ((fail_if_success guard_hyp g2); intro g2 w hS) | ((fail_if_success guard_hyp g3); intro g3 w hS) | fail) | fail)
      refine dr_start1 [] 0 hS (by kernel_rfl) rfl ?_; clear hS; intro w hS
      refine dM hS 0 rfl rfl rfl ?_
      (try simp only [Act.put, nA, nB, nC])
      refine dP hS 1 rfl rfl ?_
      (try simp only [Act.put, nA, nB, nC])
      first | refine dL1 hS 2 rfl rfl rfl rfl ?_ | refine dL2 hS 2 rfl rfl rfl rfl ?_ | refine dL3 hS 2 rfl rfl rfl ?_ | refine dL4 hS 2 rfl rfl rfl ?_ | refine dL5 hS 2 rfl rfl rfl ?_ | refine dL6 hS 2 rfl rfl rfl ?_ | refine dL7 hS 2 rfl rfl rfl ?_
      (try simp only [Act.put, nA, nB, nC])
      refine dM hS 3 rfl rfl rfl ?_
      (try simp only [Act.put, nA, nB, nC])
      refine dP hS 4 rfl rfl ?_
      (try simp only [Act.put, nA, nB, nC])
      first | refine dL1 hS 5 rfl rfl rfl rfl ?_ | refine dL2 hS 5 rfl rfl rfl rfl ?_ | refine dL3 hS 5 rfl rfl rfl ?_ | refine dL4 hS 5 rfl rfl rfl ?_ | refine dL5 hS 5 rfl rfl rfl ?_ | refine dL6 hS 5 rfl rfl rfl ?_ | refine dL7 hS 5 rfl rfl rfl ?_
      (try simp only [Act.put, nA, nB, nC])
      refine dP hS 6 rfl rfl ?_
      (try simp only [Act.put, nA, nB, nC])
      first | refine dL1 hS 7 rfl rfl rfl rfl ?_ | refine dL2 hS 7 rfl rfl rfl rfl ?_ | refine dL3 hS 7 rfl rfl rfl ?_ | refine dL4 hS 7 rfl rfl rfl ?_ | refine dL5 hS 7 rfl rfl rfl ?_ | refine dL6 hS 7 rfl rfl rfl ?_ | refine dL7 hS 7 rfl rfl rfl ?_
      (try simp only [Act.put, nA, nB, nC])
      refine dM hS 8 rfl rfl rfl ?_
      (try simp only [Act.put, nA, nB, nC])
      refine dP hS 9 rfl rfl ?_
      (try simp only [Act.put, nA, nB, nC])
      first | refine dL1 hS 10 rfl rfl rfl rfl ?_ | refine dL2 hS 10 rfl rfl rfl rfl ?_ | refine dL3 hS 10 rfl rfl rfl ?_ | refine dL4 hS 10 rfl rfl rfl ?_ | refine dL5 hS 10 rfl rfl rfl ?_ | refine dL6 hS 10 rfl rfl rfl ?_ | refine dL7 hS 10 rfl rfl rfl ?_
      (try simp only [Act.put, nA, nB, nC])
      refine dP hS 11 rfl rfl ?_
      (try simp only [Act.put, nA, nB, nC])
      refine dP hS 12 rfl rfl ?_
      (try simp only [Act.put, nA, nB, nC])
      refine dP hS 13 rfl rfl ?_
      (try simp only [Act.put, nA, nB, nC])
      first | refine dL1 hS 14 rfl rfl rfl rfl ?_ | refine dL2 hS 14 rfl rfl rfl rfl ?_ | refine dL3 hS 14 rfl rfl rfl ?_ | refine dL4 hS 14 rfl rfl rfl ?_ | refine dL5 hS 14 rfl rfl rfl ?_ | refine dL6 hS 14 rfl rfl rfl ?_ | refine dL7 hS 14 rfl rfl rfl ?_
      (try simp only [Act.put, nA, nB, nC])
      refine dr_one 15 (by kernel_rfl) rfl ?_
      ((first | refine sC0 hS rfl ?_ | refine sC1 hS rfl rfl ?_ | refine sC2 hS rfl rfl ?_ | refine sC3 hS rfl rfl rfl ?_ | refine sC4 hS rfl rfl rfl ?_); clear hS; first | ((fail_if_success guard_hyp g1); intro g1 w hS) | ((fail_if_success guard_hyp g2); intro g2 w hS) | ((fail_if_success guard_hyp g3); intro g3 w hS) | fail)
      (try simp only [Act.put, nA, nB, nC])
      refine dr_end hS ?_
      refine dr_one 16 (by kernel_rfl) rfl ?_
      ((first | refine sP1 hS rfl rfl rfl ?_ | refine sP2 hS rfl rfl rfl ?_ | refine sP3 hS rfl rfl rfl ?_); clear hS; first | ((fail_if_success guard_hyp L1); intro L1 cl1 w hL1 hM1 hS) | ((fail_if_success guard_hyp L2); intro L2 cl2 w hL2 hM2 hS) | fail)
      (try simp only [Act.put, nA, nB, nC])
      refine dr_end hS ?_
      refine dA hS 17 rfl rfl rfl ?_
      (try simp only [Act.put, nA, nB, nC])
      refine dr_done (by kernel_rfl) ?_
      go_wp2_with (first | (refine oL ?_; (first | refine sL1 hS rfl rfl rfl ?_ | refine sL2 hS rfl rfl rfl ?_ | refine sL3 hS rfl rfl ?_ | refine sL4 hS rfl rfl ?_ | refine sL5 hS rfl rfl ?_ | refine sL6 hS rfl rfl ?_ | refine sL7 hS rfl rfl ?_)) | ((first | (refine oB ?_; first | refine sB1 hS rfl rfl ?_ | refine sB2 hS rfl rfl ?_)); clear hS; first | ((fail_if_success guard_hyp g1); intro g1 w hS) | ((fail_if_success guard_hyp g2); intro g2 w hS) | ((fail_if_success guard_hyp g3); intro g3 w hS) | fail) | fail)
      go_roundw
      case measure => simp [intOf]; try omega
      refine ⟨q + 1, cl1, L1, by omega, by go_num, rfl, ?_⟩
      rw [HT.out]
      have e : ints ((lastsL p).take q ++ [x]) = ints ((lastsL p).take q) ++ [.int .i64 x] := by simp [ints]
      rw [e]
      exact hS.re
    · have HE := Lib.hid (show q = p.len.length by omega)
      have hlt' : ¬ (q : Int) < p.ck.length := by omega
      go_wp2_with (first | (refine oL ?_; (first | refine sL1 hS rfl rfl rfl ?_ | refine sL2 hS rfl rfl rfl ?_ | refine sL3 hS rfl rfl ?_ | refine sL4 hS rfl rfl ?_ | refine sL5 hS rfl rfl ?_ | refine sL6 hS rfl rfl ?_ | refine sL7 hS rfl rfl ?_)) | ((first | (refine oB ?_; first | refine sB1 hS rfl rfl ?_ | refine sB2 hS rfl rfl ?_)); clear hS; first | ((fail_if_success guard_hyp g1); intro g1 w hS) | ((fail_if_success guard_hyp g2); intro g2 w hS) | ((fail_if_success guard_hyp g3); intro g3 w hS) | fail) | fail)
      go_ret
      rw [List.take_of_length_le (by rw [lastsL_len]; omega), HE.out] at hS
      rw [HE.out]
      exact hS.ret rfl
set_option maxRecDepth 100000 in
set_option maxHeartbeats 3200000 in
theorem needs_any {S : Nat → Prop} (v : PV) (p : Pat) (r q : Nat) (w0 : World) (hp : PatAt S w0 v p) (hg : Good p) (hr : r < p.len.length) (hq : q < p.len.length) :
    Calls Try.prog 24 #[v.val p, .int .i64 (r : Int), .int .i64 (q : Int)] w0 fun e w' => e = .returned (.bool (isSrc p r q)) ∧ Ext w0 w' := by
  have hS := St.start w0 NoM
  obtain ⟨A1, c1, A2, c2, A3, c3⟩ := v
  have HP := Lib.hid (And.intro hp hg)
  have hfew := hg.few
  have hn5 := hg.n5
  clear hp hg
  simp only [PV.val]
  go_enter Try.func24, Try.ntmps24
  go_wp2_with (first | (go_at_call 27; refine (lasts_any ⟨A1, c1, A2, c2, A3, c3⟩ p _ (HP.out.1.ext hS.toExt) HP.out.2).mono ?_; rintro e w ⟨L, cL, rfl, ho, hx⟩; replace hS := hS.addRow ho hx; clear ho hx) | (refine oL ?_; (first | refine sL1 hS rfl rfl rfl ?_ | refine sL2 hS rfl rfl rfl ?_ | refine sL3 hS rfl rfl ?_ | refine sL4 hS rfl rfl ?_ | refine sL5 hS rfl rfl ?_ | refine sL6 hS rfl rfl ?_ | refine sL7 hS rfl rfl ?_)) | (refine oS ?_; ((first | refine sS1 hS rfl rfl rfl ?_ | refine sS2 hS rfl rfl rfl ?_ | refine sS3 hS rfl rfl rfl ?_ | refine sS4 hS rfl rfl rfl ?_ | refine sS5 hS rfl rfl rfl ?_); clear hS; intro w hS)) | ((first | (refine oB ?_; first | refine sB1 hS rfl rfl ?_ | refine sB2 hS rfl rfl ?_) | refine sN1 hS rfl ?_); clear hS; first | ((fail_if_success guard_hyp g1); intro g1 w hS) | ((fail_if_success guard_hyp g2); intro g2 w hS) | ((fail_if_success guard_hyp g3); intro g3 w hS) | fail) | fail)
  obtain ⟨gL, rfl⟩ := hS.rowSome L (by omega)
  have hlr : (ints (lastsL p))[r]? = some (.int .i64 (lastC p r)) := by rw [ints_get (by rw [lastsL_len]; exact hr), ← nth_eq, lastsL_at hr]
  generalize lastsL p = xs at *
  go_loopw [8, 9] (fun s8 s9 wr => ∃ (j : Nat), j ≤ p.arcs.length ∧ s8 = .int .i64 j ∧ Hid ((p.arcs.take j).any (fun a => decide (a.fr = r) && srcB p q a) = false) ∧ St w0 NoM [row (.slice (some ⟨gL, 0, none⟩) p.len.length cL) 3 1 p.len.length (ints xs), blk g1 [.slice A1 p.len.length c1, .slice A2 p.ck.length c2, .slice A3 p.arcs.length c3] 44] wr) (fun s8 _ _ => p.arcs.length - (intOf s8).toNat)
  case atStart => exact ⟨0, by omega, rfl, Lib.hid rfl, hS⟩
  case round =>
    clear hS
    obtain ⟨j, hj, rfl, HA, hS⟩ := hrel
    by_cases hjl : j < p.arcs.length
    · have hjl' : (j : Int) < p.arcs.length := by omega
      obtain ⟨b3, o3, hA3, _, hcs⟩ := HP.out.1.arcs.cells hjl
      simp only at hA3
      subst hA3
      have hak := HP.out.2.arc p.arcs[j] (List.getElem_mem hjl)
      have HTK := Lib.hid (show (p.arcs.take (j + 1)).any (fun a => decide (a.fr = r) && srcB p q a) = (decide (p.arcs[j].fr = r) && srcB p q p.arcs[j]) by rw [List.take_succ_eq_append_getElem hjl, List.any_append, HA.out]; simp)
      have HTR := Lib.hid (show (decide (p.arcs[j].fr = r) && srcB p q p.arcs[j]) = true → isSrc p r q = true from fun h => List.any_eq_true.2 ⟨_, List.getElem_mem hjl, h⟩)
      have hat0 := hak.at0
      generalize p.arcs[j] = ar at *
      rw [arcCells_eq] at hcs
      have HSB := Lib.hid (show srcB p q ar = (decide (ar.to = q) && decide (ar.at_ ≠ 0) && decide (lastC p ar.fr < ar.ix)) from rfl)
      clear hak
      by_cases h0 : ar.fr = r
      · have hf0 : ((ar.fr : Int) == (r : Int)) = true := by simp [h0]
        by_cases h1 : ar.to = q
        · have he1 : ((ar.to : Int) == (q : Int)) = true := by simp [h1]
          by_cases h2 : 0 < ar.at_
          · have he2 : decide (0 < ar.at_) = true := decide_eq_true h2
            by_cases h3 : lastC p r < ar.ix
            · have HT := Lib.hid (HTR.out (by rw [HSB.out, h0]; simp [h1, h3]; try omega))
              have dk : decide (lastC p r < ar.ix) = true := decide_eq_true h3
              clear h0 h1 h2 h3 HTK HTR HSB
              generalize lastC p r = lr at *
              go_wp2_with (first | (refine oL ?_; (first | refine sL1 hS rfl rfl rfl ?_ | refine sL2 hS rfl rfl rfl ?_ | refine sL3 hS rfl rfl ?_ | refine sL4 hS rfl rfl ?_ | refine sL5 hS rfl rfl ?_ | refine sL6 hS rfl rfl ?_ | refine sL7 hS rfl rfl ?_)) | (refine oS ?_; ((first | refine sS1 hS rfl rfl rfl ?_ | refine sS2 hS rfl rfl rfl ?_ | refine sS3 hS rfl rfl rfl ?_ | refine sS4 hS rfl rfl rfl ?_ | refine sS5 hS rfl rfl rfl ?_); clear hS; intro w hS)) | ((first | (refine oB ?_; first | refine sB1 hS rfl rfl ?_ | refine sB2 hS rfl rfl ?_) | refine sN1 hS rfl ?_); clear hS; first | ((fail_if_success guard_hyp g1); intro g1 w hS) | ((fail_if_success guard_hyp g2); intro g2 w hS) | ((fail_if_success guard_hyp g3); intro g3 w hS) | fail) | fail)
              refine dr_start0 []  hS (by kernel_rfl) rfl ?_; clear hS; intro w hS
              refine dP hS 0 rfl rfl ?_
              (try simp only [Act.put, nA, nB, nC])
              first | refine dL1 hS 1 rfl rfl rfl rfl ?_ | refine dL2 hS 1 rfl rfl rfl rfl ?_ | refine dL3 hS 1 rfl rfl rfl ?_ | refine dL4 hS 1 rfl rfl rfl ?_ | refine dL5 hS 1 rfl rfl rfl ?_ | refine dL6 hS 1 rfl rfl rfl ?_ | refine dL7 hS 1 rfl rfl rfl ?_
              (try simp only [Act.put, nA, nB, nC])
              refine dM hS 2 rfl rfl rfl ?_
              (try simp only [Act.put, nA, nB, nC])
              refine dP hS 3 rfl rfl ?_
              (try simp only [Act.put, nA, nB, nC])
              refine dM hS 4 rfl rfl rfl ?_
              (try simp only [Act.put, nA, nB, nC])
              first | refine dP hS 5 rfl rfl ?_ | refine dQ hS 5 rfl rfl ?_
              (try simp only [Act.put, nA, nB, nC])
              first | refine dL1 hS 6 rfl rfl rfl rfl ?_ | refine dL2 hS 6 rfl rfl rfl rfl ?_ | refine dL3 hS 6 rfl rfl rfl ?_ | refine dL4 hS 6 rfl rfl rfl ?_ | refine dL5 hS 6 rfl rfl rfl ?_ | refine dL6 hS 6 rfl rfl rfl ?_ | refine dL7 hS 6 rfl rfl rfl ?_ | refine dQ hS 6 rfl rfl ?_
              (try simp only [Act.put, nA, nB, nC])
              first | refine dM hS 7 rfl rfl rfl ?_ | refine dQ hS 7 rfl rfl ?_
              (try simp only [Act.put, nA, nB, nC])
              first | refine dP hS 8 rfl rfl ?_ | refine dQ hS 8 rfl rfl ?_
              (try simp only [Act.put, nA, nB, nC])
              refine dP hS 9 rfl rfl ?_
              (try simp only [Act.put, nA, nB, nC])
              refine dM hS 10 rfl rfl rfl ?_
              (try simp only [Act.put, nA, nB, nC])
              first | refine dP hS 11 rfl rfl ?_ | refine dQ hS 11 rfl rfl ?_
              (try simp only [Act.put, nA, nB, nC])
              first | refine dL1 hS 12 rfl rfl rfl rfl ?_ | refine dL2 hS 12 rfl rfl rfl rfl ?_ | refine dL3 hS 12 rfl rfl rfl ?_ | refine dL4 hS 12 rfl rfl rfl ?_ | refine dL5 hS 12 rfl rfl rfl ?_ | refine dL6 hS 12 rfl rfl rfl ?_ | refine dL7 hS 12 rfl rfl rfl ?_ | refine dQ hS 12 rfl rfl ?_
              (try simp only [Act.put, nA, nB, nC])
              first | refine dP hS 13 rfl rfl ?_ | refine dQ hS 13 rfl rfl ?_
              (try simp only [Act.put, nA, nB, nC])
              refine dP hS 14 rfl rfl ?_
              (try simp only [Act.put, nA, nB, nC])
              refine dM hS 15 rfl rfl rfl ?_
              (try simp only [Act.put, nA, nB, nC])
              first | refine dP hS 16 rfl rfl ?_ | refine dQ hS 16 rfl rfl ?_
              (try simp only [Act.put, nA, nB, nC])
              first | refine dL1 hS 17 rfl rfl rfl rfl ?_ | refine dL2 hS 17 rfl rfl rfl rfl ?_ | refine dL3 hS 17 rfl rfl rfl ?_ | refine dL4 hS 17 rfl rfl rfl ?_ | refine dL5 hS 17 rfl rfl rfl ?_ | refine dL6 hS 17 rfl rfl rfl ?_ | refine dL7 hS 17 rfl rfl rfl ?_ | refine dQ hS 17 rfl rfl ?_
              (try simp only [Act.put, nA, nB, nC])
              first | refine dM hS 18 rfl rfl rfl ?_ | refine dQ hS 18 rfl rfl ?_
              (try simp only [Act.put, nA, nB, nC])
              first | refine dM hS 19 rfl rfl rfl ?_ | refine dQ hS 19 rfl rfl ?_
              (try simp only [Act.put, nA, nB, nC])
              first | refine dP hS 20 rfl rfl ?_ | refine dQ hS 20 rfl rfl ?_
              (try simp only [Act.put, nA, nB, nC])
              first | refine dL1 hS 21 rfl rfl rfl rfl ?_ | refine dL2 hS 21 rfl rfl rfl rfl ?_ | refine dL3 hS 21 rfl rfl rfl ?_ | refine dL4 hS 21 rfl rfl rfl ?_ | refine dL5 hS 21 rfl rfl rfl ?_ | refine dL6 hS 21 rfl rfl rfl ?_ | refine dL7 hS 21 rfl rfl rfl ?_ | refine dQ hS 21 rfl rfl ?_
              (try simp only [Act.put, nA, nB, nC])
              first | refine dP hS 22 rfl rfl ?_ | refine dQ hS 22 rfl rfl ?_
              (try simp only [Act.put, nA, nB, nC])
              refine dP hS 23 rfl rfl ?_
              (try simp only [Act.put, nA, nB, nC])
              refine dr_done (by kernel_rfl) ?_
              go_wp2_with (first | (refine oL ?_; (first | refine sL1 hS rfl rfl rfl ?_ | refine sL2 hS rfl rfl rfl ?_ | refine sL3 hS rfl rfl ?_ | refine sL4 hS rfl rfl ?_ | refine sL5 hS rfl rfl ?_ | refine sL6 hS rfl rfl ?_ | refine sL7 hS rfl rfl ?_)) | (refine oS ?_; ((first | refine sS1 hS rfl rfl rfl ?_ | refine sS2 hS rfl rfl rfl ?_ | refine sS3 hS rfl rfl rfl ?_ | refine sS4 hS rfl rfl rfl ?_ | refine sS5 hS rfl rfl rfl ?_); clear hS; intro w hS)) | ((first | (refine oB ?_; first | refine sB1 hS rfl rfl ?_ | refine sB2 hS rfl rfl ?_) | refine sN1 hS rfl ?_); clear hS; first | ((fail_if_success guard_hyp g1); intro g1 w hS) | ((fail_if_success guard_hyp g2); intro g2 w hS) | ((fail_if_success guard_hyp g3); intro g3 w hS) | fail) | fail)
              go_ret
              rw [HT.out]
              exact ⟨rfl, hS.toExt⟩
            · have HN : Hid ((p.arcs.take (j + 1)).any (fun a => decide (a.fr = r) && srcB p q a) = false) := Lib.hid (HTK.out.trans (by rw [HSB.out, h0]; simp [h3]))
              have dk : decide (lastC p r < ar.ix) = false := decide_eq_false h3
              clear h0 h1 h2 h3 HTK HTR HSB
              generalize lastC p r = lr at *
              go_wp2_with (first | (refine oL ?_; (first | refine sL1 hS rfl rfl rfl ?_ | refine sL2 hS rfl rfl rfl ?_ | refine sL3 hS rfl rfl ?_ | refine sL4 hS rfl rfl ?_ | refine sL5 hS rfl rfl ?_ | refine sL6 hS rfl rfl ?_ | refine sL7 hS rfl rfl ?_)) | (refine oS ?_; ((first | refine sS1 hS rfl rfl rfl ?_ | refine sS2 hS rfl rfl rfl ?_ | refine sS3 hS rfl rfl rfl ?_ | refine sS4 hS rfl rfl rfl ?_ | refine sS5 hS rfl rfl rfl ?_); clear hS; intro w hS)) | ((first | (refine oB ?_; first | refine sB1 hS rfl rfl ?_ | refine sB2 hS rfl rfl ?_) | refine sN1 hS rfl ?_); clear hS; first | ((fail_if_success guard_hyp g1); intro g1 w hS) | ((fail_if_success guard_hyp g2); intro g2 w hS) | ((fail_if_success guard_hyp g3); intro g3 w hS) | fail) | fail)
              refine dr_start0 []  hS (by kernel_rfl) rfl ?_; clear hS; intro w hS
              refine dP hS 0 rfl rfl ?_
              (try simp only [Act.put, nA, nB, nC])
              first | refine dL1 hS 1 rfl rfl rfl rfl ?_ | refine dL2 hS 1 rfl rfl rfl rfl ?_ | refine dL3 hS 1 rfl rfl rfl ?_ | refine dL4 hS 1 rfl rfl rfl ?_ | refine dL5 hS 1 rfl rfl rfl ?_ | refine dL6 hS 1 rfl rfl rfl ?_ | refine dL7 hS 1 rfl rfl rfl ?_
              (try simp only [Act.put, nA, nB, nC])
              refine dM hS 2 rfl rfl rfl ?_
              (try simp only [Act.put, nA, nB, nC])
              refine dP hS 3 rfl rfl ?_
              (try simp only [Act.put, nA, nB, nC])
              refine dM hS 4 rfl rfl rfl ?_
              (try simp only [Act.put, nA, nB, nC])
              first | refine dP hS 5 rfl rfl ?_ | refine dQ hS 5 rfl rfl ?_
              (try simp only [Act.put, nA, nB, nC])
              first | refine dL1 hS 6 rfl rfl rfl rfl ?_ | refine dL2 hS 6 rfl rfl rfl rfl ?_ | refine dL3 hS 6 rfl rfl rfl ?_ | refine dL4 hS 6 rfl rfl rfl ?_ | refine dL5 hS 6 rfl rfl rfl ?_ | refine dL6 hS 6 rfl rfl rfl ?_ | refine dL7 hS 6 rfl rfl rfl ?_ | refine dQ hS 6 rfl rfl ?_
              (try simp only [Act.put, nA, nB, nC])
              first | refine dM hS 7 rfl rfl rfl ?_ | refine dQ hS 7 rfl rfl ?_
              (try simp only [Act.put, nA, nB, nC])
              first | refine dP hS 8 rfl rfl ?_ | refine dQ hS 8 rfl rfl ?_
              (try simp only [Act.put, nA, nB, nC])
              refine dP hS 9 rfl rfl ?_
              (try simp only [Act.put, nA, nB, nC])
              refine dM hS 10 rfl rfl rfl ?_
              (try simp only [Act.put, nA, nB, nC])
              first | refine dP hS 11 rfl rfl ?_ | refine dQ hS 11 rfl rfl ?_
              (try simp only [Act.put, nA, nB, nC])
              first | refine dL1 hS 12 rfl rfl rfl rfl ?_ | refine dL2 hS 12 rfl rfl rfl rfl ?_ | refine dL3 hS 12 rfl rfl rfl ?_ | refine dL4 hS 12 rfl rfl rfl ?_ | refine dL5 hS 12 rfl rfl rfl ?_ | refine dL6 hS 12 rfl rfl rfl ?_ | refine dL7 hS 12 rfl rfl rfl ?_ | refine dQ hS 12 rfl rfl ?_
              (try simp only [Act.put, nA, nB, nC])
              first | refine dP hS 13 rfl rfl ?_ | refine dQ hS 13 rfl rfl ?_
              (try simp only [Act.put, nA, nB, nC])
              refine dP hS 14 rfl rfl ?_
              (try simp only [Act.put, nA, nB, nC])
              refine dM hS 15 rfl rfl rfl ?_
              (try simp only [Act.put, nA, nB, nC])
              first | refine dP hS 16 rfl rfl ?_ | refine dQ hS 16 rfl rfl ?_
              (try simp only [Act.put, nA, nB, nC])
              first | refine dL1 hS 17 rfl rfl rfl rfl ?_ | refine dL2 hS 17 rfl rfl rfl rfl ?_ | refine dL3 hS 17 rfl rfl rfl ?_ | refine dL4 hS 17 rfl rfl rfl ?_ | refine dL5 hS 17 rfl rfl rfl ?_ | refine dL6 hS 17 rfl rfl rfl ?_ | refine dL7 hS 17 rfl rfl rfl ?_ | refine dQ hS 17 rfl rfl ?_
              (try simp only [Act.put, nA, nB, nC])
              first | refine dM hS 18 rfl rfl rfl ?_ | refine dQ hS 18 rfl rfl ?_
              (try simp only [Act.put, nA, nB, nC])
              first | refine dM hS 19 rfl rfl rfl ?_ | refine dQ hS 19 rfl rfl ?_
              (try simp only [Act.put, nA, nB, nC])
              first | refine dP hS 20 rfl rfl ?_ | refine dQ hS 20 rfl rfl ?_
              (try simp only [Act.put, nA, nB, nC])
              first | refine dL1 hS 21 rfl rfl rfl rfl ?_ | refine dL2 hS 21 rfl rfl rfl rfl ?_ | refine dL3 hS 21 rfl rfl rfl ?_ | refine dL4 hS 21 rfl rfl rfl ?_ | refine dL5 hS 21 rfl rfl rfl ?_ | refine dL6 hS 21 rfl rfl rfl ?_ | refine dL7 hS 21 rfl rfl rfl ?_ | refine dQ hS 21 rfl rfl ?_
              (try simp only [Act.put, nA, nB, nC])
              first | refine dP hS 22 rfl rfl ?_ | refine dQ hS 22 rfl rfl ?_
              (try simp only [Act.put, nA, nB, nC])
              refine dP hS 23 rfl rfl ?_
              (try simp only [Act.put, nA, nB, nC])
              refine dr_done (by kernel_rfl) ?_
              go_wp2_with (first | (refine oL ?_; (first | refine sL1 hS rfl rfl rfl ?_ | refine sL2 hS rfl rfl rfl ?_ | refine sL3 hS rfl rfl ?_ | refine sL4 hS rfl rfl ?_ | refine sL5 hS rfl rfl ?_ | refine sL6 hS rfl rfl ?_ | refine sL7 hS rfl rfl ?_)) | (refine oS ?_; ((first | refine sS1 hS rfl rfl rfl ?_ | refine sS2 hS rfl rfl rfl ?_ | refine sS3 hS rfl rfl rfl ?_ | refine sS4 hS rfl rfl rfl ?_ | refine sS5 hS rfl rfl rfl ?_); clear hS; intro w hS)) | ((first | (refine oB ?_; first | refine sB1 hS rfl rfl ?_ | refine sB2 hS rfl rfl ?_) | refine sN1 hS rfl ?_); clear hS; first | ((fail_if_success guard_hyp g1); intro g1 w hS) | ((fail_if_success guard_hyp g2); intro g2 w hS) | ((fail_if_success guard_hyp g3); intro g3 w hS) | fail) | fail)
              go_roundw
              case measure => simp [intOf]; try omega
              exact ⟨j + 1, by omega, by go_num, HN, hS.re⟩
          · have HN : Hid ((p.arcs.take (j + 1)).any (fun a => decide (a.fr = r) && srcB p q a) = false) := Lib.hid (HTK.out.trans (by rw [HSB.out]; simp [show ar.at_ = 0 by omega]))
            have he2 : decide (0 < ar.at_) = false := decide_eq_false h2
            clear h0 h1 h2 HTK HTR HSB
            go_wp2_with (first | (refine oL ?_; (first | refine sL1 hS rfl rfl rfl ?_ | refine sL2 hS rfl rfl rfl ?_ | refine sL3 hS rfl rfl ?_ | refine sL4 hS rfl rfl ?_ | refine sL5 hS rfl rfl ?_ | refine sL6 hS rfl rfl ?_ | refine sL7 hS rfl rfl ?_)) | (refine oS ?_; ((first | refine sS1 hS rfl rfl rfl ?_ | refine sS2 hS rfl rfl rfl ?_ | refine sS3 hS rfl rfl rfl ?_ | refine sS4 hS rfl rfl rfl ?_ | refine sS5 hS rfl rfl rfl ?_); clear hS; intro w hS)) | ((first | (refine oB ?_; first | refine sB1 hS rfl rfl ?_ | refine sB2 hS rfl rfl ?_) | refine sN1 hS rfl ?_); clear hS; first | ((fail_if_success guard_hyp g1); intro g1 w hS) | ((fail_if_success guard_hyp g2); intro g2 w hS) | ((fail_if_success guard_hyp g3); intro g3 w hS) | fail) | fail)
            refine dr_start0 []  hS (by kernel_rfl) rfl ?_; clear hS; intro w hS
            refine dP hS 0 rfl rfl ?_
            (try simp only [Act.put, nA, nB, nC])
            first | refine dL1 hS 1 rfl rfl rfl rfl ?_ | refine dL2 hS 1 rfl rfl rfl rfl ?_ | refine dL3 hS 1 rfl rfl rfl ?_ | refine dL4 hS 1 rfl rfl rfl ?_ | refine dL5 hS 1 rfl rfl rfl ?_ | refine dL6 hS 1 rfl rfl rfl ?_ | refine dL7 hS 1 rfl rfl rfl ?_
            (try simp only [Act.put, nA, nB, nC])
            refine dM hS 2 rfl rfl rfl ?_
            (try simp only [Act.put, nA, nB, nC])
            refine dP hS 3 rfl rfl ?_
            (try simp only [Act.put, nA, nB, nC])
            refine dM hS 4 rfl rfl rfl ?_
            (try simp only [Act.put, nA, nB, nC])
            first | refine dP hS 5 rfl rfl ?_ | refine dQ hS 5 rfl rfl ?_
            (try simp only [Act.put, nA, nB, nC])
            first | refine dL1 hS 6 rfl rfl rfl rfl ?_ | refine dL2 hS 6 rfl rfl rfl rfl ?_ | refine dL3 hS 6 rfl rfl rfl ?_ | refine dL4 hS 6 rfl rfl rfl ?_ | refine dL5 hS 6 rfl rfl rfl ?_ | refine dL6 hS 6 rfl rfl rfl ?_ | refine dL7 hS 6 rfl rfl rfl ?_ | refine dQ hS 6 rfl rfl ?_
            (try simp only [Act.put, nA, nB, nC])
            first | refine dM hS 7 rfl rfl rfl ?_ | refine dQ hS 7 rfl rfl ?_
            (try simp only [Act.put, nA, nB, nC])
            first | refine dP hS 8 rfl rfl ?_ | refine dQ hS 8 rfl rfl ?_
            (try simp only [Act.put, nA, nB, nC])
            refine dP hS 9 rfl rfl ?_
            (try simp only [Act.put, nA, nB, nC])
            refine dM hS 10 rfl rfl rfl ?_
            (try simp only [Act.put, nA, nB, nC])
            first | refine dP hS 11 rfl rfl ?_ | refine dQ hS 11 rfl rfl ?_
            (try simp only [Act.put, nA, nB, nC])
            first | refine dL1 hS 12 rfl rfl rfl rfl ?_ | refine dL2 hS 12 rfl rfl rfl rfl ?_ | refine dL3 hS 12 rfl rfl rfl ?_ | refine dL4 hS 12 rfl rfl rfl ?_ | refine dL5 hS 12 rfl rfl rfl ?_ | refine dL6 hS 12 rfl rfl rfl ?_ | refine dL7 hS 12 rfl rfl rfl ?_ | refine dQ hS 12 rfl rfl ?_
            (try simp only [Act.put, nA, nB, nC])
            first | refine dP hS 13 rfl rfl ?_ | refine dQ hS 13 rfl rfl ?_
            (try simp only [Act.put, nA, nB, nC])
            refine dP hS 14 rfl rfl ?_
            (try simp only [Act.put, nA, nB, nC])
            refine dM hS 15 rfl rfl rfl ?_
            (try simp only [Act.put, nA, nB, nC])
            first | refine dP hS 16 rfl rfl ?_ | refine dQ hS 16 rfl rfl ?_
            (try simp only [Act.put, nA, nB, nC])
            first | refine dL1 hS 17 rfl rfl rfl rfl ?_ | refine dL2 hS 17 rfl rfl rfl rfl ?_ | refine dL3 hS 17 rfl rfl rfl ?_ | refine dL4 hS 17 rfl rfl rfl ?_ | refine dL5 hS 17 rfl rfl rfl ?_ | refine dL6 hS 17 rfl rfl rfl ?_ | refine dL7 hS 17 rfl rfl rfl ?_ | refine dQ hS 17 rfl rfl ?_
            (try simp only [Act.put, nA, nB, nC])
            first | refine dM hS 18 rfl rfl rfl ?_ | refine dQ hS 18 rfl rfl ?_
            (try simp only [Act.put, nA, nB, nC])
            first | refine dM hS 19 rfl rfl rfl ?_ | refine dQ hS 19 rfl rfl ?_
            (try simp only [Act.put, nA, nB, nC])
            first | refine dP hS 20 rfl rfl ?_ | refine dQ hS 20 rfl rfl ?_
            (try simp only [Act.put, nA, nB, nC])
            first | refine dL1 hS 21 rfl rfl rfl rfl ?_ | refine dL2 hS 21 rfl rfl rfl rfl ?_ | refine dL3 hS 21 rfl rfl rfl ?_ | refine dL4 hS 21 rfl rfl rfl ?_ | refine dL5 hS 21 rfl rfl rfl ?_ | refine dL6 hS 21 rfl rfl rfl ?_ | refine dL7 hS 21 rfl rfl rfl ?_ | refine dQ hS 21 rfl rfl ?_
            (try simp only [Act.put, nA, nB, nC])
            first | refine dP hS 22 rfl rfl ?_ | refine dQ hS 22 rfl rfl ?_
            (try simp only [Act.put, nA, nB, nC])
            refine dP hS 23 rfl rfl ?_
            (try simp only [Act.put, nA, nB, nC])
            refine dr_done (by kernel_rfl) ?_
            go_wp2_with (first | (refine oL ?_; (first | refine sL1 hS rfl rfl rfl ?_ | refine sL2 hS rfl rfl rfl ?_ | refine sL3 hS rfl rfl ?_ | refine sL4 hS rfl rfl ?_ | refine sL5 hS rfl rfl ?_ | refine sL6 hS rfl rfl ?_ | refine sL7 hS rfl rfl ?_)) | (refine oS ?_; ((first | refine sS1 hS rfl rfl rfl ?_ | refine sS2 hS rfl rfl rfl ?_ | refine sS3 hS rfl rfl rfl ?_ | refine sS4 hS rfl rfl rfl ?_ | refine sS5 hS rfl rfl rfl ?_); clear hS; intro w hS)) | ((first | (refine oB ?_; first | refine sB1 hS rfl rfl ?_ | refine sB2 hS rfl rfl ?_) | refine sN1 hS rfl ?_); clear hS; first | ((fail_if_success guard_hyp g1); intro g1 w hS) | ((fail_if_success guard_hyp g2); intro g2 w hS) | ((fail_if_success guard_hyp g3); intro g3 w hS) | fail) | fail)
            go_roundw
            case measure => simp [intOf]; try omega
            exact ⟨j + 1, by omega, by go_num, HN, hS.re⟩
        · have HN : Hid ((p.arcs.take (j + 1)).any (fun a => decide (a.fr = r) && srcB p q a) = false) := Lib.hid (HTK.out.trans (by rw [HSB.out]; simp [h1]))
          have he1 : ((ar.to : Int) == (q : Int)) = false := by simp; omega
          clear h0 h1 HTK HTR HSB
          go_wp2_with (first | (refine oL ?_; (first | refine sL1 hS rfl rfl rfl ?_ | refine sL2 hS rfl rfl rfl ?_ | refine sL3 hS rfl rfl ?_ | refine sL4 hS rfl rfl ?_ | refine sL5 hS rfl rfl ?_ | refine sL6 hS rfl rfl ?_ | refine sL7 hS rfl rfl ?_)) | (refine oS ?_; ((first | refine sS1 hS rfl rfl rfl ?_ | refine sS2 hS rfl rfl rfl ?_ | refine sS3 hS rfl rfl rfl ?_ | refine sS4 hS rfl rfl rfl ?_ | refine sS5 hS rfl rfl rfl ?_); clear hS; intro w hS)) | ((first | (refine oB ?_; first | refine sB1 hS rfl rfl ?_ | refine sB2 hS rfl rfl ?_) | refine sN1 hS rfl ?_); clear hS; first | ((fail_if_success guard_hyp g1); intro g1 w hS) | ((fail_if_success guard_hyp g2); intro g2 w hS) | ((fail_if_success guard_hyp g3); intro g3 w hS) | fail) | fail)
          refine dr_start0 []  hS (by kernel_rfl) rfl ?_; clear hS; intro w hS
          refine dP hS 0 rfl rfl ?_
          (try simp only [Act.put, nA, nB, nC])
          first | refine dL1 hS 1 rfl rfl rfl rfl ?_ | refine dL2 hS 1 rfl rfl rfl rfl ?_ | refine dL3 hS 1 rfl rfl rfl ?_ | refine dL4 hS 1 rfl rfl rfl ?_ | refine dL5 hS 1 rfl rfl rfl ?_ | refine dL6 hS 1 rfl rfl rfl ?_ | refine dL7 hS 1 rfl rfl rfl ?_
          (try simp only [Act.put, nA, nB, nC])
          refine dM hS 2 rfl rfl rfl ?_
          (try simp only [Act.put, nA, nB, nC])
          refine dP hS 3 rfl rfl ?_
          (try simp only [Act.put, nA, nB, nC])
          refine dM hS 4 rfl rfl rfl ?_
          (try simp only [Act.put, nA, nB, nC])
          first | refine dP hS 5 rfl rfl ?_ | refine dQ hS 5 rfl rfl ?_
          (try simp only [Act.put, nA, nB, nC])
          first | refine dL1 hS 6 rfl rfl rfl rfl ?_ | refine dL2 hS 6 rfl rfl rfl rfl ?_ | refine dL3 hS 6 rfl rfl rfl ?_ | refine dL4 hS 6 rfl rfl rfl ?_ | refine dL5 hS 6 rfl rfl rfl ?_ | refine dL6 hS 6 rfl rfl rfl ?_ | refine dL7 hS 6 rfl rfl rfl ?_ | refine dQ hS 6 rfl rfl ?_
          (try simp only [Act.put, nA, nB, nC])
          first | refine dM hS 7 rfl rfl rfl ?_ | refine dQ hS 7 rfl rfl ?_
          (try simp only [Act.put, nA, nB, nC])
          first | refine dP hS 8 rfl rfl ?_ | refine dQ hS 8 rfl rfl ?_
          (try simp only [Act.put, nA, nB, nC])
          refine dP hS 9 rfl rfl ?_
          (try simp only [Act.put, nA, nB, nC])
          refine dM hS 10 rfl rfl rfl ?_
          (try simp only [Act.put, nA, nB, nC])
          first | refine dP hS 11 rfl rfl ?_ | refine dQ hS 11 rfl rfl ?_
          (try simp only [Act.put, nA, nB, nC])
          first | refine dL1 hS 12 rfl rfl rfl rfl ?_ | refine dL2 hS 12 rfl rfl rfl rfl ?_ | refine dL3 hS 12 rfl rfl rfl ?_ | refine dL4 hS 12 rfl rfl rfl ?_ | refine dL5 hS 12 rfl rfl rfl ?_ | refine dL6 hS 12 rfl rfl rfl ?_ | refine dL7 hS 12 rfl rfl rfl ?_ | refine dQ hS 12 rfl rfl ?_
          (try simp only [Act.put, nA, nB, nC])
          first | refine dP hS 13 rfl rfl ?_ | refine dQ hS 13 rfl rfl ?_
          (try simp only [Act.put, nA, nB, nC])
          refine dP hS 14 rfl rfl ?_
          (try simp only [Act.put, nA, nB, nC])
          refine dM hS 15 rfl rfl rfl ?_
          (try simp only [Act.put, nA, nB, nC])
          first | refine dP hS 16 rfl rfl ?_ | refine dQ hS 16 rfl rfl ?_
          (try simp only [Act.put, nA, nB, nC])
          first | refine dL1 hS 17 rfl rfl rfl rfl ?_ | refine dL2 hS 17 rfl rfl rfl rfl ?_ | refine dL3 hS 17 rfl rfl rfl ?_ | refine dL4 hS 17 rfl rfl rfl ?_ | refine dL5 hS 17 rfl rfl rfl ?_ | refine dL6 hS 17 rfl rfl rfl ?_ | refine dL7 hS 17 rfl rfl rfl ?_ | refine dQ hS 17 rfl rfl ?_
          (try simp only [Act.put, nA, nB, nC])
          first | refine dM hS 18 rfl rfl rfl ?_ | refine dQ hS 18 rfl rfl ?_
          (try simp only [Act.put, nA, nB, nC])
          first | refine dM hS 19 rfl rfl rfl ?_ | refine dQ hS 19 rfl rfl ?_
          (try simp only [Act.put, nA, nB, nC])
          first | refine dP hS 20 rfl rfl ?_ | refine dQ hS 20 rfl rfl ?_
          (try simp only [Act.put, nA, nB, nC])
          first | refine dL1 hS 21 rfl rfl rfl rfl ?_ | refine dL2 hS 21 rfl rfl rfl rfl ?_ | refine dL3 hS 21 rfl rfl rfl ?_ | refine dL4 hS 21 rfl rfl rfl ?_ | refine dL5 hS 21 rfl rfl rfl ?_ | refine dL6 hS 21 rfl rfl rfl ?_ | refine dL7 hS 21 rfl rfl rfl ?_ | refine dQ hS 21 rfl rfl ?_
          (try simp only [Act.put, nA, nB, nC])
          first | refine dP hS 22 rfl rfl ?_ | refine dQ hS 22 rfl rfl ?_
          (try simp only [Act.put, nA, nB, nC])
          refine dP hS 23 rfl rfl ?_
          (try simp only [Act.put, nA, nB, nC])
          refine dr_done (by kernel_rfl) ?_
          go_wp2_with (first | (refine oL ?_; (first | refine sL1 hS rfl rfl rfl ?_ | refine sL2 hS rfl rfl rfl ?_ | refine sL3 hS rfl rfl ?_ | refine sL4 hS rfl rfl ?_ | refine sL5 hS rfl rfl ?_ | refine sL6 hS rfl rfl ?_ | refine sL7 hS rfl rfl ?_)) | (refine oS ?_; ((first | refine sS1 hS rfl rfl rfl ?_ | refine sS2 hS rfl rfl rfl ?_ | refine sS3 hS rfl rfl rfl ?_ | refine sS4 hS rfl rfl rfl ?_ | refine sS5 hS rfl rfl rfl ?_); clear hS; intro w hS)) | ((first | (refine oB ?_; first | refine sB1 hS rfl rfl ?_ | refine sB2 hS rfl rfl ?_) | refine sN1 hS rfl ?_); clear hS; first | ((fail_if_success guard_hyp g1); intro g1 w hS) | ((fail_if_success guard_hyp g2); intro g2 w hS) | ((fail_if_success guard_hyp g3); intro g3 w hS) | fail) | fail)
          go_roundw
          case measure => simp [intOf]; try omega
          exact ⟨j + 1, by omega, by go_num, HN, hS.re⟩
      · have HN : Hid ((p.arcs.take (j + 1)).any (fun a => decide (a.fr = r) && srcB p q a) = false) := Lib.hid (HTK.out.trans (by simp [h0]))
        have hf0 : ((ar.fr : Int) == (r : Int)) = false := by simp; omega
        clear h0 HTK HTR HSB
        go_wp2_with (first | (refine oL ?_; (first | refine sL1 hS rfl rfl rfl ?_ | refine sL2 hS rfl rfl rfl ?_ | refine sL3 hS rfl rfl ?_ | refine sL4 hS rfl rfl ?_ | refine sL5 hS rfl rfl ?_ | refine sL6 hS rfl rfl ?_ | refine sL7 hS rfl rfl ?_)) | (refine oS ?_; ((first | refine sS1 hS rfl rfl rfl ?_ | refine sS2 hS rfl rfl rfl ?_ | refine sS3 hS rfl rfl rfl ?_ | refine sS4 hS rfl rfl rfl ?_ | refine sS5 hS rfl rfl rfl ?_); clear hS; intro w hS)) | ((first | (refine oB ?_; first | refine sB1 hS rfl rfl ?_ | refine sB2 hS rfl rfl ?_) | refine sN1 hS rfl ?_); clear hS; first | ((fail_if_success guard_hyp g1); intro g1 w hS) | ((fail_if_success guard_hyp g2); intro g2 w hS) | ((fail_if_success guard_hyp g3); intro g3 w hS) | fail) | fail)
        refine dr_start0 []  hS (by kernel_rfl) rfl ?_; clear hS; intro w hS
        refine dP hS 0 rfl rfl ?_
        (try simp only [Act.put, nA, nB, nC])
        first | refine dL1 hS 1 rfl rfl rfl rfl ?_ | refine dL2 hS 1 rfl rfl rfl rfl ?_ | refine dL3 hS 1 rfl rfl rfl ?_ | refine dL4 hS 1 rfl rfl rfl ?_ | refine dL5 hS 1 rfl rfl rfl ?_ | refine dL6 hS 1 rfl rfl rfl ?_ | refine dL7 hS 1 rfl rfl rfl ?_
        (try simp only [Act.put, nA, nB, nC])
        refine dM hS 2 rfl rfl rfl ?_
        (try simp only [Act.put, nA, nB, nC])
        refine dP hS 3 rfl rfl ?_
        (try simp only [Act.put, nA, nB, nC])
        refine dM hS 4 rfl rfl rfl ?_
        (try simp only [Act.put, nA, nB, nC])
        first | refine dP hS 5 rfl rfl ?_ | refine dQ hS 5 rfl rfl ?_
        (try simp only [Act.put, nA, nB, nC])
        first | refine dL1 hS 6 rfl rfl rfl rfl ?_ | refine dL2 hS 6 rfl rfl rfl rfl ?_ | refine dL3 hS 6 rfl rfl rfl ?_ | refine dL4 hS 6 rfl rfl rfl ?_ | refine dL5 hS 6 rfl rfl rfl ?_ | refine dL6 hS 6 rfl rfl rfl ?_ | refine dL7 hS 6 rfl rfl rfl ?_ | refine dQ hS 6 rfl rfl ?_
        (try simp only [Act.put, nA, nB, nC])
        first | refine dM hS 7 rfl rfl rfl ?_ | refine dQ hS 7 rfl rfl ?_
        (try simp only [Act.put, nA, nB, nC])
        first | refine dP hS 8 rfl rfl ?_ | refine dQ hS 8 rfl rfl ?_
        (try simp only [Act.put, nA, nB, nC])
        refine dP hS 9 rfl rfl ?_
        (try simp only [Act.put, nA, nB, nC])
        refine dM hS 10 rfl rfl rfl ?_
        (try simp only [Act.put, nA, nB, nC])
        first | refine dP hS 11 rfl rfl ?_ | refine dQ hS 11 rfl rfl ?_
        (try simp only [Act.put, nA, nB, nC])
        first | refine dL1 hS 12 rfl rfl rfl rfl ?_ | refine dL2 hS 12 rfl rfl rfl rfl ?_ | refine dL3 hS 12 rfl rfl rfl ?_ | refine dL4 hS 12 rfl rfl rfl ?_ | refine dL5 hS 12 rfl rfl rfl ?_ | refine dL6 hS 12 rfl rfl rfl ?_ | refine dL7 hS 12 rfl rfl rfl ?_ | refine dQ hS 12 rfl rfl ?_
        (try simp only [Act.put, nA, nB, nC])
        first | refine dP hS 13 rfl rfl ?_ | refine dQ hS 13 rfl rfl ?_
        (try simp only [Act.put, nA, nB, nC])
        refine dP hS 14 rfl rfl ?_
        (try simp only [Act.put, nA, nB, nC])
        refine dM hS 15 rfl rfl rfl ?_
        (try simp only [Act.put, nA, nB, nC])
        first | refine dP hS 16 rfl rfl ?_ | refine dQ hS 16 rfl rfl ?_
        (try simp only [Act.put, nA, nB, nC])
        first | refine dL1 hS 17 rfl rfl rfl rfl ?_ | refine dL2 hS 17 rfl rfl rfl rfl ?_ | refine dL3 hS 17 rfl rfl rfl ?_ | refine dL4 hS 17 rfl rfl rfl ?_ | refine dL5 hS 17 rfl rfl rfl ?_ | refine dL6 hS 17 rfl rfl rfl ?_ | refine dL7 hS 17 rfl rfl rfl ?_ | refine dQ hS 17 rfl rfl ?_
        (try simp only [Act.put, nA, nB, nC])
        first | refine dM hS 18 rfl rfl rfl ?_ | refine dQ hS 18 rfl rfl ?_
        (try simp only [Act.put, nA, nB, nC])
        first | refine dM hS 19 rfl rfl rfl ?_ | refine dQ hS 19 rfl rfl ?_
        (try simp only [Act.put, nA, nB, nC])
        first | refine dP hS 20 rfl rfl ?_ | refine dQ hS 20 rfl rfl ?_
        (try simp only [Act.put, nA, nB, nC])
        first | refine dL1 hS 21 rfl rfl rfl rfl ?_ | refine dL2 hS 21 rfl rfl rfl rfl ?_ | refine dL3 hS 21 rfl rfl rfl ?_ | refine dL4 hS 21 rfl rfl rfl ?_ | refine dL5 hS 21 rfl rfl rfl ?_ | refine dL6 hS 21 rfl rfl rfl ?_ | refine dL7 hS 21 rfl rfl rfl ?_ | refine dQ hS 21 rfl rfl ?_
        (try simp only [Act.put, nA, nB, nC])
        first | refine dP hS 22 rfl rfl ?_ | refine dQ hS 22 rfl rfl ?_
        (try simp only [Act.put, nA, nB, nC])
        refine dP hS 23 rfl rfl ?_
        (try simp only [Act.put, nA, nB, nC])
        refine dr_done (by kernel_rfl) ?_
        go_wp2_with (first | (refine oL ?_; (first | refine sL1 hS rfl rfl rfl ?_ | refine sL2 hS rfl rfl rfl ?_ | refine sL3 hS rfl rfl ?_ | refine sL4 hS rfl rfl ?_ | refine sL5 hS rfl rfl ?_ | refine sL6 hS rfl rfl ?_ | refine sL7 hS rfl rfl ?_)) | (refine oS ?_; ((first | refine sS1 hS rfl rfl rfl ?_ | refine sS2 hS rfl rfl rfl ?_ | refine sS3 hS rfl rfl rfl ?_ | refine sS4 hS rfl rfl rfl ?_ | refine sS5 hS rfl rfl rfl ?_); clear hS; intro w hS)) | ((first | (refine oB ?_; first | refine sB1 hS rfl rfl ?_ | refine sB2 hS rfl rfl ?_) | refine sN1 hS rfl ?_); clear hS; first | ((fail_if_success guard_hyp g1); intro g1 w hS) | ((fail_if_success guard_hyp g2); intro g2 w hS) | ((fail_if_success guard_hyp g3); intro g3 w hS) | fail) | fail)
        go_roundw
        case measure => simp [intOf]; try omega
        exact ⟨j + 1, by omega, by go_num, HN, hS.re⟩
    · have hjl' : ¬ (j : Int) < p.arcs.length := by omega
      have HF := Lib.hid (show isSrc p r q = false by have := HA.out; rw [List.take_of_length_le (by omega)] at this; exact this)
      go_wp2_with (first | (refine oL ?_; (first | refine sL1 hS rfl rfl rfl ?_ | refine sL2 hS rfl rfl rfl ?_ | refine sL3 hS rfl rfl ?_ | refine sL4 hS rfl rfl ?_ | refine sL5 hS rfl rfl ?_ | refine sL6 hS rfl rfl ?_ | refine sL7 hS rfl rfl ?_)) | (refine oS ?_; ((first | refine sS1 hS rfl rfl rfl ?_ | refine sS2 hS rfl rfl rfl ?_ | refine sS3 hS rfl rfl rfl ?_ | refine sS4 hS rfl rfl rfl ?_ | refine sS5 hS rfl rfl rfl ?_); clear hS; intro w hS)) | ((first | (refine oB ?_; first | refine sB1 hS rfl rfl ?_ | refine sB2 hS rfl rfl ?_) | refine sN1 hS rfl ?_); clear hS; first | ((fail_if_success guard_hyp g1); intro g1 w hS) | ((fail_if_success guard_hyp g2); intro g2 w hS) | ((fail_if_success guard_hyp g3); intro g3 w hS) | fail) | fail)
      go_ret
      rw [HF.out]
      exact ⟨rfl, hS.toExt⟩
set_option maxRecDepth 100000 in
set_option maxHeartbeats 1600000 in
theorem draw24_any (C : Option Addr) (f : Nat) (bs : List Int) (w0 : World) (hbs : RV (fun b => b < w0.heap.size) w0 C (bytes bs)) (hf : bs.length ≤ f) (hf' : f ≤ 9223372036854775807) (hby : ∀ b ∈ bs, 0 ≤ b ∧ b ≤ 255) :
    Calls Try.prog 22 #[.slice C bs.length f] w0 fun e w' => ∃ v p, e = .returned (v.val p) ∧ Small p 40 ∧ PatAt (fun k => w0.heap.size ≤ k ∧ k < w'.heap.size) w' v p ∧ Ext w0 w' := by
  have hS := St.start w0 NoM
  have HB := Lib.hid (And.intro hby (RV.sub (S' := Froz w0 NoM) hbs (fun k hk => ⟨hk, id⟩)))
  clear hby hbs
  go_enter Try.func22, Try.ntmps22
  go_wp2_with (first | (refine oS ?_; ((first | refine sS1 hS rfl rfl rfl ?_ | refine sS2 hS rfl rfl rfl ?_ | refine sS3 hS rfl rfl rfl ?_ | refine sS4 hS rfl rfl rfl ?_ | refine sS5 hS rfl rfl rfl ?_); clear hS; intro w hS)) | ((first | refine sN1 hS rfl ?_); clear hS; first | ((fail_if_success guard_hyp g1); intro g1 w hS) | ((fail_if_success guard_hyp g2); intro g2 w hS) | fail) | fail)
  refine (new_st (m := 120) hS (by omega) HB.out.2 hf hf' HB.out.1).mono ?_
  rintro e w ⟨gc, κ, rfl, hS⟩
  clear HB
  generalize bs.take 120 = r at *
  go_wp2_with (first | (refine oS ?_; ((first | refine sS1 hS rfl rfl rfl ?_ | refine sS2 hS rfl rfl rfl ?_ | refine sS3 hS rfl rfl rfl ?_ | refine sS4 hS rfl rfl rfl ?_ | refine sS5 hS rfl rfl rfl ?_); clear hS; intro w hS)) | ((first | refine sN1 hS rfl ?_); clear hS; first | ((fail_if_success guard_hyp g1); intro g1 w hS) | ((fail_if_success guard_hyp g2); intro g2 w hS) | fail) | fail)
  refine (pattern_st (m := 40) hS rfl (by omega)).mono ?_
  rintro e w ⟨v, p, r1, T, rfl, hsm, hpa, hS⟩
  have HP := Lib.hid (And.intro hsm hpa)
  obtain ⟨A1, c1, A2, c2, A3, c3⟩ := v
  simp only [PV.val]
  clear hsm hpa
  generalize hu : w = u at *
  go_wp2_with (first | (refine oS ?_; ((first | refine sS1 hS rfl rfl rfl ?_ | refine sS2 hS rfl rfl rfl ?_ | refine sS3 hS rfl rfl rfl ?_ | refine sS4 hS rfl rfl rfl ?_ | refine sS5 hS rfl rfl rfl ?_); clear hS; intro w hS)) | ((first | refine sN1 hS rfl ?_); clear hS; first | ((fail_if_success guard_hyp g1); intro g1 w hS) | ((fail_if_success guard_hyp g2); intro g2 w hS) | fail) | fail)
  refine st_retC hS rfl rfl rfl rfl ?_
  have hT : ∀ k, T k → w0.heap.size ≤ k ∧ k < w.heap.size := fun k hk => ⟨(hS.new (froz T u) (by simp) k hk).resolve_right id, (froz T u : Chunk w0 NoM).lt (hS.all _ (by simp)) hk⟩
  exact ⟨⟨A1, c1, A2, c2, A3, c3⟩, p, rfl, HP.out.1, HP.out.2.into (hS.frozInto.widen hT), hS.toExt⟩
theorem frozOf {w0 w w' : World} {M : Nat → Prop} {cs : List (Chunk w0 M)} {v : PV} {p : Pat} (h : St w0 M cs w) (hx : Ext w w') (hp : PatAt (fun k => w.heap.size ≤ k ∧ k < w'.heap.size) w' v p) : ∃ T : Nat → Prop, St w0 M (froz T w' :: cs) w' ∧ PatAt T w' v p := ⟨_, h.frozNew hx, hp⟩
set_option maxHeartbeats 800000 in
theorem mod24_any (x : Int) (n : Nat) (z : Int) (w0 : World) (hz : z = n) (hn : 1 ≤ n) (hn' : n ≤ 1000) :
    Calls Try.prog 12 #[.int .i64 x, .int .i64 z] w0 fun e w' => (∃ r : Nat, e = .returned (.int .i64 (r : Int)) ∧ r < n) ∧ Ext w0 w' := by
  subst hz
  have hS := St.start w0 NoM
  have h1 : Int.tmod x n < n := Int.tmod_lt_of_pos x (by omega)
  have h2 : -(n : Int) < Int.tmod x n := by
    have := Int.tmod_lt_of_pos (-x) (show (0 : Int) < n by omega)
    rw [Int.neg_tmod] at this; omega
  generalize hy : Int.tmod x n = y at *
  by_cases h0 : y < 0
  · go_enter Try.func12, Try.ntmps12
    go_wp2_with (fail)
    go_ret
    exact ⟨⟨(y + n).toNat, ret_int (by omega), by omega⟩, hS.toExt⟩
  · go_enter Try.func12, Try.ntmps12
    go_wp2_with (fail)
    go_ret
    exact ⟨⟨y.toNat, ret_int (by omega), by omega⟩, hS.toExt⟩
end Go.Proofs.Ytmjmdncdmmcmaaa
