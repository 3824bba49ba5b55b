/- CausalCuts returns true for every input. No condition. -/
import Derived.Test.YtkflmichekpfbaaLaw17
import Derived.Test.YtkflmichekpfbaaCausF
namespace Go.Proofs.Ytkflmichekpfbaa
open Go.RowKit
set_option linter.unusedVariables false
set_option linter.unusedSimpArgs false

theorem St.ptSlice' {w0 w : World} {M : Nat → Prop} {cs : List (Chunk w0 M)} {f : Chunk w0 M → List (Chunk w0 M)} {L : Option Addr} {k c n : Nat} {e : TypeId} {l : List (Nat × Int)} (h : St w0 M cs w) [hp : PickL L cs k c e 2 n (l.flatMap ptCells) f] : RPt All w L l := ⟨_, h.rv, reps_pts w l⟩
theorem pt_at {l : List (Nat × Int)} {j : Nat} (hj : j < l.length) : ∀ (i : Nat) u, ([.int .i64 (l[j].1 : Int), .int .i64 l[j].2] : List Value)[i]? = some u → (l.flatMap ptCells)[j * 2 + i]? = some u := by
  induction l generalizing j with
  | nil => simp at hj
  | cons a l ih =>
    intro i u h
    rw [List.flatMap_cons]
    match j with
    | 0 =>
      simp only [List.getElem_cons_zero, Nat.zero_mul, Nat.zero_add] at h ⊢
      have hi : i < 2 := by have := (List.getElem?_eq_some_iff.1 h).1; simpa using this
      rw [List.getElem?_append_left (by simpa [ptCells] using hi)]
      simpa [ptCells] using h
    | j + 1 =>
      simp only [List.getElem_cons_succ] at h
      rw [List.getElem?_append_right (by simp [ptCells]; omega)]
      have := ih (by simpa using hj) i u h
      simp only [ptCells, List.length_cons, List.length_nil]
      rw [show (j + 1) * 2 + i - (0 + 1 + 1) = j * 2 + i by omega]
      exact this
theorem allPts_pos {p : Pat} (hg : Good p) : 0 < (allPts p).length := List.length_pos_of_mem ((mem_allPts hg).2 (show PtOk p (0, 0) from ⟨by have := hg.n2; omega, Int.le_refl _, hg.lo 0 (by have := hg.n2; omega)⟩))
theorem bytes_at {S : Nat → Prop} {w : World} {A : Option Addr} {bs : List Int} (h : RV S w A (bytes bs)) {k : Nat} (hk : k < bs.length) : ∃ b o, A = some ⟨b, o, none⟩ ∧ S b ∧ w.cell? ⟨b, o + k, none⟩ = some (.int .u8 (nth bs k)) := by
  have h2 := h k (.int .u8 (nth bs k)) (by simp [bytes, hk, nth_eq hk])
  exact h2
theorem nth_byte {bs : List Int} (h : ∀ b ∈ bs, 0 ≤ b ∧ b ≤ 255) {k : Nat} (hk : k < bs.length) : 0 ≤ nth bs k ∧ nth bs k ≤ 255 := by
  rw [nth_eq hk]; exact h _ (List.getElem_mem hk)
set_option maxRecDepth 100000 in
set_option maxHeartbeats 6400000 in
theorem causalCuts_any (C : Option Addr) (f : Nat) (bs : List Int) (C2 : Option Addr) (f2 : Nat) (b2 : List Int) (C3 : Option Addr) (f3 : Nat) (b3 : List Int) (w0 : World) (hbs : RV (fun b => b < w0.heap.size) w0 C (bytes bs)) (hf : bs.length ≤ f) (hf' : f ≤ 9223372036854775807) (hby : ∀ b ∈ bs, 0 ≤ b ∧ b ≤ 255) (hb2 : RV (fun b => b < w0.heap.size) w0 C2 (bytes b2)) (hf2 : b2.length ≤ f2) (hf2' : f2 ≤ 9223372036854775807) (hy2 : ∀ b ∈ b2, 0 ≤ b ∧ b ≤ 255) (hb3 : RV (fun b => b < w0.heap.size) w0 C3 (bytes b3)) (hf3 : b3.length ≤ f3) (hf3' : f3 ≤ 9223372036854775807) (hy3 : ∀ b ∈ b3, 0 ≤ b ∧ b ≤ 255) :
    Calls Try.prog 6 #[.slice C bs.length f, .slice C2 b2.length f2, .slice C3 b3.length f3] w0 fun e w' => e = .returned (.bool true) ∧ Ext w0 w' := by
  have hS := St.start w0 NoM
  have HB2 := Lib.hid (And.intro hy2 hb2)
  have HB3 := Lib.hid (And.intro hy3 (RV.sub (S' := Froz w0 NoM) hb3 (fun k hk => ⟨hk, id⟩)))
  clear hy2 hb2 hy3 hb3
  have HB := Lib.hid (And.intro hby (RV.sub (S' := Froz w0 NoM) hbs (fun k hk => ⟨hk, id⟩)))
  clear hby hbs
  go_enter Try.func6, Try.ntmps6
  go_wp2_with (first | (go_at_call 15; refine (awake17_any _).mono ?_; rintro e w ⟨rfl, hx1⟩; replace hS := hS.ext hx1) | (refine oL ?_; (first | refine sL1 hS rfl rfl rfl ?_ | refine sL2 hS rfl rfl rfl ?_ | refine sL3 hS rfl rfl ?_ | refine sL4 hS rfl rfl ?_ | refine sL5 hS rfl rfl ?_ | refine sL6 hS rfl rfl ?_ | refine sL7 hS rfl rfl ?_)) | (refine oS ?_; ((first | refine sS1 hS rfl rfl rfl ?_ | refine sS2 hS rfl rfl rfl ?_ | refine sS3 hS rfl rfl rfl ?_ | refine sS4 hS rfl rfl rfl ?_ | refine sS5 hS rfl rfl rfl ?_); clear hS; intro w hS)) | (refine oP ?_; ((first | refine sP1 hS rfl rfl rfl ?_ | refine sP2 hS rfl rfl rfl ?_ | refine sP3 hS rfl rfl rfl ?_); clear hS; first | ((fail_if_success guard_hyp L1); intro L1 cl1 w hL1 hM1 hS) | ((fail_if_success guard_hyp L2); intro L2 cl2 w hL2 hM2 hS) | fail)) | ((first | refine sN1 hS rfl ?_ | (refine oC ?_; first | refine sC0 hS rfl ?_ | refine sC1 hS rfl rfl ?_ | refine sC2 hS rfl rfl ?_ | refine sC3 hS rfl rfl rfl ?_ | refine sC4 hS rfl rfl rfl ?_)); clear hS; first | ((fail_if_success guard_hyp g1); intro g1 w hS) | ((fail_if_success guard_hyp g2); intro g2 w hS) | ((fail_if_success guard_hyp g3); intro g3 w hS) | ((fail_if_success guard_hyp g4); intro g4 w hS) | fail) | fail)
  refine (new_st (m := 240) hS (by omega) HB.out.2 hf hf' HB.out.1).mono ?_
  rintro e w ⟨gc, κ, rfl, hS⟩
  clear HB
  generalize bs.take 240 = r at *
  go_wp2_with (first | (refine oL ?_; (first | refine sL1 hS rfl rfl rfl ?_ | refine sL2 hS rfl rfl rfl ?_ | refine sL3 hS rfl rfl ?_ | refine sL4 hS rfl rfl ?_ | refine sL5 hS rfl rfl ?_ | refine sL6 hS rfl rfl ?_ | refine sL7 hS rfl rfl ?_)) | (refine oS ?_; ((first | refine sS1 hS rfl rfl rfl ?_ | refine sS2 hS rfl rfl rfl ?_ | refine sS3 hS rfl rfl rfl ?_ | refine sS4 hS rfl rfl rfl ?_ | refine sS5 hS rfl rfl rfl ?_); clear hS; intro w hS)) | (refine oP ?_; ((first | refine sP1 hS rfl rfl rfl ?_ | refine sP2 hS rfl rfl rfl ?_ | refine sP3 hS rfl rfl rfl ?_); clear hS; first | ((fail_if_success guard_hyp L1); intro L1 cl1 w hL1 hM1 hS) | ((fail_if_success guard_hyp L2); intro L2 cl2 w hL2 hM2 hS) | fail)) | ((first | refine sN1 hS rfl ?_ | (refine oC ?_; first | refine sC0 hS rfl ?_ | refine sC1 hS rfl rfl ?_ | refine sC2 hS rfl rfl ?_ | refine sC3 hS rfl rfl rfl ?_ | refine sC4 hS rfl rfl rfl ?_)); clear hS; first | ((fail_if_success guard_hyp g1); intro g1 w hS) | ((fail_if_success guard_hyp g2); intro g2 w hS) | ((fail_if_success guard_hyp g3); intro g3 w hS) | ((fail_if_success guard_hyp g4); intro g4 w hS) | fail) | fail)
  refine (pattern_st (m := 20) hS rfl (by omega)).mono ?_
  rintro e w ⟨v, p, r1, T, rfl, hsm, hpa, hS⟩
  have HP := Lib.hid (And.intro hsm hpa)
  have e1 := hsm.good.ckl
  have hn5 := hsm.good.n5
  obtain ⟨A1, c1, A2, c2, A3, c3⟩ := v
  simp only [PV.val]
  have HE := Lib.hid e1
  have hn2 := hsm.good.n2
  have hfew := hsm.few
  clear hsm hpa e1
  generalize hu : w = u at *
  have HG := Lib.hid HP.out.1.good
  have HPp := Lib.hid HP.out.2
  clear HP
  go_wp2_with (first | (go_at_call 18; refine (points_any _ _ _ _ _ _ _ _ p _ (HPp.out.len.into hS.frozInto) HG.out).mono ?_; rintro e w ⟨Lp, cp, rfl, ho, hx1⟩; replace hS := hS.addRow ho hx1; clear ho) | (refine oL ?_; (first | refine sL1 hS rfl rfl rfl ?_ | refine sL2 hS rfl rfl rfl ?_ | refine sL3 hS rfl rfl ?_ | refine sL4 hS rfl rfl ?_ | refine sL5 hS rfl rfl ?_ | refine sL6 hS rfl rfl ?_ | refine sL7 hS rfl rfl ?_)) | (refine oS ?_; ((first | refine sS1 hS rfl rfl rfl ?_ | refine sS2 hS rfl rfl rfl ?_ | refine sS3 hS rfl rfl rfl ?_ | refine sS4 hS rfl rfl rfl ?_ | refine sS5 hS rfl rfl rfl ?_); clear hS; intro w hS)) | (refine oP ?_; ((first | refine sP1 hS rfl rfl rfl ?_ | refine sP2 hS rfl rfl rfl ?_ | refine sP3 hS rfl rfl rfl ?_); clear hS; first | ((fail_if_success guard_hyp L1); intro L1 cl1 w hL1 hM1 hS) | ((fail_if_success guard_hyp L2); intro L2 cl2 w hL2 hM2 hS) | fail)) | ((first | refine sN1 hS rfl ?_ | (refine oC ?_; first | refine sC0 hS rfl ?_ | refine sC1 hS rfl rfl ?_ | refine sC2 hS rfl rfl ?_ | refine sC3 hS rfl rfl rfl ?_ | refine sC4 hS rfl rfl rfl ?_)); clear hS; first | ((fail_if_success guard_hyp g1); intro g1 w hS) | ((fail_if_success guard_hyp g2); intro g2 w hS) | ((fail_if_success guard_hyp g3); intro g3 w hS) | ((fail_if_success guard_hyp g4); intro g4 w hS) | fail) | fail)
  have hap := allPts_pos HG.out
  have hal := allPts_len HG.out
  have HAP := Lib.hid (fun a (h : a ∈ allPts p) => (mem_allPts HG.out).1 h)
  generalize hpts : allPts p = pts at *
  clear hpts
  obtain ⟨gp, rfl⟩ := hS.rowSome Lp hap
  go_loopw [10, 11] (fun s10 s11 wr => ∃ (i : Nat) (L : Option Addr) (cl : Nat) (l : List (Nat × Int)), i ≤ 6 ∧ s11 = .int .i64 i ∧ s10 = .slice L l.length cl ∧ l.length ≤ 6 ∧ Hid (l.length = i ∧ ∀ a ∈ l, PtOk p a) ∧ St w0 NoM [row (.slice L l.length cl) 37 2 l.length (l.flatMap ptCells), row (.slice (some ⟨gp, 0, none⟩) pts.length cp) 37 2 pts.length (pts.flatMap ptCells), cds gc κ r1, blk g1 [.slice A1 p.len.length c1, .slice A2 p.ck.length c2, .slice A3 p.arcs.length c3] 28, froz T u] wr) (fun _ s11 _ => 6 - (intOf s11).toNat)
  case atStart => exact ⟨0, none, 0, [], by omega, rfl, rfl, by simp, Lib.hid ⟨rfl, by simp⟩, St.addNil hS.re _ _⟩
  case round =>
    obtain ⟨i, L, cl, l, hi, rfl, rfl, hl, HL, hS⟩ := hrel
    by_cases hgo : i < b2.length ∧ i < 6
    · obtain ⟨hib, hi6⟩ := hgo
      obtain ⟨bb, ob, rfl, _, hcb⟩ := bytes_at HB2.out.2 hib
      have hbd := nth_byte HB2.out.1 hib
      have d1 : decide ((i : Int) < (b2.length : Int)) = true := decide_eq_true (by omega)
      have d2 : decide ((i : Int) < 6) = true := decide_eq_true (by omega)
      generalize nth b2 i = z at *
      obtain ⟨zn, rfl⟩ : ∃ zn : Nat, z = zn := ⟨z.toNat, by omega⟩
      have hne : ¬ pts = [] := by intro h; rw [h] at hap; simp at hap
      obtain ⟨j, hjz⟩ : ∃ j : Nat, ((zn : Int) % (pts.length : Int)) = j := ⟨zn % pts.length, by omega⟩
      have hj : j < pts.length := by
        have := Int.emod_lt_of_pos (zn : Int) (show (0 : Int) < pts.length by omega)
        omega
      have hj' : (j : Int) < pts.length := by omega
      have HJ := Lib.hid (And.intro (pt_at hj) (HAP.out _ (List.getElem_mem hj)))
      generalize pts[j] = pt at *
      obtain ⟨q, k⟩ := pt
      have HLL := Lib.hid (show (l ++ [(q, k)]).length = l.length + 1 by simp)
      have HFL := Lib.hid (show (l ++ [(q, k)]).flatMap ptCells = l.flatMap ptCells ++ [.int .i64 (q : Int), .int .i64 k] by simp [ptCells])
      go_wp2_with (first | (refine oL ?_; refine sL8 hS rfl rfl HJ.out.1 rfl ?_) | (refine oL ?_; (first | refine sL1 hS rfl rfl rfl ?_ | refine sL2 hS rfl rfl rfl ?_ | refine sL3 hS rfl rfl ?_ | refine sL4 hS rfl rfl ?_ | refine sL5 hS rfl rfl ?_ | refine sL6 hS rfl rfl ?_ | refine sL7 hS rfl rfl ?_)) | (refine oS ?_; ((first | refine sS1 hS rfl rfl rfl ?_ | refine sS2 hS rfl rfl rfl ?_ | refine sS3 hS rfl rfl rfl ?_ | refine sS4 hS rfl rfl rfl ?_ | refine sS5 hS rfl rfl rfl ?_); clear hS; intro w hS)) | (refine oP ?_; ((first | refine sP1 hS rfl rfl rfl ?_ | refine sP2 hS rfl rfl rfl ?_ | refine sP3 hS rfl rfl rfl ?_); clear hS; first | ((fail_if_success guard_hyp L1); intro L1 cl1 w hL1 hM1 hS) | ((fail_if_success guard_hyp L2); intro L2 cl2 w hL2 hM2 hS) | fail)) | ((first | refine sN1 hS rfl ?_ | (refine oC ?_; first | refine sC0 hS rfl ?_ | refine sC1 hS rfl rfl ?_ | refine sC2 hS rfl rfl ?_ | refine sC3 hS rfl rfl rfl ?_ | refine sC4 hS rfl rfl rfl ?_)); clear hS; first | ((fail_if_success guard_hyp g1); intro g1 w hS) | ((fail_if_success guard_hyp g2); intro g2 w hS) | ((fail_if_success guard_hyp g3); intro g3 w hS) | ((fail_if_success guard_hyp g4); intro g4 w hS) | fail) | fail)
      go_roundw
      case measure => simp [intOf]; omega
      refine ⟨i + 1, L1, cl1, l ++ [(q, k)], by omega, by go_num, by rw [HLL.out], by rw [HLL.out]; have := HL.out.1; omega, Lib.hid ⟨by rw [HLL.out, HL.out.1], fun a ha => ?_⟩, ?_⟩
      · rcases List.mem_append.1 ha with ha | ha
        · exact HL.out.2 a ha
        · rw [List.mem_singleton.1 ha]; exact HJ.out.2
      · rw [HLL.out, HFL.out]; exact hS
    · have HLO := Lib.hid HL.out.2
      clear HL
      go_upto_region 11 with (first | (refine oL ?_; (first | refine sL1 hS rfl rfl rfl ?_ | refine sL2 hS rfl rfl rfl ?_ | refine sL3 hS rfl rfl ?_ | refine sL4 hS rfl rfl ?_ | refine sL5 hS rfl rfl ?_ | refine sL6 hS rfl rfl ?_ | refine sL7 hS rfl rfl ?_)) | (refine oS ?_; ((first | refine sS1 hS rfl rfl rfl ?_ | refine sS2 hS rfl rfl rfl ?_ | refine sS3 hS rfl rfl rfl ?_ | refine sS4 hS rfl rfl rfl ?_ | refine sS5 hS rfl rfl rfl ?_); clear hS; intro w hS)) | (refine oP ?_; ((first | refine sP1 hS rfl rfl rfl ?_ | refine sP2 hS rfl rfl rfl ?_ | refine sP3 hS rfl rfl rfl ?_); clear hS; first | ((fail_if_success guard_hyp L1); intro L1 cl1 w hL1 hM1 hS) | ((fail_if_success guard_hyp L2); intro L2 cl2 w hL2 hM2 hS) | fail)) | ((first | refine sN1 hS rfl ?_ | (refine oC ?_; first | refine sC0 hS rfl ?_ | refine sC1 hS rfl rfl ?_ | refine sC2 hS rfl rfl ?_ | refine sC3 hS rfl rfl rfl ?_ | refine sC4 hS rfl rfl rfl ?_)); clear hS; first | ((fail_if_success guard_hyp g1); intro g1 w hS) | ((fail_if_success guard_hyp g2); intro g2 w hS) | ((fail_if_success guard_hyp g3); intro g3 w hS) | ((fail_if_success guard_hyp g4); intro g4 w hS) | fail) | fail)
      all_goals
        clear HB2
        go_wp2_with (first | (go_at_call 25; refine (past_n rfl rfl rfl rfl (HPp.out.into hS.frozInto) HG.out hS.ptSlice' HLO.out (by omega)).mono ?_; rintro e w ⟨zs, hpz, hzl, L4, c4, rfl, ho, hx1⟩; replace hS := hS.addRow ho hx1; have HZ := Lib.hid hpz; have HZL := Lib.hid hzl; clear hpz hzl ho) | (go_at_call 26; refine (rvalid_n rfl HZL.out (HPp.out.len.into hS.frozInto) hS.ri hn5 (by omega)).mono ?_; rintro e w ⟨rfl, hx1⟩; replace hS := hS.ext hx1; rw [HZ.out.v]) | (go_at_call 27; refine (rconsistent_n rfl rfl (HPp.out.into hS.frozInto) HG.out hS.ri HZ.out.v).mono ?_; rintro e w ⟨rfl, hx1⟩; replace hS := hS.ext hx1; rw [HZ.out.s]) | (refine oL ?_; (first | refine sL1 hS rfl rfl rfl ?_ | refine sL2 hS rfl rfl rfl ?_ | refine sL3 hS rfl rfl ?_ | refine sL4 hS rfl rfl ?_ | refine sL5 hS rfl rfl ?_ | refine sL6 hS rfl rfl ?_ | refine sL7 hS rfl rfl ?_)) | (refine oS ?_; ((first | refine sS1 hS rfl rfl rfl ?_ | refine sS2 hS rfl rfl rfl ?_ | refine sS3 hS rfl rfl rfl ?_ | refine sS4 hS rfl rfl rfl ?_ | refine sS5 hS rfl rfl rfl ?_); clear hS; intro w hS)) | (refine oP ?_; ((first | refine sP1 hS rfl rfl rfl ?_ | refine sP2 hS rfl rfl rfl ?_ | refine sP3 hS rfl rfl rfl ?_); clear hS; first | ((fail_if_success guard_hyp L1); intro L1 cl1 w hL1 hM1 hS) | ((fail_if_success guard_hyp L2); intro L2 cl2 w hL2 hM2 hS) | fail)) | ((first | refine sN1 hS rfl ?_ | (refine oC ?_; first | refine sC0 hS rfl ?_ | refine sC1 hS rfl rfl ?_ | refine sC2 hS rfl rfl ?_ | refine sC3 hS rfl rfl rfl ?_ | refine sC4 hS rfl rfl rfl ?_)); clear hS; first | ((fail_if_success guard_hyp g1); intro g1 w hS) | ((fail_if_success guard_hyp g2); intro g2 w hS) | ((fail_if_success guard_hyp g3); intro g3 w hS) | ((fail_if_success guard_hyp g4); intro g4 w hS) | fail) | fail)
        refine dr_start0 []  hS (by kernel_rfl) rfl ?_; clear hS; intro w hS
        first | refine dL1 hS 0 rfl rfl rfl rfl ?_ | refine dL2 hS 0 rfl rfl rfl rfl ?_ | refine dL3 hS 0 rfl rfl rfl ?_ | refine dL4 hS 0 rfl rfl rfl ?_ | refine dL5 hS 0 rfl rfl rfl ?_ | refine dL6 hS 0 rfl rfl rfl ?_ | refine dL7 hS 0 rfl rfl rfl ?_
        (try simp only [Act.put, nA, nB, nC])
        refine dM hS 1 rfl rfl rfl ?_
        (try simp only [Act.put, nA, nB, nC])
        first | refine dL1 hS 3 rfl rfl rfl rfl ?_ | refine dL2 hS 3 rfl rfl rfl rfl ?_ | refine dL3 hS 3 rfl rfl rfl ?_ | refine dL4 hS 3 rfl rfl rfl ?_ | refine dL5 hS 3 rfl rfl rfl ?_ | refine dL6 hS 3 rfl rfl rfl ?_ | refine dL7 hS 3 rfl rfl rfl ?_
        (try simp only [Act.put, nA, nB, nC])
        refine dr_one 2 (by kernel_rfl) rfl ?_
        (refine st_call rfl (by kernel_rfl) rfl ?_; go_at_call 16; refine (new_st (m := 20) hS (by omega) HB3.out.2 hf3 hf3' HB3.out.1).mono ?_; rintro e w ⟨ga, κa, rfl, hS1⟩; replace hS := hS1; clear HB3 hS1; generalize b3.take 20 = ra at hS)
        (try simp only [Act.put, nA, nB, nC])
        refine dr_end hS ?_
        refine dr_one 4 (by kernel_rfl) rfl ?_
        (refine st_call rfl (by kernel_rfl) rfl ?_; go_at_call 29; refine (cut_st hS rfl (HPp.out.len.into hS.frozInto) (hS.frozNe (κ := κa) (r := ra)) hn5 HG.out.all).mono ?_; rintro e w ⟨X, cx, r2, rfl, hS1⟩; replace hS := hS1; clear hS1; have HV := Lib.hid (cut_valid HG.out ra); generalize cutL ra p.len = xs at *)
        (try simp only [Act.put, nA, nB, nC])
        refine dr_end hS ?_
        refine dr_one 5 (by kernel_rfl) rfl ?_
        (refine st_call rfl (by kernel_rfl) rfl ?_; go_at_call 28; refine (rlower_n rfl rfl rfl (HPp.out.into hS.frozInto) HG.out hS.ri HV.out).mono ?_; rintro e w ⟨ys, L5, k5, hf5, hl5, rfl, ho, hx1⟩; replace hS := hS.addRow ho hx1; have HY := Lib.hid (And.intro (low_le HG.out HV.out hf5).1 hf5.2); have HYL := Lib.hid hl5; clear hf5 hl5 ho)
        (try simp only [Act.put, nA, nB, nC])
        refine dr_end hS ?_
        refine dA hS 6 rfl rfl rfl ?_
        (try simp only [Act.put, nA, nB, nC])
        refine dr_done (by kernel_rfl) ?_
        go_wp2_with (first | (refine oL ?_; (first | refine sL1 hS rfl rfl rfl ?_ | refine sL2 hS rfl rfl rfl ?_ | refine sL3 hS rfl rfl ?_ | refine sL4 hS rfl rfl ?_ | refine sL5 hS rfl rfl ?_ | refine sL6 hS rfl rfl ?_ | refine sL7 hS rfl rfl ?_)) | (refine oS ?_; ((first | refine sS1 hS rfl rfl rfl ?_ | refine sS2 hS rfl rfl rfl ?_ | refine sS3 hS rfl rfl rfl ?_ | refine sS4 hS rfl rfl rfl ?_ | refine sS5 hS rfl rfl rfl ?_); clear hS; intro w hS)) | (refine oP ?_; ((first | refine sP1 hS rfl rfl rfl ?_ | refine sP2 hS rfl rfl rfl ?_ | refine sP3 hS rfl rfl rfl ?_); clear hS; first | ((fail_if_success guard_hyp L1); intro L1 cl1 w hL1 hM1 hS) | ((fail_if_success guard_hyp L2); intro L2 cl2 w hL2 hM2 hS) | fail)) | ((first | refine sN1 hS rfl ?_ | (refine oC ?_; first | refine sC0 hS rfl ?_ | refine sC1 hS rfl rfl ?_ | refine sC2 hS rfl rfl ?_ | refine sC3 hS rfl rfl rfl ?_ | refine sC4 hS rfl rfl rfl ?_)); clear hS; first | ((fail_if_success guard_hyp g1); intro g1 w hS) | ((fail_if_success guard_hyp g2); intro g2 w hS) | ((fail_if_success guard_hyp g3); intro g3 w hS) | ((fail_if_success guard_hyp g4); intro g4 w hS) | fail) | fail)
        obtain ⟨gz, rfl⟩ := hS.rowSome L4 (by omega)
        obtain ⟨gy, rfl⟩ := hS.rowSome L5 (by omega)
        go_loopw [69] (fun s69 wr => ∃ (j : Nat), j ≤ l.length ∧ s69 = .int .i64 j ∧ Hid (∀ a ∈ l.take j, a.2 ≤ nth ys a.1) ∧ St w0 NoM [row (.slice L l.length cl) 37 2 l.length (l.flatMap ptCells), row (.slice (some ⟨gz, 0, none⟩) p.len.length c4) 3 1 p.len.length (ints zs), row (.slice (some ⟨gy, 0, none⟩) p.len.length k5) 3 1 p.len.length (ints ys)] wr) (fun s69 _ => l.length - (intOf s69).toNat)
        case atStart => exact ⟨0, by omega, rfl, Lib.hid (by simp), hS.re⟩
        case round =>
          obtain ⟨j, hj, rfl, HJ, hS⟩ := hrel
          by_cases hjl : j < l.length
          · obtain ⟨gl, rfl⟩ := hS.rowSome L (by omega)
            have HPT := Lib.hid (And.intro (pt_at hjl) (And.intro (HLO.out _ (List.getElem_mem hjl)) (HZ.out.h _ (List.getElem_mem hjl))))
            have HT := Lib.hid (List.take_succ_eq_append_getElem hjl)
            generalize l[j] = pt at *
            obtain ⟨q, k⟩ := pt
            have hq : q < p.len.length := HPT.out.2.1.1
            have hq' : (q : Int) < p.len.length := by omega
            have hcz : (ints zs)[q]? = some (.int .i64 (nth zs q)) := by rw [ints_get (by rw [HZL.out]; exact hq), nth_eq (by rw [HZL.out]; exact hq)]
            have hcy : (ints ys)[q]? = some (.int .i64 (nth ys q)) := by rw [ints_get (by rw [HYL.out]; exact hq), nth_eq (by rw [HYL.out]; exact hq)]
            have hzk : k ≤ nth zs q := HPT.out.2.2
            generalize nth zs q = zq at *
            generalize hyq : nth ys q = yq at *
            have d1 : decide (zq < k) = false := decide_eq_false (by omega)
            go_wp2_with (first | (refine oL ?_; refine sL8 hS rfl rfl HPT.out.1 rfl ?_) | (refine oL ?_; (first | refine sL1 hS rfl rfl rfl ?_ | refine sL2 hS rfl rfl rfl ?_ | refine sL3 hS rfl rfl ?_ | refine sL4 hS rfl rfl ?_ | refine sL5 hS rfl rfl ?_ | refine sL6 hS rfl rfl ?_ | refine sL7 hS rfl rfl ?_)) | (refine oS ?_; ((first | refine sS1 hS rfl rfl rfl ?_ | refine sS2 hS rfl rfl rfl ?_ | refine sS3 hS rfl rfl rfl ?_ | refine sS4 hS rfl rfl rfl ?_ | refine sS5 hS rfl rfl rfl ?_); clear hS; intro w hS)) | (refine oP ?_; ((first | refine sP1 hS rfl rfl rfl ?_ | refine sP2 hS rfl rfl rfl ?_ | refine sP3 hS rfl rfl rfl ?_); clear hS; first | ((fail_if_success guard_hyp L1); intro L1 cl1 w hL1 hM1 hS) | ((fail_if_success guard_hyp L2); intro L2 cl2 w hL2 hM2 hS) | fail)) | ((first | refine sN1 hS rfl ?_ | (refine oC ?_; first | refine sC0 hS rfl ?_ | refine sC1 hS rfl rfl ?_ | refine sC2 hS rfl rfl ?_ | refine sC3 hS rfl rfl rfl ?_ | refine sC4 hS rfl rfl rfl ?_)); clear hS; first | ((fail_if_success guard_hyp g1); intro g1 w hS) | ((fail_if_success guard_hyp g2); intro g2 w hS) | ((fail_if_success guard_hyp g3); intro g3 w hS) | ((fail_if_success guard_hyp g4); intro g4 w hS) | fail) | fail)
            refine dr_start0 []  hS (by kernel_rfl) rfl ?_; clear hS; intro w hS
            refine dM hS 0 rfl rfl rfl ?_
            (try simp only [Act.put, nA, nB, nC])
            refine dP hS 1 rfl rfl ?_
            (try simp only [Act.put, nA, nB, nC])
            first | refine dL1 hS 2 rfl rfl rfl rfl ?_ | refine dL2 hS 2 rfl rfl rfl rfl ?_ | refine dL3 hS 2 rfl rfl rfl ?_ | refine dL4 hS 2 rfl rfl rfl ?_ | refine dL5 hS 2 rfl rfl rfl ?_ | refine dL6 hS 2 rfl rfl rfl ?_ | refine dL7 hS 2 rfl rfl rfl ?_
            (try simp only [Act.put, nA, nB, nC])
            refine dP hS 3 rfl rfl ?_
            (try simp only [Act.put, nA, nB, nC])
            first | refine dL1 hS 4 rfl rfl rfl rfl ?_ | refine dL2 hS 4 rfl rfl rfl rfl ?_ | refine dL3 hS 4 rfl rfl rfl ?_ | refine dL4 hS 4 rfl rfl rfl ?_ | refine dL5 hS 4 rfl rfl rfl ?_ | refine dL6 hS 4 rfl rfl rfl ?_ | refine dL7 hS 4 rfl rfl rfl ?_
            (try simp only [Act.put, nA, nB, nC])
            refine dP hS 5 rfl rfl ?_
            (try simp only [Act.put, nA, nB, nC])
            first | refine dL1 hS 6 rfl rfl rfl rfl ?_ | refine dL2 hS 6 rfl rfl rfl rfl ?_ | refine dL3 hS 6 rfl rfl rfl ?_ | refine dL4 hS 6 rfl rfl rfl ?_ | refine dL5 hS 6 rfl rfl rfl ?_ | refine dL6 hS 6 rfl rfl rfl ?_ | refine dL7 hS 6 rfl rfl rfl ?_
            (try simp only [Act.put, nA, nB, nC])
            refine dP hS 7 rfl rfl ?_
            (try simp only [Act.put, nA, nB, nC])
            refine dr_done (by kernel_rfl) ?_
            by_cases hlt : yq < k
            · have d2 : decide (yq < k) = true := decide_eq_true hlt
              go_wp2_with (first | (refine oL ?_; (first | refine sL1 hS rfl rfl rfl ?_ | refine sL2 hS rfl rfl rfl ?_ | refine sL3 hS rfl rfl ?_ | refine sL4 hS rfl rfl ?_ | refine sL5 hS rfl rfl ?_ | refine sL6 hS rfl rfl ?_ | refine sL7 hS rfl rfl ?_)) | (refine oS ?_; ((first | refine sS1 hS rfl rfl rfl ?_ | refine sS2 hS rfl rfl rfl ?_ | refine sS3 hS rfl rfl rfl ?_ | refine sS4 hS rfl rfl rfl ?_ | refine sS5 hS rfl rfl rfl ?_); clear hS; intro w hS)) | (refine oP ?_; ((first | refine sP1 hS rfl rfl rfl ?_ | refine sP2 hS rfl rfl rfl ?_ | refine sP3 hS rfl rfl rfl ?_); clear hS; first | ((fail_if_success guard_hyp L1); intro L1 cl1 w hL1 hM1 hS) | ((fail_if_success guard_hyp L2); intro L2 cl2 w hL2 hM2 hS) | fail)) | ((first | refine sN1 hS rfl ?_ | (refine oC ?_; first | refine sC0 hS rfl ?_ | refine sC1 hS rfl rfl ?_ | refine sC2 hS rfl rfl ?_ | refine sC3 hS rfl rfl rfl ?_ | refine sC4 hS rfl rfl rfl ?_)); clear hS; first | ((fail_if_success guard_hyp g1); intro g1 w hS) | ((fail_if_success guard_hyp g2); intro g2 w hS) | ((fail_if_success guard_hyp g3); intro g3 w hS) | ((fail_if_success guard_hyp g4); intro g4 w hS) | fail) | fail)
              refine dr_start0 []  hS (by kernel_rfl) rfl ?_; clear hS; intro w hS
              refine dM hS 0 rfl rfl rfl ?_
              (try simp only [Act.put, nA, nB, nC])
              refine dP hS 1 rfl rfl ?_
              (try simp only [Act.put, nA, nB, nC])
              first | refine dL1 hS 2 rfl rfl rfl rfl ?_ | refine dL2 hS 2 rfl rfl rfl rfl ?_ | refine dL3 hS 2 rfl rfl rfl ?_ | refine dL4 hS 2 rfl rfl rfl ?_ | refine dL5 hS 2 rfl rfl rfl ?_ | refine dL6 hS 2 rfl rfl rfl ?_ | refine dL7 hS 2 rfl rfl rfl ?_
              (try simp only [Act.put, nA, nB, nC])
              refine dP hS 3 rfl rfl ?_
              (try simp only [Act.put, nA, nB, nC])
              first | refine dL1 hS 4 rfl rfl rfl rfl ?_ | refine dL2 hS 4 rfl rfl rfl rfl ?_ | refine dL3 hS 4 rfl rfl rfl ?_ | refine dL4 hS 4 rfl rfl rfl ?_ | refine dL5 hS 4 rfl rfl rfl ?_ | refine dL6 hS 4 rfl rfl rfl ?_ | refine dL7 hS 4 rfl rfl rfl ?_
              (try simp only [Act.put, nA, nB, nC])
              refine dP hS 5 rfl rfl ?_
              (try simp only [Act.put, nA, nB, nC])
              first | refine dL1 hS 6 rfl rfl rfl rfl ?_ | refine dL2 hS 6 rfl rfl rfl rfl ?_ | refine dL3 hS 6 rfl rfl rfl ?_ | refine dL4 hS 6 rfl rfl rfl ?_ | refine dL5 hS 6 rfl rfl rfl ?_ | refine dL6 hS 6 rfl rfl rfl ?_ | refine dL7 hS 6 rfl rfl rfl ?_
              (try simp only [Act.put, nA, nB, nC])
              refine dP hS 7 rfl rfl ?_
              (try simp only [Act.put, nA, nB, nC])
              refine dr_done (by kernel_rfl) ?_
              go_wp2_with (first | (refine oL ?_; (first | refine sL1 hS rfl rfl rfl ?_ | refine sL2 hS rfl rfl rfl ?_ | refine sL3 hS rfl rfl ?_ | refine sL4 hS rfl rfl ?_ | refine sL5 hS rfl rfl ?_ | refine sL6 hS rfl rfl ?_ | refine sL7 hS rfl rfl ?_)) | (refine oS ?_; ((first | refine sS1 hS rfl rfl rfl ?_ | refine sS2 hS rfl rfl rfl ?_ | refine sS3 hS rfl rfl rfl ?_ | refine sS4 hS rfl rfl rfl ?_ | refine sS5 hS rfl rfl rfl ?_); clear hS; intro w hS)) | (refine oP ?_; ((first | refine sP1 hS rfl rfl rfl ?_ | refine sP2 hS rfl rfl rfl ?_ | refine sP3 hS rfl rfl rfl ?_); clear hS; first | ((fail_if_success guard_hyp L1); intro L1 cl1 w hL1 hM1 hS) | ((fail_if_success guard_hyp L2); intro L2 cl2 w hL2 hM2 hS) | fail)) | ((first | refine sN1 hS rfl ?_ | (refine oC ?_; first | refine sC0 hS rfl ?_ | refine sC1 hS rfl rfl ?_ | refine sC2 hS rfl rfl ?_ | refine sC3 hS rfl rfl rfl ?_ | refine sC4 hS rfl rfl rfl ?_)); clear hS; first | ((fail_if_success guard_hyp g1); intro g1 w hS) | ((fail_if_success guard_hyp g2); intro g2 w hS) | ((fail_if_success guard_hyp g3); intro g3 w hS) | ((fail_if_success guard_hyp g4); intro g4 w hS) | fail) | fail)
              go_ret
              exact ⟨rfl, hS.toExt⟩
            · have d2 : decide (yq < k) = false := decide_eq_false hlt
              go_wp2_with (first | (refine oL ?_; (first | refine sL1 hS rfl rfl rfl ?_ | refine sL2 hS rfl rfl rfl ?_ | refine sL3 hS rfl rfl ?_ | refine sL4 hS rfl rfl ?_ | refine sL5 hS rfl rfl ?_ | refine sL6 hS rfl rfl ?_ | refine sL7 hS rfl rfl ?_)) | (refine oS ?_; ((first | refine sS1 hS rfl rfl rfl ?_ | refine sS2 hS rfl rfl rfl ?_ | refine sS3 hS rfl rfl rfl ?_ | refine sS4 hS rfl rfl rfl ?_ | refine sS5 hS rfl rfl rfl ?_); clear hS; intro w hS)) | (refine oP ?_; ((first | refine sP1 hS rfl rfl rfl ?_ | refine sP2 hS rfl rfl rfl ?_ | refine sP3 hS rfl rfl rfl ?_); clear hS; first | ((fail_if_success guard_hyp L1); intro L1 cl1 w hL1 hM1 hS) | ((fail_if_success guard_hyp L2); intro L2 cl2 w hL2 hM2 hS) | fail)) | ((first | refine sN1 hS rfl ?_ | (refine oC ?_; first | refine sC0 hS rfl ?_ | refine sC1 hS rfl rfl ?_ | refine sC2 hS rfl rfl ?_ | refine sC3 hS rfl rfl rfl ?_ | refine sC4 hS rfl rfl rfl ?_)); clear hS; first | ((fail_if_success guard_hyp g1); intro g1 w hS) | ((fail_if_success guard_hyp g2); intro g2 w hS) | ((fail_if_success guard_hyp g3); intro g3 w hS) | ((fail_if_success guard_hyp g4); intro g4 w hS) | fail) | fail)
              refine dr_start0 []  hS (by kernel_rfl) rfl ?_; clear hS; intro w hS
              refine dM hS 0 rfl rfl rfl ?_
              (try simp only [Act.put, nA, nB, nC])
              refine dP hS 1 rfl rfl ?_
              (try simp only [Act.put, nA, nB, nC])
              first | refine dL1 hS 2 rfl rfl rfl rfl ?_ | refine dL2 hS 2 rfl rfl rfl rfl ?_ | refine dL3 hS 2 rfl rfl rfl ?_ | refine dL4 hS 2 rfl rfl rfl ?_ | refine dL5 hS 2 rfl rfl rfl ?_ | refine dL6 hS 2 rfl rfl rfl ?_ | refine dL7 hS 2 rfl rfl rfl ?_
              (try simp only [Act.put, nA, nB, nC])
              refine dP hS 3 rfl rfl ?_
              (try simp only [Act.put, nA, nB, nC])
              first | refine dL1 hS 4 rfl rfl rfl rfl ?_ | refine dL2 hS 4 rfl rfl rfl rfl ?_ | refine dL3 hS 4 rfl rfl rfl ?_ | refine dL4 hS 4 rfl rfl rfl ?_ | refine dL5 hS 4 rfl rfl rfl ?_ | refine dL6 hS 4 rfl rfl rfl ?_ | refine dL7 hS 4 rfl rfl rfl ?_
              (try simp only [Act.put, nA, nB, nC])
              refine dP hS 5 rfl rfl ?_
              (try simp only [Act.put, nA, nB, nC])
              first | refine dL1 hS 6 rfl rfl rfl rfl ?_ | refine dL2 hS 6 rfl rfl rfl rfl ?_ | refine dL3 hS 6 rfl rfl rfl ?_ | refine dL4 hS 6 rfl rfl rfl ?_ | refine dL5 hS 6 rfl rfl rfl ?_ | refine dL6 hS 6 rfl rfl rfl ?_ | refine dL7 hS 6 rfl rfl rfl ?_
              (try simp only [Act.put, nA, nB, nC])
              refine dP hS 7 rfl rfl ?_
              (try simp only [Act.put, nA, nB, nC])
              refine dr_done (by kernel_rfl) ?_
              go_wp2_with (first | (refine oL ?_; (first | refine sL1 hS rfl rfl rfl ?_ | refine sL2 hS rfl rfl rfl ?_ | refine sL3 hS rfl rfl ?_ | refine sL4 hS rfl rfl ?_ | refine sL5 hS rfl rfl ?_ | refine sL6 hS rfl rfl ?_ | refine sL7 hS rfl rfl ?_)) | (refine oS ?_; ((first | refine sS1 hS rfl rfl rfl ?_ | refine sS2 hS rfl rfl rfl ?_ | refine sS3 hS rfl rfl rfl ?_ | refine sS4 hS rfl rfl rfl ?_ | refine sS5 hS rfl rfl rfl ?_); clear hS; intro w hS)) | (refine oP ?_; ((first | refine sP1 hS rfl rfl rfl ?_ | refine sP2 hS rfl rfl rfl ?_ | refine sP3 hS rfl rfl rfl ?_); clear hS; first | ((fail_if_success guard_hyp L1); intro L1 cl1 w hL1 hM1 hS) | ((fail_if_success guard_hyp L2); intro L2 cl2 w hL2 hM2 hS) | fail)) | ((first | refine sN1 hS rfl ?_ | (refine oC ?_; first | refine sC0 hS rfl ?_ | refine sC1 hS rfl rfl ?_ | refine sC2 hS rfl rfl ?_ | refine sC3 hS rfl rfl rfl ?_ | refine sC4 hS rfl rfl rfl ?_)); clear hS; first | ((fail_if_success guard_hyp g1); intro g1 w hS) | ((fail_if_success guard_hyp g2); intro g2 w hS) | ((fail_if_success guard_hyp g3); intro g3 w hS) | ((fail_if_success guard_hyp g4); intro g4 w hS) | fail) | fail)
              go_roundw
              case measure => simp [intOf]; omega
              refine ⟨j + 1, by omega, by go_num, Lib.hid (fun a ha => ?_), hS.re⟩
              rw [HT.out] at ha
              rcases List.mem_append.1 ha with ha | ha
              · exact HJ.out a ha
              · rw [List.mem_singleton.1 ha]; simp only; omega
          · have hje : l.take j = l := List.take_of_length_le (by omega)
            have HLE := Lib.hid (show mostB zs ys = true from most_iff.2 ⟨by rw [HZL.out, HYL.out], by rw [HZL.out]; exact HZ.out.l ys HY.out.1 HY.out.2 (by rw [← hje]; exact HJ.out)⟩)
            clear hje
            go_wp2_with (first | (go_at_call 30; refine (rmost_n HZL.out HYL.out hS.ri hS.ri (by omega) (by omega)).mono ?_; rintro e w ⟨rfl, hx1⟩; replace hS := hS.ext hx1; rw [HLE.out]) | (refine oL ?_; (first | refine sL1 hS rfl rfl rfl ?_ | refine sL2 hS rfl rfl rfl ?_ | refine sL3 hS rfl rfl ?_ | refine sL4 hS rfl rfl ?_ | refine sL5 hS rfl rfl ?_ | refine sL6 hS rfl rfl ?_ | refine sL7 hS rfl rfl ?_)) | (refine oS ?_; ((first | refine sS1 hS rfl rfl rfl ?_ | refine sS2 hS rfl rfl rfl ?_ | refine sS3 hS rfl rfl rfl ?_ | refine sS4 hS rfl rfl rfl ?_ | refine sS5 hS rfl rfl rfl ?_); clear hS; intro w hS)) | (refine oP ?_; ((first | refine sP1 hS rfl rfl rfl ?_ | refine sP2 hS rfl rfl rfl ?_ | refine sP3 hS rfl rfl rfl ?_); clear hS; first | ((fail_if_success guard_hyp L1); intro L1 cl1 w hL1 hM1 hS) | ((fail_if_success guard_hyp L2); intro L2 cl2 w hL2 hM2 hS) | fail)) | ((first | refine sN1 hS rfl ?_ | (refine oC ?_; first | refine sC0 hS rfl ?_ | refine sC1 hS rfl rfl ?_ | refine sC2 hS rfl rfl ?_ | refine sC3 hS rfl rfl rfl ?_ | refine sC4 hS rfl rfl rfl ?_)); clear hS; first | ((fail_if_success guard_hyp g1); intro g1 w hS) | ((fail_if_success guard_hyp g2); intro g2 w hS) | ((fail_if_success guard_hyp g3); intro g3 w hS) | ((fail_if_success guard_hyp g4); intro g4 w hS) | fail) | fail)
            go_ret
            exact ⟨rfl, hS.toExt⟩
open Go.ChangeShapes Go.WideShapes Go.ChangeAt
set_option maxRecDepth 100000 in
theorem lifted_CausalCuts (os : Os) (started : os.Started) (H : Type) (enc : TypeId × Value → H) :
    ReturnsInHanded {} Try.checked os 6 .any (Rows.causalCutsSpec.pre6 enc Try.prog Try.f6 Rows.causalCutsRow.domain false) (Rows.causalCutsSpec.post enc Try.prog Try.f6 false true false false) := by
  refine law_lifted (C := Try.checked) (s := Rows.causalCutsSpec) (tb := 4) (by kernel_rfl) started (by kernel_rfl) Try.func6
      (ChangeSpec.witness6 (enc := enc) (C := Try.checked) false ⟨#[], #[.slice none 0 0, .slice none 0 0, .slice none 0 0], []⟩ 8 (by kernel_rfl) (by kernel_rfl) (by kernel_rfl) (by kernel_rfl))
      (by kernel_rfl) rfl rfl Try.underlying4 (read_of (by kernel_rfl)) ?_ ?_
  · intro ds hl
    match ds, hl with
    | [d0, d1, d2], _ => exact ⟨rfl, rfl, rfl⟩
  · intro W base args ds p hval0 hA0
    have hval : ∀ (j : Nat) t v, Try.f6.params[j]? = some t → args[j]? = some v → Value.okWide Try.prog W .any base t v := hval0
    have hA : DataW.TrodAll enc Try.prog W 0 (fun _ => true) true Try.f6.params.toList args.toList ds p := hA0
    clear hA0 hval0
    rw [Try.params6] at hA hval
    obtain ⟨v0, v1, v2, d0, d1, d2, p0, p1, p2, rfl, rfl, rfl, h0, h1, h2⟩ := trodAll_three hA
    obtain ⟨A0, c0, xs0, rfl, hri0, hc0, hd0, hwf0⟩ := open_nums Try.underlying22 Try.underlying5 (by kernel_rfl) (hval 0 _ v0 rfl rfl) h0
    obtain ⟨A1, c1, xs1, rfl, hri1, hc1, hd1, hwf1⟩ := open_nums Try.underlying22 Try.underlying5 (by kernel_rfl) (hval 1 _ v1 rfl rfl) h1
    obtain ⟨A2, c2, xs2, rfl, hri2, hc2, hd2, hwf2⟩ := open_nums Try.underlying22 Try.underlying5 (by kernel_rfl) (hval 2 _ v2 rfl rfl) h2
    exact causalCuts_any A0 c0 xs0 A1 c1 xs1 A2 c2 xs2 W hri0 hc0 hd0 (fun b hb => u8_bd (hwf0 b hb)) hri1 hc1 hd1 (fun b hb => u8_bd (hwf1 b hb)) hri2 hc2 hd2 (fun b hb => u8_bd (hwf2 b hb))
/-- CausalCuts returns true for every input, and leaves its arguments as they were. -/
theorem proved_CausalCuts : Rows.CausalCutsSaid :=
  OpenClaim.holds_of_wide 6 Try.f6 rfl rfl rfl rfl rfl rfl rfl ⟨rfl, rfl, rfl, rfl, rfl⟩ rfl rfl rfl rfl rfl (by kernel_rfl) Try.func6 (by kernel_rfl)
    (of_decide_eq_true (by kernel_rfl)) (by unfold Func.isWrapper; rw [if_neg (by decide +kernel)]; exact ⟨rfl, rfl⟩)
    (fun os started H enc _ => lifted_CausalCuts os started H enc)
end Go.Proofs.Ytkflmichekpfbaa
