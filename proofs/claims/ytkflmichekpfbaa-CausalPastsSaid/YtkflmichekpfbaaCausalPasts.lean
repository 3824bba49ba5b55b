/- CausalPasts returns true for every input. No condition. -/
import Derived.Test.YtkflmichekpfbaaPast17
import Derived.Test.YtkflmichekpfbaaOrdE
import Derived.Test.YtkflmichekpfbaaOrdAt
namespace Go.Proofs.Ytkflmichekpfbaa
open Go.RowKit
set_option linter.unusedVariables false
set_option linter.unusedSimpArgs false

theorem St.ptSlice9 {w0 w : World} {M : Nat → Prop} {cs : List (Chunk w0 M)} {f : Chunk w0 M → List (Chunk w0 M)} {L : Option Addr} {k c n : Nat} {e : TypeId} {l : List (Nat × Int)} (h : St w0 M cs w) [hp : PickL L cs k c e 2 n (l.flatMap ptCells) f] : RPt All w L l := ⟨_, h.rv, reps_pts w l⟩
theorem allPts_pos2 {p : Pat} (hg : Good p) : 0 < (allPts p).length := List.length_pos_of_mem ((mem_allPts hg).2 (show PtOk p (0, 0) from ⟨by have := hg.n2; omega, Int.le_refl _, hg.lo 0 (by have := hg.n2; omega)⟩))
theorem bytes_at2 {S : Nat → Prop} {w : World} {A : Option Addr} {bs : List Int} (h : RV S w A (bytes bs)) {k : Nat} (hk : k < bs.length) : ∃ b o, A = some ⟨b, o, none⟩ ∧ S b ∧ w.cell? ⟨b, o + k, none⟩ = some (.int .u8 (nth bs k)) := by
  have h2 := h k (.int .u8 (nth bs k)) (by simp [bytes, hk, nth_eq hk])
  exact h2
theorem nth_byte2 {bs : List Int} (h : ∀ b ∈ bs, 0 ≤ b ∧ b ≤ 255) {k : Nat} (hk : k < bs.length) : 0 ≤ nth bs k ∧ nth bs k ≤ 255 := by
  rw [nth_eq hk]; exact h _ (List.getElem_mem hk)
theorem order_m {S : Nat → Prop} {A1 A2 A3 : Option Addr} {c1 c2 c3 n1 n2 n3 : Nat} {p : Pat} {w : World} (e1 : p.len.length = n1) (e2 : p.ck.length = n2) (e3 : p.arcs.length = n3) (hp : PatAt S w ⟨A1, c1, A2, c2, A3, c3⟩ p) (hg : Good p) :
    Calls Try.prog 35 #[.agg #[.slice A1 n1 c1, .slice A2 n2 c2, .slice A3 n3 c3]] w (OrdRes p w) := by
  subst e1 e2 e3; exact order_any ⟨A1, c1, A2, c2, A3, c3⟩ p w hp hg
theorem rorder_m {S : Nat → Prop} {A1 A2 A3 : Option Addr} {c1 c2 c3 n1 n2 n3 : Nat} {p : Pat} {w : World} (e1 : p.len.length = n1) (e2 : p.ck.length = n2) (e3 : p.arcs.length = n3) (hp : PatAt S w ⟨A1, c1, A2, c2, A3, c3⟩ p) (hg : Good p) :
    Calls Try.prog 44 #[.agg #[.slice A1 n1 c1, .slice A2 n2 c2, .slice A3 n3 c3]] w (OrdRes p w) := by
  subst e1 e2 e3; exact rorder_any ⟨A1, c1, A2, c2, A3, c3⟩ p w hp hg
theorem ord_same {p : Pat} {n m : Nat} {l l' : List (Nat × Int)} (h : ordSt p n = (l, p.len)) (h' : ordSt p m = (l', p.len)) (k : nextQ p p.len = none) : l' = l := by
  have := ordSt_end (p := p) (n := n) (m := m) (by rw [h]; exact k) (by rw [h']; exact k)
  rw [h, h'] at this
  injection this with h1
  exact h1.symm
set_option maxRecDepth 100000 in
set_option maxHeartbeats 6400000 in
theorem causalPasts_any (C : Option Addr) (f : Nat) (bs : List Int) (C2 : Option Addr) (f2 : Nat) (b2 : List Int) (w0 : World) (hbs : RV (fun b => b < w0.heap.size) w0 C (bytes bs)) (hf : bs.length ≤ f) (hf' : f ≤ 9223372036854775807) (hby : ∀ b ∈ bs, 0 ≤ b ∧ b ≤ 255) (hb2 : RV (fun b => b < w0.heap.size) w0 C2 (bytes b2)) (hf2 : b2.length ≤ f2) (hf2' : f2 ≤ 9223372036854775807) (hy2 : ∀ b ∈ b2, 0 ≤ b ∧ b ≤ 255) :
    Calls Try.prog 10 #[.slice C bs.length f, .slice C2 b2.length f2] w0 fun e w' => e = .returned (.bool true) ∧ Ext w0 w' := by
  have hS := St.start w0 NoM
  have HB2 := Lib.hid (And.intro hy2 hb2)
  clear hy2 hb2
  have HB := Lib.hid (And.intro hby (RV.sub (S' := Froz w0 NoM) hbs (fun k hk => ⟨hk, id⟩)))
  clear hby hbs
  go_enter Try.func10, Try.ntmps10
  go_wp2_with (first | (go_at_call 15; refine (awake17_any _).mono ?_; rintro e w ⟨rfl, hx1⟩; replace hS := hS.ext hx1) | (refine oL ?_; (first | refine sL1 hS rfl rfl rfl ?_ | refine sL2 hS rfl rfl rfl ?_ | refine sL3 hS rfl rfl ?_ | refine sL4 hS rfl rfl ?_ | refine sL5 hS rfl rfl ?_ | refine sL6 hS rfl rfl ?_ | refine sL7 hS rfl rfl ?_)) | (refine oS ?_; ((first | refine sS1 hS rfl rfl rfl ?_ | refine sS2 hS rfl rfl rfl ?_ | refine sS3 hS rfl rfl rfl ?_ | refine sS4 hS rfl rfl rfl ?_ | refine sS5 hS rfl rfl rfl ?_); clear hS; intro w hS)) | (refine oP ?_; ((first | refine sP1 hS rfl rfl rfl ?_ | refine sP2 hS rfl rfl rfl ?_ | refine sP3 hS rfl rfl rfl ?_); clear hS; first | ((fail_if_success guard_hyp L1); intro L1 cl1 w hL1 hM1 hS) | ((fail_if_success guard_hyp L2); intro L2 cl2 w hL2 hM2 hS) | fail)) | ((first | refine sN1 hS rfl ?_ | (refine oC ?_; first | refine sC0 hS rfl ?_ | refine sC1 hS rfl rfl ?_ | refine sC2 hS rfl rfl ?_ | refine sC3 hS rfl rfl rfl ?_ | refine sC4 hS rfl rfl rfl ?_)); clear hS; first | ((fail_if_success guard_hyp g1); intro g1 w hS) | ((fail_if_success guard_hyp g2); intro g2 w hS) | ((fail_if_success guard_hyp g3); intro g3 w hS) | fail) | fail)
  refine (new_st (m := 240) hS (by omega) HB.out.2 hf hf' HB.out.1).mono ?_
  rintro e w ⟨gc, κ, rfl, hS⟩
  clear HB
  generalize bs.take 240 = r at *
  go_wp2_with (first | (refine oL ?_; (first | refine sL1 hS rfl rfl rfl ?_ | refine sL2 hS rfl rfl rfl ?_ | refine sL3 hS rfl rfl ?_ | refine sL4 hS rfl rfl ?_ | refine sL5 hS rfl rfl ?_ | refine sL6 hS rfl rfl ?_ | refine sL7 hS rfl rfl ?_)) | (refine oS ?_; ((first | refine sS1 hS rfl rfl rfl ?_ | refine sS2 hS rfl rfl rfl ?_ | refine sS3 hS rfl rfl rfl ?_ | refine sS4 hS rfl rfl rfl ?_ | refine sS5 hS rfl rfl rfl ?_); clear hS; intro w hS)) | (refine oP ?_; ((first | refine sP1 hS rfl rfl rfl ?_ | refine sP2 hS rfl rfl rfl ?_ | refine sP3 hS rfl rfl rfl ?_); clear hS; first | ((fail_if_success guard_hyp L1); intro L1 cl1 w hL1 hM1 hS) | ((fail_if_success guard_hyp L2); intro L2 cl2 w hL2 hM2 hS) | fail)) | ((first | refine sN1 hS rfl ?_ | (refine oC ?_; first | refine sC0 hS rfl ?_ | refine sC1 hS rfl rfl ?_ | refine sC2 hS rfl rfl ?_ | refine sC3 hS rfl rfl rfl ?_ | refine sC4 hS rfl rfl rfl ?_)); clear hS; first | ((fail_if_success guard_hyp g1); intro g1 w hS) | ((fail_if_success guard_hyp g2); intro g2 w hS) | ((fail_if_success guard_hyp g3); intro g3 w hS) | fail) | fail)
  refine (pattern_st (m := 20) hS rfl (by omega)).mono ?_
  rintro e w ⟨v, p, r1, T, rfl, hsm, hpa, hS⟩
  have HP := Lib.hid (And.intro hsm hpa)
  have e1 := hsm.good.ckl
  have hn5 := hsm.good.n5
  obtain ⟨A1, c1, A2, c2, A3, c3⟩ := v
  simp only [PV.val]
  have HE := Lib.hid e1
  have hn2 := hsm.good.n2
  have hfew := hsm.few
  clear hsm hpa e1
  generalize hu : w = u at *
  have HG := Lib.hid HP.out.1.good
  have HPp := Lib.hid HP.out.2
  clear HP
  go_wp2_with (first | (go_at_call 18; refine (points_any _ _ _ _ _ _ _ _ p _ (HPp.out.len.into hS.frozInto) HG.out).mono ?_; rintro e w ⟨Lp, cp, rfl, ho, hx1⟩; replace hS := hS.addRow ho hx1; clear ho) | (refine oL ?_; (first | refine sL1 hS rfl rfl rfl ?_ | refine sL2 hS rfl rfl rfl ?_ | refine sL3 hS rfl rfl ?_ | refine sL4 hS rfl rfl ?_ | refine sL5 hS rfl rfl ?_ | refine sL6 hS rfl rfl ?_ | refine sL7 hS rfl rfl ?_)) | (refine oS ?_; ((first | refine sS1 hS rfl rfl rfl ?_ | refine sS2 hS rfl rfl rfl ?_ | refine sS3 hS rfl rfl rfl ?_ | refine sS4 hS rfl rfl rfl ?_ | refine sS5 hS rfl rfl rfl ?_); clear hS; intro w hS)) | (refine oP ?_; ((first | refine sP1 hS rfl rfl rfl ?_ | refine sP2 hS rfl rfl rfl ?_ | refine sP3 hS rfl rfl rfl ?_); clear hS; first | ((fail_if_success guard_hyp L1); intro L1 cl1 w hL1 hM1 hS) | ((fail_if_success guard_hyp L2); intro L2 cl2 w hL2 hM2 hS) | fail)) | ((first | refine sN1 hS rfl ?_ | (refine oC ?_; first | refine sC0 hS rfl ?_ | refine sC1 hS rfl rfl ?_ | refine sC2 hS rfl rfl ?_ | refine sC3 hS rfl rfl rfl ?_ | refine sC4 hS rfl rfl rfl ?_)); clear hS; first | ((fail_if_success guard_hyp g1); intro g1 w hS) | ((fail_if_success guard_hyp g2); intro g2 w hS) | ((fail_if_success guard_hyp g3); intro g3 w hS) | fail) | fail)
  have hap := allPts_pos2 HG.out
  have hal := allPts_len HG.out
  have HAP := Lib.hid (fun a (h : a ∈ allPts p) => (mem_allPts HG.out).1 h)
  generalize hpts : allPts p = pts at *
  clear hpts
  obtain ⟨gp, rfl⟩ := hS.rowSome Lp hap
  go_loopw [7, 8] (fun s10 s11 wr => ∃ (i : Nat) (L : Option Addr) (cl : Nat) (l : List (Nat × Int)), i ≤ 6 ∧ s11 = .int .i64 i ∧ s10 = .slice L l.length cl ∧ l.length ≤ 6 ∧ Hid (l.length = i ∧ ∀ a ∈ l, PtOk p a) ∧ St w0 NoM [row (.slice L l.length cl) 37 2 l.length (l.flatMap ptCells), row (.slice (some ⟨gp, 0, none⟩) pts.length cp) 37 2 pts.length (pts.flatMap ptCells), blk g1 [.slice A1 p.len.length c1, .slice A2 p.ck.length c2, .slice A3 p.arcs.length c3] 28, froz T u] wr) (fun _ s11 _ => 6 - (intOf s11).toNat)
  case atStart => exact ⟨0, none, 0, [], by omega, rfl, rfl, by simp, Lib.hid ⟨rfl, by simp⟩, St.addNil hS.re _ _⟩
  case round =>
    obtain ⟨i, L, cl, l, hi, rfl, rfl, hl, HL, hS⟩ := hrel
    by_cases hgo : i < b2.length ∧ i < 6
    · obtain ⟨hib, hi6⟩ := hgo
      obtain ⟨bb, ob, rfl, _, hcb⟩ := bytes_at2 HB2.out.2 hib
      have hbd := nth_byte2 HB2.out.1 hib
      have d1 : decide ((i : Int) < (b2.length : Int)) = true := decide_eq_true (by omega)
      have d2 : decide ((i : Int) < 6) = true := decide_eq_true (by omega)
      generalize nth b2 i = z at *
      obtain ⟨zn, rfl⟩ : ∃ zn : Nat, z = zn := ⟨z.toNat, by omega⟩
      have hne : ¬ pts = [] := by intro h; rw [h] at hap; simp at hap
      obtain ⟨j, hjz⟩ : ∃ j : Nat, ((zn : Int) % (pts.length : Int)) = j := ⟨zn % pts.length, by omega⟩
      have hj : j < pts.length := by
        have := Int.emod_lt_of_pos (zn : Int) (show (0 : Int) < pts.length by omega)
        omega
      have hj' : (j : Int) < pts.length := by omega
      have HJ := Lib.hid (And.intro (pt_at' hj) (HAP.out _ (List.getElem_mem hj)))
      generalize pts[j] = pt at *
      obtain ⟨q, k⟩ := pt
      have HLL := Lib.hid (show (l ++ [(q, k)]).length = l.length + 1 by simp)
      have HFL := Lib.hid (show (l ++ [(q, k)]).flatMap ptCells = l.flatMap ptCells ++ [.int .i64 (q : Int), .int .i64 k] by simp [ptCells])
      go_wp2_with (first | (refine oL ?_; refine sL8 hS rfl rfl HJ.out.1 rfl ?_) | (refine oL ?_; (first | refine sL1 hS rfl rfl rfl ?_ | refine sL2 hS rfl rfl rfl ?_ | refine sL3 hS rfl rfl ?_ | refine sL4 hS rfl rfl ?_ | refine sL5 hS rfl rfl ?_ | refine sL6 hS rfl rfl ?_ | refine sL7 hS rfl rfl ?_)) | (refine oS ?_; ((first | refine sS1 hS rfl rfl rfl ?_ | refine sS2 hS rfl rfl rfl ?_ | refine sS3 hS rfl rfl rfl ?_ | refine sS4 hS rfl rfl rfl ?_ | refine sS5 hS rfl rfl rfl ?_); clear hS; intro w hS)) | (refine oP ?_; ((first | refine sP1 hS rfl rfl rfl ?_ | refine sP2 hS rfl rfl rfl ?_ | refine sP3 hS rfl rfl rfl ?_); clear hS; first | ((fail_if_success guard_hyp L1); intro L1 cl1 w hL1 hM1 hS) | ((fail_if_success guard_hyp L2); intro L2 cl2 w hL2 hM2 hS) | fail)) | ((first | refine sN1 hS rfl ?_ | (refine oC ?_; first | refine sC0 hS rfl ?_ | refine sC1 hS rfl rfl ?_ | refine sC2 hS rfl rfl ?_ | refine sC3 hS rfl rfl rfl ?_ | refine sC4 hS rfl rfl rfl ?_)); clear hS; first | ((fail_if_success guard_hyp g1); intro g1 w hS) | ((fail_if_success guard_hyp g2); intro g2 w hS) | ((fail_if_success guard_hyp g3); intro g3 w hS) | fail) | fail)
      go_roundw
      case measure => simp [intOf]; omega
      refine ⟨i + 1, L1, cl1, l ++ [(q, k)], by omega, by go_num, by rw [HLL.out], by rw [HLL.out]; have := HL.out.1; omega, Lib.hid ⟨by rw [HLL.out, HL.out.1], fun a ha => ?_⟩, ?_⟩
      · rcases List.mem_append.1 ha with ha | ha
        · exact HL.out.2 a ha
        · rw [List.mem_singleton.1 ha]; exact HJ.out.2
      · rw [HLL.out, HFL.out]; exact hS
    · have HLO := Lib.hid HL.out.2
      clear HL
      go_upto_region 10 with (first | (refine oL ?_; (first | refine sL1 hS rfl rfl rfl ?_ | refine sL2 hS rfl rfl rfl ?_ | refine sL3 hS rfl rfl ?_ | refine sL4 hS rfl rfl ?_ | refine sL5 hS rfl rfl ?_ | refine sL6 hS rfl rfl ?_ | refine sL7 hS rfl rfl ?_)) | (refine oS ?_; ((first | refine sS1 hS rfl rfl rfl ?_ | refine sS2 hS rfl rfl rfl ?_ | refine sS3 hS rfl rfl rfl ?_ | refine sS4 hS rfl rfl rfl ?_ | refine sS5 hS rfl rfl rfl ?_); clear hS; intro w hS)) | (refine oP ?_; ((first | refine sP1 hS rfl rfl rfl ?_ | refine sP2 hS rfl rfl rfl ?_ | refine sP3 hS rfl rfl rfl ?_); clear hS; first | ((fail_if_success guard_hyp L1); intro L1 cl1 w hL1 hM1 hS) | ((fail_if_success guard_hyp L2); intro L2 cl2 w hL2 hM2 hS) | fail)) | ((first | refine sN1 hS rfl ?_ | (refine oC ?_; first | refine sC0 hS rfl ?_ | refine sC1 hS rfl rfl ?_ | refine sC2 hS rfl rfl ?_ | refine sC3 hS rfl rfl rfl ?_ | refine sC4 hS rfl rfl rfl ?_)); clear hS; first | ((fail_if_success guard_hyp g1); intro g1 w hS) | ((fail_if_success guard_hyp g2); intro g2 w hS) | ((fail_if_success guard_hyp g3); intro g3 w hS) | fail) | fail)
      all_goals
        clear HB2
        refine dr_start0 []  hS (by kernel_rfl) rfl ?_; clear hS; intro w hS
        first | refine dL1 hS 0 rfl rfl rfl rfl ?_ | refine dL2 hS 0 rfl rfl rfl rfl ?_ | refine dL3 hS 0 rfl rfl rfl ?_ | refine dL4 hS 0 rfl rfl rfl ?_ | refine dL5 hS 0 rfl rfl rfl ?_ | refine dL6 hS 0 rfl rfl rfl ?_ | refine dL7 hS 0 rfl rfl rfl ?_
        (try simp only [Act.put, nA, nB, nC])
        refine dM hS 1 rfl rfl rfl ?_
        (try simp only [Act.put, nA, nB, nC])
        first | refine dL1 hS 3 rfl rfl rfl rfl ?_ | refine dL2 hS 3 rfl rfl rfl rfl ?_ | refine dL3 hS 3 rfl rfl rfl ?_ | refine dL4 hS 3 rfl rfl rfl ?_ | refine dL5 hS 3 rfl rfl rfl ?_ | refine dL6 hS 3 rfl rfl rfl ?_ | refine dL7 hS 3 rfl rfl rfl ?_
        (try simp only [Act.put, nA, nB, nC])
        refine dM hS 4 rfl rfl rfl ?_
        (try simp only [Act.put, nA, nB, nC])
        refine dr_one 2 (by kernel_rfl) rfl ?_
        (refine st_call rfl (by kernel_rfl) rfl ?_; go_at_call 25; refine (past_n rfl rfl rfl rfl (HPp.out.into (hS.intoK (T := T) (u := u))) HG.out hS.ptSlice9 HLO.out (by omega)).mono ?_; rintro e w ⟨zs, hpz, hzl, L4, c4, rfl, ho, hx1⟩; replace hS := hS.addRow ho hx1; have HZ := Lib.hid hpz; have HZL := Lib.hid hzl; clear hpz hzl ho)
        (try simp only [Act.put, nA, nB, nC])
        refine dr_end hS ?_
        refine dr_one 5 (by kernel_rfl) rfl ?_
        (refine st_call rfl (by kernel_rfl) rfl ?_; go_at_call 42; refine (rpast_n rfl rfl rfl rfl (HPp.out.into (hS.intoK (T := T) (u := u))) HG.out hS.ptSlice9 HLO.out (by omega)).mono ?_; rintro e w ⟨ys, hpy, hyl, L5, c5, rfl, ho, hx1⟩; replace hS := hS.addRow ho hx1; obtain rfl := HZ.out.unique hpy; clear hpy hyl ho)
        (try simp only [Act.put, nA, nB, nC])
        refine dr_end hS ?_
        refine dr_one 6 (by kernel_rfl) rfl ?_
        (refine st_call rfl (by kernel_rfl) rfl ?_; go_at_call 19; refine (sameInts_z HZL.out HZL.out hS.ri hS.ri (by omega) (by omega)).mono ?_; rintro e w ⟨rfl, hx1⟩; replace hS := hS.ext hx1; rw [decide_eq_true (Eq.refl zs)])
        (try simp only [Act.put, nA, nB, nC])
        refine dr_end hS ?_
        refine dM hS 7 rfl rfl rfl ?_
        (try simp only [Act.put, nA, nB, nC])
        first | refine dL1 hS 8 rfl rfl rfl rfl ?_ | refine dL2 hS 8 rfl rfl rfl rfl ?_ | refine dL3 hS 8 rfl rfl rfl ?_ | refine dL4 hS 8 rfl rfl rfl ?_ | refine dL5 hS 8 rfl rfl rfl ?_ | refine dL6 hS 8 rfl rfl rfl ?_ | refine dL7 hS 8 rfl rfl rfl ?_ | refine dQ hS 8 rfl rfl ?_
        (try simp only [Act.put, nA, nB, nC])
        first | refine dL1 hS 10 rfl rfl rfl rfl ?_ | refine dL2 hS 10 rfl rfl rfl rfl ?_ | refine dL3 hS 10 rfl rfl rfl ?_ | refine dL4 hS 10 rfl rfl rfl ?_ | refine dL5 hS 10 rfl rfl rfl ?_ | refine dL6 hS 10 rfl rfl rfl ?_ | refine dL7 hS 10 rfl rfl rfl ?_ | refine dQ hS 10 rfl rfl ?_
        (try simp only [Act.put, nA, nB, nC])
        refine dr_one 9 (by kernel_rfl) rfl ?_
        (refine st_call rfl (by kernel_rfl) rfl ?_; go_at_call 35; refine (order_m rfl rfl rfl (HPp.out.into (hS.intoK (T := T) (u := u))) HG.out).mono ?_; rintro e w ⟨nn, lo, hos, hnq, hl320, Lo, co, rfl, ho, hx1⟩; replace hS := hS.addRow ho hx1; clear ho; have HO := Lib.hid (And.intro hos hnq); clear hos hnq)
        (try simp only [Act.put, nA, nB, nC])
        refine dr_end hS ?_
        refine dr_one 11 (by kernel_rfl) rfl ?_
        (refine st_call rfl (by kernel_rfl) rfl ?_; go_at_call 44; refine (rorder_m rfl rfl rfl (HPp.out.into (hS.intoK (T := T) (u := u))) HG.out).mono ?_; rintro e w ⟨n2, l2, hos, hnq, hl2, L2, co2, rfl, ho, hx1⟩; obtain rfl := ord_same HO.out.1 hos HO.out.2; replace hS := hS.addRow ho hx1; clear ho hos hnq hl2)
        (try simp only [Act.put, nA, nB, nC])
        refine dr_end hS ?_
        refine dr_one 12 (by kernel_rfl) rfl ?_
        (refine st_call rfl (by kernel_rfl) rfl ?_; go_at_call 43; refine (samePts_eq _ _ _ _ l2 _ hS.ptSlice9 hS.ptSlice9 (by omega)).mono ?_; rintro e w ⟨rfl, hx1⟩; replace hS := hS.ext hx1)
        (try simp only [Act.put, nA, nB, nC])
        refine dr_end hS ?_
        refine dP hS 13 rfl rfl ?_
        (try simp only [Act.put, nA, nB, nC])
        refine dA hS 14 rfl rfl rfl ?_
        (try simp only [Act.put, nA, nB, nC])
        refine dr_done (by kernel_rfl) ?_
        go_wp2_with (first | (refine oL ?_; (first | refine sL1 hS rfl rfl rfl ?_ | refine sL2 hS rfl rfl rfl ?_ | refine sL3 hS rfl rfl ?_ | refine sL4 hS rfl rfl ?_ | refine sL5 hS rfl rfl ?_ | refine sL6 hS rfl rfl ?_ | refine sL7 hS rfl rfl ?_)) | (refine oS ?_; ((first | refine sS1 hS rfl rfl rfl ?_ | refine sS2 hS rfl rfl rfl ?_ | refine sS3 hS rfl rfl rfl ?_ | refine sS4 hS rfl rfl rfl ?_ | refine sS5 hS rfl rfl rfl ?_); clear hS; intro w hS)) | (refine oP ?_; ((first | refine sP1 hS rfl rfl rfl ?_ | refine sP2 hS rfl rfl rfl ?_ | refine sP3 hS rfl rfl rfl ?_); clear hS; first | ((fail_if_success guard_hyp L1); intro L1 cl1 w hL1 hM1 hS) | ((fail_if_success guard_hyp L2); intro L2 cl2 w hL2 hM2 hS) | fail)) | ((first | refine sN1 hS rfl ?_ | (refine oC ?_; first | refine sC0 hS rfl ?_ | refine sC1 hS rfl rfl ?_ | refine sC2 hS rfl rfl ?_ | refine sC3 hS rfl rfl rfl ?_ | refine sC4 hS rfl rfl rfl ?_)); clear hS; first | ((fail_if_success guard_hyp g1); intro g1 w hS) | ((fail_if_success guard_hyp g2); intro g2 w hS) | ((fail_if_success guard_hyp g3); intro g3 w hS) | fail) | fail)
        go_ret
        exact ⟨rfl, hS.toExt⟩
open Go.ChangeShapes Go.WideShapes Go.ChangeAt
set_option maxRecDepth 100000 in
theorem lifted_CausalPasts (os : Os) (started : os.Started) (H : Type) (enc : TypeId × Value → H) :
    ReturnsInHanded {} Try.checked os 10 .any (Rows.causalPastsSpec.pre6 enc Try.prog Try.f10 Rows.causalPastsRow.domain false) (Rows.causalPastsSpec.post enc Try.prog Try.f10 false true false false) := by
  refine law_lifted (C := Try.checked) (s := Rows.causalPastsSpec) (tb := 4) (by kernel_rfl) started (by kernel_rfl) Try.func10
      (ChangeSpec.witness6 (enc := enc) (C := Try.checked) false ⟨#[], #[.slice none 0 0, .slice none 0 0], []⟩ 8 (by kernel_rfl) (by kernel_rfl) (by kernel_rfl) (by kernel_rfl))
      (by kernel_rfl) rfl rfl Try.underlying4 (read_of (by kernel_rfl)) ?_ ?_
  · intro ds hl
    match ds, hl with
    | [d0, d1], _ => exact ⟨rfl, rfl, rfl⟩
  · intro W base args ds p hval0 hA0
    have hval : ∀ (j : Nat) t v, Try.f10.params[j]? = some t → args[j]? = some v → Value.okWide Try.prog W .any base t v := hval0
    have hA : DataW.TrodAll enc Try.prog W 0 (fun _ => true) true Try.f10.params.toList args.toList ds p := hA0
    clear hA0 hval0
    rw [Try.params10] at hA hval
    obtain ⟨v0, v1, d0, d1, p0, p1, rfl, rfl, rfl, h0, h1⟩ := trodAll_two hA
    obtain ⟨A0, c0, xs0, rfl, hri0, hc0, hd0, hwf0⟩ := open_nums Try.underlying22 Try.underlying5 (by kernel_rfl) (hval 0 _ v0 rfl rfl) h0
    obtain ⟨A1, c1, xs1, rfl, hri1, hc1, hd1, hwf1⟩ := open_nums Try.underlying22 Try.underlying5 (by kernel_rfl) (hval 1 _ v1 rfl rfl) h1
    exact causalPasts_any A0 c0 xs0 A1 c1 xs1 W hri0 hc0 hd0 (fun b hb => u8_bd (hwf0 b hb)) hri1 hc1 hd1 (fun b hb => u8_bd (hwf1 b hb))
/-- CausalPasts returns true for every input, and leaves its arguments as they were. -/
theorem proved_CausalPasts : Rows.CausalPastsSaid :=
  OpenClaim.holds_of_wide 10 Try.f10 rfl rfl rfl rfl rfl rfl rfl ⟨rfl, rfl, rfl, rfl, rfl⟩ rfl rfl rfl rfl rfl (by kernel_rfl) Try.func10 (by kernel_rfl)
    (of_decide_eq_true (by kernel_rfl)) (by unfold Func.isWrapper; rw [if_neg (by decide +kernel)]; exact ⟨rfl, rfl⟩)
    (fun os started H enc _ => lifted_CausalPasts os started H enc)
end Go.Proofs.Ytkflmichekpfbaa
