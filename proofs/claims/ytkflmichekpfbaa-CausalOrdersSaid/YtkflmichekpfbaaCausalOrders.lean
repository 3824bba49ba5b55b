/- CausalOrders returns true for every input. No condition. -/
import Derived.Test.YtkflmichekpfbaaOrders
namespace Go.Proofs.Ytkflmichekpfbaa
open Go.RowKit
set_option linter.unusedVariables false
set_option linter.unusedSimpArgs false

/-- happened before -/
def Hb (p : Pat) (a b : Nat × Int) : Prop := a ≠ b ∧ Reach p b a
theorem Hb.asym {p : Pat} (hg : Good p) {a b : Nat × Int} (ha : PtOk p a) (h : Hb p a b) : ¬ Hb p b a := fun k => h.1 ((k.2.anti hg ha h.2))
theorem Hb.trans {p : Pat} (hg : Good p) {a b c : Nat × Int} (hc : PtOk p c) (h : Hb p a b) (k : Hb p b c) : Hb p a c :=
  ⟨fun e => by subst e; exact h.1 (h.2.anti hg (k.2.ok hg hc) k.2).symm, k.2.trans h.2⟩
theorem Hb.clk {p : Pat} (hg : Good p) {a b : Nat × Int} (ha : PtOk p a) (hb : PtOk p b) {c : List Int} (hc : IsClk p b.1 b.2 c) (h0 : 0 < a.2) : Hb p a b ↔ a ≠ b ∧ a.2 ≤ nth c a.1 := by
  unfold Hb; rw [reach_iff hg hb hc ha h0]
theorem befRes_true {r : Bool} {P : Prop} (h : r = true ↔ P) (hp : P) : r = true := h.2 hp
theorem befRes_false {r : Bool} {P : Prop} (h : r = true ↔ P) (hp : ¬ P) : r = false := by
  cases r
  · rfl
  · exact absurd (h.1 rfl) hp
set_option maxRecDepth 100000 in
set_option maxHeartbeats 12800000 in
theorem causalOrders_any (C : Option Addr) (f : Nat) (bs : List Int) (w0 : World) (hbs : RV (fun b => b < w0.heap.size) w0 C (bytes bs)) (hf : bs.length ≤ f) (hf' : f ≤ 9223372036854775807) (hby : ∀ b ∈ bs, 0 ≤ b ∧ b ≤ 255) :
    Calls Try.prog 5 #[.slice C bs.length f] w0 fun e w' => e = .returned (.bool true) ∧ Ext w0 w' := by
  have hS := St.start w0 NoM
  have HB := Lib.hid (And.intro hby (RV.sub (S' := Froz w0 NoM) hbs (fun k hk => ⟨hk, id⟩)))
  clear hby hbs
  go_enter Try.func5, Try.ntmps5
  go_wp2_with (first | (go_at_call 15; refine (awake17_any _).mono ?_; rintro e w ⟨rfl, hx1⟩; replace hS := hS.ext hx1) | (refine oL ?_; (first | refine sL1 hS rfl rfl rfl ?_ | refine sL2 hS rfl rfl rfl ?_ | refine sL3 hS rfl rfl ?_ | refine sL4 hS rfl rfl ?_ | refine sL5 hS rfl rfl ?_ | refine sL6 hS rfl rfl ?_ | refine sL7 hS rfl rfl ?_)) | (refine oS ?_; ((first | refine sS1 hS rfl rfl rfl ?_ | refine sS2 hS rfl rfl rfl ?_ | refine sS3 hS rfl rfl rfl ?_ | refine sS4 hS rfl rfl rfl ?_ | refine sS5 hS rfl rfl rfl ?_); clear hS; intro w hS)) | ((first | refine sN1 hS rfl ?_); clear hS; first | ((fail_if_success guard_hyp g1); intro g1 w hS) | ((fail_if_success guard_hyp g2); intro g2 w hS) | fail) | fail)
  refine (new_st (m := 240) hS (by omega) HB.out.2 hf hf' HB.out.1).mono ?_
  rintro e w ⟨gc, κ, rfl, hS⟩
  clear HB
  generalize bs.take 240 = r at *
  go_wp2_with (first | (refine oL ?_; (first | refine sL1 hS rfl rfl rfl ?_ | refine sL2 hS rfl rfl rfl ?_ | refine sL3 hS rfl rfl ?_ | refine sL4 hS rfl rfl ?_ | refine sL5 hS rfl rfl ?_ | refine sL6 hS rfl rfl ?_ | refine sL7 hS rfl rfl ?_)) | (refine oS ?_; ((first | refine sS1 hS rfl rfl rfl ?_ | refine sS2 hS rfl rfl rfl ?_ | refine sS3 hS rfl rfl rfl ?_ | refine sS4 hS rfl rfl rfl ?_ | refine sS5 hS rfl rfl rfl ?_); clear hS; intro w hS)) | ((first | refine sN1 hS rfl ?_); clear hS; first | ((fail_if_success guard_hyp g1); intro g1 w hS) | ((fail_if_success guard_hyp g2); intro g2 w hS) | fail) | fail)
  refine (pattern_st (m := 8) hS rfl (by omega)).mono ?_
  rintro e w ⟨v, p, r1, T, rfl, hsm, hpa, hS⟩
  have HP := Lib.hid (And.intro hsm hpa)
  have e1 := hsm.good.ckl
  have hn5 := hsm.good.n5
  obtain ⟨A1, c1, A2, c2, A3, c3⟩ := v
  simp only [PV.val]
  have HE := Lib.hid e1
  have hn2 := hsm.good.n2
  have hfew := hsm.few
  clear hsm hpa e1
  generalize hu : w = u at *
  have HG := Lib.hid HP.out.1.good
  have HPp := Lib.hid HP.out.2
  clear HP
  go_wp2_with (first | (go_at_call 18; refine (points_any _ _ _ _ _ _ _ _ p _ (HPp.out.len.into hS.frozInto) HG.out).mono ?_; rintro e w ⟨Lp, cp, rfl, ho, hx1⟩; replace hS := hS.addRow ho hx1; clear ho) | (refine oL ?_; (first | refine sL1 hS rfl rfl rfl ?_ | refine sL2 hS rfl rfl rfl ?_ | refine sL3 hS rfl rfl ?_ | refine sL4 hS rfl rfl ?_ | refine sL5 hS rfl rfl ?_ | refine sL6 hS rfl rfl ?_ | refine sL7 hS rfl rfl ?_)) | (refine oS ?_; ((first | refine sS1 hS rfl rfl rfl ?_ | refine sS2 hS rfl rfl rfl ?_ | refine sS3 hS rfl rfl rfl ?_ | refine sS4 hS rfl rfl rfl ?_ | refine sS5 hS rfl rfl rfl ?_); clear hS; intro w hS)) | ((first | refine sN1 hS rfl ?_); clear hS; first | ((fail_if_success guard_hyp g1); intro g1 w hS) | ((fail_if_success guard_hyp g2); intro g2 w hS) | fail) | fail)
  have hap : 0 < (allPts p).length := List.length_pos_of_mem ((mem_allPts HG.out).2 (show PtOk p (0, 0) from ⟨by omega, Int.le_refl _, HG.out.lo 0 (by omega)⟩))
  have hal := allPts_len HG.out
  have HAP := Lib.hid (And.intro (fun a (h : a ∈ allPts p) => (mem_allPts HG.out).1 h) (fun i k hi hk => allPts_inj p (i := i) (k := k) hi hk))
  generalize hpts : allPts p = pts at *
  clear hpts
  obtain ⟨gp, rfl⟩ := hS.rowSome Lp hap
  go_loopw [19] (fun s19 wr => ∃ (i : Nat), i ≤ pts.length ∧ s19 = .int .i64 i ∧ St w0 NoM [row (.slice (some ⟨gp, 0, none⟩) pts.length cp) 37 2 pts.length (pts.flatMap ptCells), blk g1 [.slice A1 p.len.length c1, .slice A2 p.ck.length c2, .slice A3 p.arcs.length c3] 28, froz T u] wr) (fun s19 _ => pts.length - (intOf s19).toNat)
  case atStart => exact ⟨0, by omega, rfl, hS.re⟩
  case round =>
    obtain ⟨i, hi, rfl, hS⟩ := hrel
    by_cases hil : i < pts.length
    · have hil' : (i : Int) < pts.length := by omega
      have HI := Lib.hid (And.intro (pt_at' hil) (HAP.out.1 _ (List.getElem_mem hil)))
      have HIK : Hid (∀ k (hk : k < pts.length), pts[i] = pts[k] ↔ i = k) := Lib.hid (fun k hk => HAP.out.2 i k hil hk)
      generalize pts[i] = pi at *
      obtain ⟨qi, ki⟩ := pi
      go_wp2_with (first | (refine oL ?_; (first | refine sL1 hS rfl rfl rfl ?_ | refine sL2 hS rfl rfl rfl ?_ | refine sL3 hS rfl rfl ?_ | refine sL4 hS rfl rfl ?_ | refine sL5 hS rfl rfl ?_ | refine sL6 hS rfl rfl ?_ | refine sL7 hS rfl rfl ?_)) | (refine oS ?_; ((first | refine sS1 hS rfl rfl rfl ?_ | refine sS2 hS rfl rfl rfl ?_ | refine sS3 hS rfl rfl rfl ?_ | refine sS4 hS rfl rfl rfl ?_ | refine sS5 hS rfl rfl rfl ?_); clear hS; intro w hS)) | ((first | refine sN1 hS rfl ?_); clear hS; first | ((fail_if_success guard_hyp g1); intro g1 w hS) | ((fail_if_success guard_hyp g2); intro g2 w hS) | fail) | fail)
      go_loopw [24] (fun s24 wr => ∃ (k : Nat), k ≤ pts.length ∧ s24 = .int .i64 k ∧ St w0 NoM [row (.slice (some ⟨gp, 0, none⟩) pts.length cp) 37 2 pts.length (pts.flatMap ptCells), blk g1 [.slice A1 p.len.length c1, .slice A2 p.ck.length c2, .slice A3 p.arcs.length c3] 28, froz T u] wr) (fun s24 _ => pts.length - (intOf s24).toNat)
      case atStart => exact ⟨0, by omega, rfl, hS.re⟩
      case round =>
        obtain ⟨k, hk, rfl, hS⟩ := hrel
        by_cases hkl : k < pts.length
        · have hkl' : (k : Int) < pts.length := by omega
          have HK := Lib.hid (And.intro (pt_at' hkl) (HAP.out.1 _ (List.getElem_mem hkl)))
          have HE := Lib.hid (HIK.out k hkl)
          generalize pts[k] = pk at *
          obtain ⟨qk, kk⟩ := pk
          have hfi0 := HI.out.1 0 _ rfl
          have hfi1 := HI.out.1 1 _ rfl
          have hfk0 := HK.out.1 0 _ rfl
          have hfk1 := HK.out.1 1 _ rfl
          simp only [Nat.add_zero] at hfi0 hfk0
          have hqi : qi < p.len.length := HI.out.2.1
          have hqi' : (qi : Int) < p.len.length := by omega
          have hki := HI.out.2.2.1
          simp only at hki
          by_cases hx : Hb p (qi, ki) (qk, kk)
          · have HX := Lib.hid hx
            clear hx
            go_wp2_with (first | (refine oL ?_; (first | refine sL1 hS rfl rfl rfl ?_ | refine sL2 hS rfl rfl rfl ?_ | refine sL3 hS rfl rfl ?_ | refine sL4 hS rfl rfl ?_ | refine sL5 hS rfl rfl ?_ | refine sL6 hS rfl rfl ?_ | refine sL7 hS rfl rfl ?_)) | (refine oS ?_; ((first | refine sS1 hS rfl rfl rfl ?_ | refine sS2 hS rfl rfl rfl ?_ | refine sS3 hS rfl rfl rfl ?_ | refine sS4 hS rfl rfl rfl ?_ | refine sS5 hS rfl rfl rfl ?_); clear hS; intro w hS)) | ((first | refine sN1 hS rfl ?_); clear hS; first | ((fail_if_success guard_hyp g1); intro g1 w hS) | ((fail_if_success guard_hyp g2); intro g2 w hS) | fail) | fail)
            refine dr_start0 []  hS (by kernel_rfl) rfl ?_; clear hS; intro w hS
            first | refine dL1 hS 0 rfl rfl rfl rfl ?_ | refine dL2 hS 0 rfl rfl rfl rfl ?_ | refine dL3 hS 0 rfl rfl rfl ?_ | refine dL4 hS 0 rfl rfl rfl ?_ | refine dL5 hS 0 rfl rfl rfl ?_ | refine dL6 hS 0 rfl rfl rfl ?_ | refine dL7 hS 0 rfl rfl rfl ?_
            (try simp only [Act.put, nA, nB, nC])
            refine dM hS 1 rfl rfl rfl ?_
            (try simp only [Act.put, nA, nB, nC])
            refine dM hS 2 rfl rfl rfl ?_
            (try simp only [Act.put, nA, nB, nC])
            refine dP hS 3 rfl rfl ?_
            (try simp only [Act.put, nA, nB, nC])
            first | refine dL8 hS 4 rfl rfl rfl HI.out.1 ?_ | refine dL1 hS 4 rfl rfl rfl rfl ?_ | refine dL2 hS 4 rfl rfl rfl rfl ?_ | refine dL3 hS 4 rfl rfl rfl ?_ | refine dL4 hS 4 rfl rfl rfl ?_ | refine dL5 hS 4 rfl rfl rfl ?_ | refine dL6 hS 4 rfl rfl rfl ?_ | refine dL7 hS 4 rfl rfl rfl ?_
            (try simp only [Act.put, nA, nB, nC])
            refine dM hS 5 rfl rfl rfl ?_
            (try simp only [Act.put, nA, nB, nC])
            refine dM hS 6 rfl rfl rfl ?_
            (try simp only [Act.put, nA, nB, nC])
            refine dP hS 7 rfl rfl ?_
            (try simp only [Act.put, nA, nB, nC])
            first | refine dL8 hS 8 rfl rfl rfl HK.out.1 ?_ | refine dL1 hS 8 rfl rfl rfl rfl ?_ | refine dL2 hS 8 rfl rfl rfl rfl ?_ | refine dL3 hS 8 rfl rfl rfl ?_ | refine dL4 hS 8 rfl rfl rfl ?_ | refine dL5 hS 8 rfl rfl rfl ?_ | refine dL6 hS 8 rfl rfl rfl ?_ | refine dL7 hS 8 rfl rfl rfl ?_
            (try simp only [Act.put, nA, nB, nC])
            refine dr_one 9 (by kernel_rfl) rfl ?_
            (refine st_call rfl (by kernel_rfl) rfl ?_; go_at_call 22; refine (before_n rfl rfl rfl rfl rfl (HPp.out.into (hS.intoK (T := T) (u := u))) HG.out HI.out.2 HK.out.2).mono ?_; rintro e w ⟨r, hr, rfl, hx1⟩; replace hS := hS.ext hx1; obtain rfl : r = true := befRes_true hr HX.out; clear hr)
            (try simp only [Act.put, nA, nB, nC])
            refine dr_end hS ?_
            refine dA hS 10 rfl rfl rfl ?_
            (try simp only [Act.put, nA, nB, nC])
            refine dr_done (by kernel_rfl) ?_
            go_wp2_with (first | (refine oL ?_; (first | refine sL1 hS rfl rfl rfl ?_ | refine sL2 hS rfl rfl rfl ?_ | refine sL3 hS rfl rfl ?_ | refine sL4 hS rfl rfl ?_ | refine sL5 hS rfl rfl ?_ | refine sL6 hS rfl rfl ?_ | refine sL7 hS rfl rfl ?_)) | (refine oS ?_; ((first | refine sS1 hS rfl rfl rfl ?_ | refine sS2 hS rfl rfl rfl ?_ | refine sS3 hS rfl rfl rfl ?_ | refine sS4 hS rfl rfl rfl ?_ | refine sS5 hS rfl rfl rfl ?_); clear hS; intro w hS)) | ((first | refine sN1 hS rfl ?_); clear hS; first | ((fail_if_success guard_hyp g1); intro g1 w hS) | ((fail_if_success guard_hyp g2); intro g2 w hS) | fail) | fail)
            refine dr_start0 []  hS (by kernel_rfl) rfl ?_; clear hS; intro w hS
            refine dM hS 0 rfl rfl rfl ?_
            (try simp only [Act.put, nA, nB, nC])
            refine dM hS 1 rfl rfl rfl ?_
            (try simp only [Act.put, nA, nB, nC])
            first | refine dL1 hS 2 rfl rfl rfl rfl ?_ | refine dL2 hS 2 rfl rfl rfl rfl ?_ | refine dL3 hS 2 rfl rfl rfl ?_ | refine dL4 hS 2 rfl rfl rfl ?_ | refine dL5 hS 2 rfl rfl rfl ?_ | refine dL6 hS 2 rfl rfl rfl ?_ | refine dL7 hS 2 rfl rfl rfl ?_ | refine dQ hS 2 rfl rfl ?_
            (try simp only [Act.put, nA, nB, nC])
            first | refine dM hS 3 rfl rfl rfl ?_ | refine dQ hS 3 rfl rfl ?_
            (try simp only [Act.put, nA, nB, nC])
            first | refine dM hS 4 rfl rfl rfl ?_ | refine dQ hS 4 rfl rfl ?_
            (try simp only [Act.put, nA, nB, nC])
            first | refine dP hS 5 rfl rfl ?_ | refine dQ hS 5 rfl rfl ?_
            (try simp only [Act.put, nA, nB, nC])
            first | refine dL8 hS 6 rfl rfl rfl HK.out.1 ?_ | refine dL1 hS 6 rfl rfl rfl rfl ?_ | refine dL2 hS 6 rfl rfl rfl rfl ?_ | refine dL3 hS 6 rfl rfl rfl ?_ | refine dL4 hS 6 rfl rfl rfl ?_ | refine dL5 hS 6 rfl rfl rfl ?_ | refine dL6 hS 6 rfl rfl rfl ?_ | refine dL7 hS 6 rfl rfl rfl ?_ | refine dQ hS 6 rfl rfl ?_
            (try simp only [Act.put, nA, nB, nC])
            first | refine dM hS 7 rfl rfl rfl ?_ | refine dQ hS 7 rfl rfl ?_
            (try simp only [Act.put, nA, nB, nC])
            first | refine dM hS 8 rfl rfl rfl ?_ | refine dQ hS 8 rfl rfl ?_
            (try simp only [Act.put, nA, nB, nC])
            first | refine dP hS 9 rfl rfl ?_ | refine dQ hS 9 rfl rfl ?_
            (try simp only [Act.put, nA, nB, nC])
            first | refine dL8 hS 10 rfl rfl rfl HI.out.1 ?_ | refine dL1 hS 10 rfl rfl rfl rfl ?_ | refine dL2 hS 10 rfl rfl rfl rfl ?_ | refine dL3 hS 10 rfl rfl rfl ?_ | refine dL4 hS 10 rfl rfl rfl ?_ | refine dL5 hS 10 rfl rfl rfl ?_ | refine dL6 hS 10 rfl rfl rfl ?_ | refine dL7 hS 10 rfl rfl rfl ?_ | refine dQ hS 10 rfl rfl ?_
            (try simp only [Act.put, nA, nB, nC])
            refine dr_one 11 (by kernel_rfl) rfl ?_
            (refine st_call rfl (by kernel_rfl) rfl ?_; go_at_call 22; refine (before_n rfl rfl rfl rfl rfl (HPp.out.into (hS.intoK (T := T) (u := u))) HG.out HK.out.2 HI.out.2).mono ?_; rintro e w ⟨r, hr, rfl, hx1⟩; replace hS := hS.ext hx1; obtain rfl : r = false := befRes_false hr (Hb.asym HG.out HI.out.2 HX.out); clear hr)
            (try simp only [Act.put, nA, nB, nC])
            refine dr_end hS ?_
            refine dP hS 12 rfl rfl ?_
            (try simp only [Act.put, nA, nB, nC])
            refine dr_done (by kernel_rfl) ?_
            go_wp2_with (first | (refine oL ?_; (first | refine sL1 hS rfl rfl rfl ?_ | refine sL2 hS rfl rfl rfl ?_ | refine sL3 hS rfl rfl ?_ | refine sL4 hS rfl rfl ?_ | refine sL5 hS rfl rfl ?_ | refine sL6 hS rfl rfl ?_ | refine sL7 hS rfl rfl ?_)) | (refine oS ?_; ((first | refine sS1 hS rfl rfl rfl ?_ | refine sS2 hS rfl rfl rfl ?_ | refine sS3 hS rfl rfl rfl ?_ | refine sS4 hS rfl rfl rfl ?_ | refine sS5 hS rfl rfl rfl ?_); clear hS; intro w hS)) | ((first | refine sN1 hS rfl ?_); clear hS; first | ((fail_if_success guard_hyp g1); intro g1 w hS) | ((fail_if_success guard_hyp g2); intro g2 w hS) | fail) | fail)
            refine dr_start0 []  hS (by kernel_rfl) rfl ?_; clear hS; intro w hS
            first | refine dL1 hS 0 rfl rfl rfl rfl ?_ | refine dL2 hS 0 rfl rfl rfl rfl ?_ | refine dL3 hS 0 rfl rfl rfl ?_ | refine dL4 hS 0 rfl rfl rfl ?_ | refine dL5 hS 0 rfl rfl rfl ?_ | refine dL6 hS 0 rfl rfl rfl ?_ | refine dL7 hS 0 rfl rfl rfl ?_
            (try simp only [Act.put, nA, nB, nC])
            refine dM hS 1 rfl rfl rfl ?_
            (try simp only [Act.put, nA, nB, nC])
            refine dM hS 2 rfl rfl rfl ?_
            (try simp only [Act.put, nA, nB, nC])
            refine dP hS 3 rfl rfl ?_
            (try simp only [Act.put, nA, nB, nC])
            refine dP hS 4 rfl rfl ?_
            (try simp only [Act.put, nA, nB, nC])
            first | refine dL1 hS 5 rfl rfl rfl rfl ?_ | refine dL2 hS 5 rfl rfl rfl rfl ?_ | refine dL3 hS 5 rfl rfl rfl ?_ | refine dL4 hS 5 rfl rfl rfl ?_ | refine dL5 hS 5 rfl rfl rfl ?_ | refine dL6 hS 5 rfl rfl rfl ?_ | refine dL7 hS 5 rfl rfl rfl ?_
            (try simp only [Act.put, nA, nB, nC])
            refine dM hS 6 rfl rfl rfl ?_
            (try simp only [Act.put, nA, nB, nC])
            refine dM hS 7 rfl rfl rfl ?_
            (try simp only [Act.put, nA, nB, nC])
            refine dP hS 8 rfl rfl ?_
            (try simp only [Act.put, nA, nB, nC])
            refine dP hS 9 rfl rfl ?_
            (try simp only [Act.put, nA, nB, nC])
            first | refine dL1 hS 10 rfl rfl rfl rfl ?_ | refine dL2 hS 10 rfl rfl rfl rfl ?_ | refine dL3 hS 10 rfl rfl rfl ?_ | refine dL4 hS 10 rfl rfl rfl ?_ | refine dL5 hS 10 rfl rfl rfl ?_ | refine dL6 hS 10 rfl rfl rfl ?_ | refine dL7 hS 10 rfl rfl rfl ?_
            (try simp only [Act.put, nA, nB, nC])
            refine dr_one 11 (by kernel_rfl) rfl ?_
            (refine st_call rfl (by kernel_rfl) rfl ?_; go_at_call 20; refine (clock17_n rfl rfl rfl rfl (HPp.out.into hS.frozInto) HG.out HK.out.2).mono ?_; rintro e u2 ⟨L, cap, c, rfl, hclk, hcl, hri, hcap, hx1⟩; replace hS := hS.frozNew hx1; have HC := Lib.hid hclk; have HCL := Lib.hid hcl; obtain ⟨N1, hN1⟩ : ∃ N : Nat → Prop, N = fun k => w.heap.size ≤ k ∧ k < u2.heap.size := ⟨_, rfl⟩; rw [← hN1] at hS hri; clear hN1 hclk hcl)
            (try simp only [Act.put, nA, nB, nC])
            refine dr_end hS ?_
            refine dA hS 12 rfl rfl rfl ?_
            (try simp only [Act.put, nA, nB, nC])
            refine dr_done (by kernel_rfl) ?_
            obtain ⟨bc, oc, rfl, hfc⟩ := hri.fc (k := qi) (by rw [HCL.out]; exact hqi)
            have HCK := Lib.hid (fun h0 => Hb.clk HG.out HI.out.2 HK.out.2 HC.out (a := (qi, ki)) (b := (qk, kk)) h0)
            simp only at HCK
            generalize hcq : nth c qi = cq at *
            have e0 : ((p.len.length : Int) != (p.len.length : Int)) = false := by simp
            go_upto_region 15 with (first | (refine oL ?_; (first | refine sL1 hS rfl rfl rfl ?_ | refine sL2 hS rfl rfl rfl ?_ | refine sL3 hS rfl rfl ?_ | refine sL4 hS rfl rfl ?_ | refine sL5 hS rfl rfl ?_ | refine sL6 hS rfl rfl ?_ | refine sL7 hS rfl rfl ?_)) | (refine oS ?_; ((first | refine sS1 hS rfl rfl rfl ?_ | refine sS2 hS rfl rfl rfl ?_ | refine sS3 hS rfl rfl rfl ?_ | refine sS4 hS rfl rfl rfl ?_ | refine sS5 hS rfl rfl rfl ?_); clear hS; intro w hS)) | ((first | refine sN1 hS rfl ?_); clear hS; first | ((fail_if_success guard_hyp g1); intro g1 w hS) | ((fail_if_success guard_hyp g2); intro g2 w hS) | fail) | fail)
            try simp only [Act.put, nA, nB, nC]
            go_cut [98] (fun s98 wx => s98 = .bool false ∧ St w0 NoM [row (.slice (some ⟨gp, 0, none⟩) pts.length cp) 37 2 pts.length (pts.flatMap ptCells), blk g1 [.slice A1 p.len.length c1, .slice A2 p.ck.length c2, .slice A3 p.arcs.length c3] 28, froz T u] wx)
            case first =>
              by_cases hk0 : 0 < ki
              · have d1 : decide (0 < ki) = true := decide_eq_true hk0
                have hik : ¬ i = k := fun e => HX.out.1 (HE.out.2 e)
                have e1 : ((i : Int) != (k : Int)) = true := by simp; omega
                have hge : ki ≤ cq := ((HCK.out hk0).1 HX.out).2
                have d2 : decide (ki ≤ cq) = true := decide_eq_true hge
                clear hik hge hcq
                refine dr_start0 []  hS (by kernel_rfl) rfl ?_; clear hS; intro w hS
                refine dM hS 0 rfl rfl rfl ?_
                (try simp only [Act.put, nA, nB, nC])
                refine dP hS 1 rfl rfl ?_
                (try simp only [Act.put, nA, nB, nC])
                refine dP hS 2 rfl rfl ?_
                (try simp only [Act.put, nA, nB, nC])
                first | refine dL1 hS 3 rfl rfl rfl rfl ?_ | refine dL2 hS 3 rfl rfl rfl rfl ?_ | refine dL3 hS 3 rfl rfl rfl ?_ | refine dL4 hS 3 rfl rfl rfl ?_ | refine dL5 hS 3 rfl rfl rfl ?_ | refine dL6 hS 3 rfl rfl rfl ?_ | refine dL7 hS 3 rfl rfl rfl ?_
                (try simp only [Act.put, nA, nB, nC])
                refine dP hS 4 rfl rfl ?_
                (try simp only [Act.put, nA, nB, nC])
                refine dP hS 5 rfl rfl ?_
                (try simp only [Act.put, nA, nB, nC])
                refine dM hS 6 rfl rfl rfl ?_
                (try simp only [Act.put, nA, nB, nC])
                first | refine dM hS 7 rfl rfl rfl ?_ | refine dQ hS 7 rfl rfl ?_
                (try simp only [Act.put, nA, nB, nC])
                first | refine dM hS 8 rfl rfl rfl ?_ | refine dQ hS 8 rfl rfl ?_
                (try simp only [Act.put, nA, nB, nC])
                first | refine dP hS 9 rfl rfl ?_ | refine dQ hS 9 rfl rfl ?_
                (try simp only [Act.put, nA, nB, nC])
                first | refine dP hS 10 rfl rfl ?_ | refine dQ hS 10 rfl rfl ?_
                (try simp only [Act.put, nA, nB, nC])
                first | refine dL1 hS 11 rfl rfl rfl rfl ?_ | refine dL2 hS 11 rfl rfl rfl rfl ?_ | refine dL3 hS 11 rfl rfl rfl ?_ | refine dL4 hS 11 rfl rfl rfl ?_ | refine dL5 hS 11 rfl rfl rfl ?_ | refine dL6 hS 11 rfl rfl rfl ?_ | refine dL7 hS 11 rfl rfl rfl ?_ | refine dQ hS 11 rfl rfl ?_
                (try simp only [Act.put, nA, nB, nC])
                first | refine dP hS 12 rfl rfl ?_ | refine dQ hS 12 rfl rfl ?_
                (try simp only [Act.put, nA, nB, nC])
                first | refine dM hS 13 rfl rfl rfl ?_ | refine dQ hS 13 rfl rfl ?_
                (try simp only [Act.put, nA, nB, nC])
                first | refine dM hS 14 rfl rfl rfl ?_ | refine dQ hS 14 rfl rfl ?_
                (try simp only [Act.put, nA, nB, nC])
                first | refine dM hS 15 rfl rfl rfl ?_ | refine dQ hS 15 rfl rfl ?_
                (try simp only [Act.put, nA, nB, nC])
                first | refine dM hS 16 rfl rfl rfl ?_ | refine dQ hS 16 rfl rfl ?_
                (try simp only [Act.put, nA, nB, nC])
                first | refine dP hS 17 rfl rfl ?_ | refine dQ hS 17 rfl rfl ?_
                (try simp only [Act.put, nA, nB, nC])
                first | refine dM hS 18 rfl rfl rfl ?_ | refine dQ hS 18 rfl rfl ?_
                (try simp only [Act.put, nA, nB, nC])
                first | refine dM hS 19 rfl rfl rfl ?_ | refine dQ hS 19 rfl rfl ?_
                (try simp only [Act.put, nA, nB, nC])
                first | refine dM hS 20 rfl rfl rfl ?_ | refine dQ hS 20 rfl rfl ?_
                (try simp only [Act.put, nA, nB, nC])
                first | refine dM hS 21 rfl rfl rfl ?_ | refine dQ hS 21 rfl rfl ?_
                (try simp only [Act.put, nA, nB, nC])
                first | refine dP hS 22 rfl rfl ?_ | refine dQ hS 22 rfl rfl ?_
                (try simp only [Act.put, nA, nB, nC])
                first | refine dP hS 23 rfl rfl ?_ | refine dQ hS 23 rfl rfl ?_
                (try simp only [Act.put, nA, nB, nC])
                first | refine dL1 hS 24 rfl rfl rfl rfl ?_ | refine dL2 hS 24 rfl rfl rfl rfl ?_ | refine dL3 hS 24 rfl rfl rfl ?_ | refine dL4 hS 24 rfl rfl rfl ?_ | refine dL5 hS 24 rfl rfl rfl ?_ | refine dL6 hS 24 rfl rfl rfl ?_ | refine dL7 hS 24 rfl rfl rfl ?_ | refine dQ hS 24 rfl rfl ?_
                (try simp only [Act.put, nA, nB, nC])
                first | refine dP hS 25 rfl rfl ?_ | refine dQ hS 25 rfl rfl ?_
                (try simp only [Act.put, nA, nB, nC])
                first | refine dL1 hS 26 rfl rfl rfl rfl ?_ | refine dL2 hS 26 rfl rfl rfl rfl ?_ | refine dL3 hS 26 rfl rfl rfl ?_ | refine dL4 hS 26 rfl rfl rfl ?_ | refine dL5 hS 26 rfl rfl rfl ?_ | refine dL6 hS 26 rfl rfl rfl ?_ | refine dL7 hS 26 rfl rfl rfl ?_ | refine dQ hS 26 rfl rfl ?_
                (try simp only [Act.put, nA, nB, nC])
                first | refine dM hS 27 rfl rfl rfl ?_ | refine dQ hS 27 rfl rfl ?_
                (try simp only [Act.put, nA, nB, nC])
                first | refine dM hS 28 rfl rfl rfl ?_ | refine dQ hS 28 rfl rfl ?_
                (try simp only [Act.put, nA, nB, nC])
                first | refine dP hS 29 rfl rfl ?_ | refine dQ hS 29 rfl rfl ?_
                (try simp only [Act.put, nA, nB, nC])
                first | refine dP hS 30 rfl rfl ?_ | refine dQ hS 30 rfl rfl ?_
                (try simp only [Act.put, nA, nB, nC])
                first | refine dL1 hS 31 rfl rfl rfl rfl ?_ | refine dL2 hS 31 rfl rfl rfl rfl ?_ | refine dL3 hS 31 rfl rfl rfl ?_ | refine dL4 hS 31 rfl rfl rfl ?_ | refine dL5 hS 31 rfl rfl rfl ?_ | refine dL6 hS 31 rfl rfl rfl ?_ | refine dL7 hS 31 rfl rfl rfl ?_ | refine dQ hS 31 rfl rfl ?_
                (try simp only [Act.put, nA, nB, nC])
                first | refine dP hS 32 rfl rfl ?_ | refine dQ hS 32 rfl rfl ?_
                (try simp only [Act.put, nA, nB, nC])
                first | refine dP hS 33 rfl rfl ?_ | refine dQ hS 33 rfl rfl ?_
                (try simp only [Act.put, nA, nB, nC])
                first | refine dP hS 34 rfl rfl ?_ | refine dQ hS 34 rfl rfl ?_
                (try simp only [Act.put, nA, nB, nC])
                first | refine dP hS 35 rfl rfl ?_ | refine dQ hS 35 rfl rfl ?_
                (try simp only [Act.put, nA, nB, nC])
                refine dP hS 36 rfl rfl ?_
                (try simp only [Act.put, nA, nB, nC])
                refine dr_done (by kernel_rfl) ?_
                go_wp2_with fail
                go_meet
                exact ⟨rfl, hS.re⟩
              · have d1 : decide (0 < ki) = false := decide_eq_false hk0
                refine dr_start0 []  hS (by kernel_rfl) rfl ?_; clear hS; intro w hS
                refine dM hS 0 rfl rfl rfl ?_
                (try simp only [Act.put, nA, nB, nC])
                refine dP hS 1 rfl rfl ?_
                (try simp only [Act.put, nA, nB, nC])
                refine dP hS 2 rfl rfl ?_
                (try simp only [Act.put, nA, nB, nC])
                first | refine dL1 hS 3 rfl rfl rfl rfl ?_ | refine dL2 hS 3 rfl rfl rfl rfl ?_ | refine dL3 hS 3 rfl rfl rfl ?_ | refine dL4 hS 3 rfl rfl rfl ?_ | refine dL5 hS 3 rfl rfl rfl ?_ | refine dL6 hS 3 rfl rfl rfl ?_ | refine dL7 hS 3 rfl rfl rfl ?_
                (try simp only [Act.put, nA, nB, nC])
                refine dP hS 4 rfl rfl ?_
                (try simp only [Act.put, nA, nB, nC])
                refine dP hS 5 rfl rfl ?_
                (try simp only [Act.put, nA, nB, nC])
                refine dM hS 6 rfl rfl rfl ?_
                (try simp only [Act.put, nA, nB, nC])
                first | refine dM hS 7 rfl rfl rfl ?_ | refine dQ hS 7 rfl rfl ?_
                (try simp only [Act.put, nA, nB, nC])
                first | refine dM hS 8 rfl rfl rfl ?_ | refine dQ hS 8 rfl rfl ?_
                (try simp only [Act.put, nA, nB, nC])
                first | refine dP hS 9 rfl rfl ?_ | refine dQ hS 9 rfl rfl ?_
                (try simp only [Act.put, nA, nB, nC])
                first | refine dP hS 10 rfl rfl ?_ | refine dQ hS 10 rfl rfl ?_
                (try simp only [Act.put, nA, nB, nC])
                first | refine dL1 hS 11 rfl rfl rfl rfl ?_ | refine dL2 hS 11 rfl rfl rfl rfl ?_ | refine dL3 hS 11 rfl rfl rfl ?_ | refine dL4 hS 11 rfl rfl rfl ?_ | refine dL5 hS 11 rfl rfl rfl ?_ | refine dL6 hS 11 rfl rfl rfl ?_ | refine dL7 hS 11 rfl rfl rfl ?_ | refine dQ hS 11 rfl rfl ?_
                (try simp only [Act.put, nA, nB, nC])
                first | refine dP hS 12 rfl rfl ?_ | refine dQ hS 12 rfl rfl ?_
                (try simp only [Act.put, nA, nB, nC])
                first | refine dM hS 13 rfl rfl rfl ?_ | refine dQ hS 13 rfl rfl ?_
                (try simp only [Act.put, nA, nB, nC])
                first | refine dM hS 14 rfl rfl rfl ?_ | refine dQ hS 14 rfl rfl ?_
                (try simp only [Act.put, nA, nB, nC])
                first | refine dM hS 15 rfl rfl rfl ?_ | refine dQ hS 15 rfl rfl ?_
                (try simp only [Act.put, nA, nB, nC])
                first | refine dM hS 16 rfl rfl rfl ?_ | refine dQ hS 16 rfl rfl ?_
                (try simp only [Act.put, nA, nB, nC])
                first | refine dP hS 17 rfl rfl ?_ | refine dQ hS 17 rfl rfl ?_
                (try simp only [Act.put, nA, nB, nC])
                first | refine dM hS 18 rfl rfl rfl ?_ | refine dQ hS 18 rfl rfl ?_
                (try simp only [Act.put, nA, nB, nC])
                first | refine dM hS 19 rfl rfl rfl ?_ | refine dQ hS 19 rfl rfl ?_
                (try simp only [Act.put, nA, nB, nC])
                first | refine dM hS 20 rfl rfl rfl ?_ | refine dQ hS 20 rfl rfl ?_
                (try simp only [Act.put, nA, nB, nC])
                first | refine dM hS 21 rfl rfl rfl ?_ | refine dQ hS 21 rfl rfl ?_
                (try simp only [Act.put, nA, nB, nC])
                first | refine dP hS 22 rfl rfl ?_ | refine dQ hS 22 rfl rfl ?_
                (try simp only [Act.put, nA, nB, nC])
                first | refine dP hS 23 rfl rfl ?_ | refine dQ hS 23 rfl rfl ?_
                (try simp only [Act.put, nA, nB, nC])
                first | refine dL1 hS 24 rfl rfl rfl rfl ?_ | refine dL2 hS 24 rfl rfl rfl rfl ?_ | refine dL3 hS 24 rfl rfl rfl ?_ | refine dL4 hS 24 rfl rfl rfl ?_ | refine dL5 hS 24 rfl rfl rfl ?_ | refine dL6 hS 24 rfl rfl rfl ?_ | refine dL7 hS 24 rfl rfl rfl ?_ | refine dQ hS 24 rfl rfl ?_
                (try simp only [Act.put, nA, nB, nC])
                first | refine dP hS 25 rfl rfl ?_ | refine dQ hS 25 rfl rfl ?_
                (try simp only [Act.put, nA, nB, nC])
                first | refine dL1 hS 26 rfl rfl rfl rfl ?_ | refine dL2 hS 26 rfl rfl rfl rfl ?_ | refine dL3 hS 26 rfl rfl rfl ?_ | refine dL4 hS 26 rfl rfl rfl ?_ | refine dL5 hS 26 rfl rfl rfl ?_ | refine dL6 hS 26 rfl rfl rfl ?_ | refine dL7 hS 26 rfl rfl rfl ?_ | refine dQ hS 26 rfl rfl ?_
                (try simp only [Act.put, nA, nB, nC])
                first | refine dM hS 27 rfl rfl rfl ?_ | refine dQ hS 27 rfl rfl ?_
                (try simp only [Act.put, nA, nB, nC])
                first | refine dM hS 28 rfl rfl rfl ?_ | refine dQ hS 28 rfl rfl ?_
                (try simp only [Act.put, nA, nB, nC])
                first | refine dP hS 29 rfl rfl ?_ | refine dQ hS 29 rfl rfl ?_
                (try simp only [Act.put, nA, nB, nC])
                first | refine dP hS 30 rfl rfl ?_ | refine dQ hS 30 rfl rfl ?_
                (try simp only [Act.put, nA, nB, nC])
                first | refine dL1 hS 31 rfl rfl rfl rfl ?_ | refine dL2 hS 31 rfl rfl rfl rfl ?_ | refine dL3 hS 31 rfl rfl rfl ?_ | refine dL4 hS 31 rfl rfl rfl ?_ | refine dL5 hS 31 rfl rfl rfl ?_ | refine dL6 hS 31 rfl rfl rfl ?_ | refine dL7 hS 31 rfl rfl rfl ?_ | refine dQ hS 31 rfl rfl ?_
                (try simp only [Act.put, nA, nB, nC])
                first | refine dP hS 32 rfl rfl ?_ | refine dQ hS 32 rfl rfl ?_
                (try simp only [Act.put, nA, nB, nC])
                first | refine dP hS 33 rfl rfl ?_ | refine dQ hS 33 rfl rfl ?_
                (try simp only [Act.put, nA, nB, nC])
                first | refine dP hS 34 rfl rfl ?_ | refine dQ hS 34 rfl rfl ?_
                (try simp only [Act.put, nA, nB, nC])
                first | refine dP hS 35 rfl rfl ?_ | refine dQ hS 35 rfl rfl ?_
                (try simp only [Act.put, nA, nB, nC])
                refine dP hS 36 rfl rfl ?_
                (try simp only [Act.put, nA, nB, nC])
                refine dr_done (by kernel_rfl) ?_
                go_wp2_with fail
                go_meet
                exact ⟨rfl, hS.re⟩
            case rest =>
              clear hS e0 hfc hri hcq
              obtain ⟨rfl, hS⟩ := hcut
              go_wp2_with (first | (refine oL ?_; (first | refine sL1 hS rfl rfl rfl ?_ | refine sL2 hS rfl rfl rfl ?_ | refine sL3 hS rfl rfl ?_ | refine sL4 hS rfl rfl ?_ | refine sL5 hS rfl rfl ?_ | refine sL6 hS rfl rfl ?_ | refine sL7 hS rfl rfl ?_)) | (refine oS ?_; ((first | refine sS1 hS rfl rfl rfl ?_ | refine sS2 hS rfl rfl rfl ?_ | refine sS3 hS rfl rfl rfl ?_ | refine sS4 hS rfl rfl rfl ?_ | refine sS5 hS rfl rfl rfl ?_); clear hS; intro w hS)) | ((first | refine sN1 hS rfl ?_); clear hS; first | ((fail_if_success guard_hyp g1); intro g1 w hS) | ((fail_if_success guard_hyp g2); intro g2 w hS) | fail) | fail)
              go_loopw [101] (fun s101 wr => ∃ (m : Nat), m ≤ pts.length ∧ s101 = .int .i64 m ∧ St w0 NoM [row (.slice (some ⟨gp, 0, none⟩) pts.length cp) 37 2 pts.length (pts.flatMap ptCells), blk g1 [.slice A1 p.len.length c1, .slice A2 p.ck.length c2, .slice A3 p.arcs.length c3] 28, froz T u] wr) (fun s101 _ => pts.length - (intOf s101).toNat)
              case atStart => exact ⟨0, by omega, rfl, hS.re⟩
              case round =>
                obtain ⟨m, hm, rfl, hS⟩ := hrel
                by_cases hml : m < pts.length
                · have hml' : (m : Int) < pts.length := by omega
                  have HM := Lib.hid (And.intro (pt_at' hml) (HAP.out.1 _ (List.getElem_mem hml)))
                  generalize pts[m] = pm at *
                  obtain ⟨qm, km⟩ := pm
                  by_cases h2 : Hb p (qk, kk) (qm, km)
                  · have H2 := Lib.hid (And.intro h2 (Hb.trans HG.out HM.out.2 HX.out h2))
                    clear h2
                    go_wp2_with (first | (refine oL ?_; (first | refine sL1 hS rfl rfl rfl ?_ | refine sL2 hS rfl rfl rfl ?_ | refine sL3 hS rfl rfl ?_ | refine sL4 hS rfl rfl ?_ | refine sL5 hS rfl rfl ?_ | refine sL6 hS rfl rfl ?_ | refine sL7 hS rfl rfl ?_)) | (refine oS ?_; ((first | refine sS1 hS rfl rfl rfl ?_ | refine sS2 hS rfl rfl rfl ?_ | refine sS3 hS rfl rfl rfl ?_ | refine sS4 hS rfl rfl rfl ?_ | refine sS5 hS rfl rfl rfl ?_); clear hS; intro w hS)) | ((first | refine sN1 hS rfl ?_); clear hS; first | ((fail_if_success guard_hyp g1); intro g1 w hS) | ((fail_if_success guard_hyp g2); intro g2 w hS) | fail) | fail)
                    refine dr_start0 []  hS (by kernel_rfl) rfl ?_; clear hS; intro w hS
                    refine dM hS 0 rfl rfl rfl ?_
                    (try simp only [Act.put, nA, nB, nC])
                    refine dM hS 1 rfl rfl rfl ?_
                    (try simp only [Act.put, nA, nB, nC])
                    first | refine dL1 hS 2 rfl rfl rfl rfl ?_ | refine dL2 hS 2 rfl rfl rfl rfl ?_ | refine dL3 hS 2 rfl rfl rfl ?_ | refine dL4 hS 2 rfl rfl rfl ?_ | refine dL5 hS 2 rfl rfl rfl ?_ | refine dL6 hS 2 rfl rfl rfl ?_ | refine dL7 hS 2 rfl rfl rfl ?_ | refine dQ hS 2 rfl rfl ?_
                    (try simp only [Act.put, nA, nB, nC])
                    first | refine dM hS 3 rfl rfl rfl ?_ | refine dQ hS 3 rfl rfl ?_
                    (try simp only [Act.put, nA, nB, nC])
                    first | refine dM hS 4 rfl rfl rfl ?_ | refine dQ hS 4 rfl rfl ?_
                    (try simp only [Act.put, nA, nB, nC])
                    first | refine dP hS 5 rfl rfl ?_ | refine dQ hS 5 rfl rfl ?_
                    (try simp only [Act.put, nA, nB, nC])
                    first | refine dL8 hS 6 rfl rfl rfl HK.out.1 ?_ | refine dL1 hS 6 rfl rfl rfl rfl ?_ | refine dL2 hS 6 rfl rfl rfl rfl ?_ | refine dL3 hS 6 rfl rfl rfl ?_ | refine dL4 hS 6 rfl rfl rfl ?_ | refine dL5 hS 6 rfl rfl rfl ?_ | refine dL6 hS 6 rfl rfl rfl ?_ | refine dL7 hS 6 rfl rfl rfl ?_ | refine dQ hS 6 rfl rfl ?_
                    (try simp only [Act.put, nA, nB, nC])
                    first | refine dM hS 7 rfl rfl rfl ?_ | refine dQ hS 7 rfl rfl ?_
                    (try simp only [Act.put, nA, nB, nC])
                    first | refine dM hS 8 rfl rfl rfl ?_ | refine dQ hS 8 rfl rfl ?_
                    (try simp only [Act.put, nA, nB, nC])
                    first | refine dP hS 9 rfl rfl ?_ | refine dQ hS 9 rfl rfl ?_
                    (try simp only [Act.put, nA, nB, nC])
                    first | refine dL8 hS 10 rfl rfl rfl HM.out.1 ?_ | refine dL1 hS 10 rfl rfl rfl rfl ?_ | refine dL2 hS 10 rfl rfl rfl rfl ?_ | refine dL3 hS 10 rfl rfl rfl ?_ | refine dL4 hS 10 rfl rfl rfl ?_ | refine dL5 hS 10 rfl rfl rfl ?_ | refine dL6 hS 10 rfl rfl rfl ?_ | refine dL7 hS 10 rfl rfl rfl ?_ | refine dQ hS 10 rfl rfl ?_
                    (try simp only [Act.put, nA, nB, nC])
                    refine dr_one 11 (by kernel_rfl) rfl ?_
                    (refine st_call rfl (by kernel_rfl) rfl ?_; go_at_call 22; refine (before_n rfl rfl rfl rfl rfl (HPp.out.into (hS.intoK (T := T) (u := u))) HG.out HK.out.2 HM.out.2).mono ?_; rintro e w ⟨r, hr, rfl, hx1⟩; replace hS := hS.ext hx1; obtain rfl : r = true := befRes_true hr H2.out.1; clear hr)
                    (try simp only [Act.put, nA, nB, nC])
                    refine dr_end hS ?_
                    refine dP hS 12 rfl rfl ?_
                    (try simp only [Act.put, nA, nB, nC])
                    refine dM hS 13 rfl rfl rfl ?_
                    (try simp only [Act.put, nA, nB, nC])
                    first | refine dL1 hS 14 rfl rfl rfl rfl ?_ | refine dL2 hS 14 rfl rfl rfl rfl ?_ | refine dL3 hS 14 rfl rfl rfl ?_ | refine dL4 hS 14 rfl rfl rfl ?_ | refine dL5 hS 14 rfl rfl rfl ?_ | refine dL6 hS 14 rfl rfl rfl ?_ | refine dL7 hS 14 rfl rfl rfl ?_ | refine dQ hS 14 rfl rfl ?_
                    (try simp only [Act.put, nA, nB, nC])
                    first | refine dM hS 15 rfl rfl rfl ?_ | refine dQ hS 15 rfl rfl ?_
                    (try simp only [Act.put, nA, nB, nC])
                    first | refine dM hS 16 rfl rfl rfl ?_ | refine dQ hS 16 rfl rfl ?_
                    (try simp only [Act.put, nA, nB, nC])
                    first | refine dP hS 17 rfl rfl ?_ | refine dQ hS 17 rfl rfl ?_
                    (try simp only [Act.put, nA, nB, nC])
                    first | refine dL8 hS 18 rfl rfl rfl HI.out.1 ?_ | refine dL1 hS 18 rfl rfl rfl rfl ?_ | refine dL2 hS 18 rfl rfl rfl rfl ?_ | refine dL3 hS 18 rfl rfl rfl ?_ | refine dL4 hS 18 rfl rfl rfl ?_ | refine dL5 hS 18 rfl rfl rfl ?_ | refine dL6 hS 18 rfl rfl rfl ?_ | refine dL7 hS 18 rfl rfl rfl ?_ | refine dQ hS 18 rfl rfl ?_
                    (try simp only [Act.put, nA, nB, nC])
                    first | refine dM hS 19 rfl rfl rfl ?_ | refine dQ hS 19 rfl rfl ?_
                    (try simp only [Act.put, nA, nB, nC])
                    first | refine dM hS 20 rfl rfl rfl ?_ | refine dQ hS 20 rfl rfl ?_
                    (try simp only [Act.put, nA, nB, nC])
                    first | refine dP hS 21 rfl rfl ?_ | refine dQ hS 21 rfl rfl ?_
                    (try simp only [Act.put, nA, nB, nC])
                    first | refine dL8 hS 22 rfl rfl rfl HM.out.1 ?_ | refine dL1 hS 22 rfl rfl rfl rfl ?_ | refine dL2 hS 22 rfl rfl rfl rfl ?_ | refine dL3 hS 22 rfl rfl rfl ?_ | refine dL4 hS 22 rfl rfl rfl ?_ | refine dL5 hS 22 rfl rfl rfl ?_ | refine dL6 hS 22 rfl rfl rfl ?_ | refine dL7 hS 22 rfl rfl rfl ?_ | refine dQ hS 22 rfl rfl ?_
                    (try simp only [Act.put, nA, nB, nC])
                    refine dr_one 23 (by kernel_rfl) rfl ?_
                    (refine st_call rfl (by kernel_rfl) rfl ?_; go_at_call 22; refine (before_n rfl rfl rfl rfl rfl (HPp.out.into (hS.intoK (T := T) (u := u))) HG.out HI.out.2 HM.out.2).mono ?_; rintro e w ⟨r, hr, rfl, hx1⟩; replace hS := hS.ext hx1; obtain rfl : r = true := befRes_true hr H2.out.2; clear hr)
                    (try simp only [Act.put, nA, nB, nC])
                    refine dr_end hS ?_
                    first | refine dP hS 24 rfl rfl ?_ | refine dQ hS 24 rfl rfl ?_
                    (try simp only [Act.put, nA, nB, nC])
                    refine dP hS 25 rfl rfl ?_
                    (try simp only [Act.put, nA, nB, nC])
                    refine dr_done (by kernel_rfl) ?_
                    go_wp2_with (first | (refine oL ?_; (first | refine sL1 hS rfl rfl rfl ?_ | refine sL2 hS rfl rfl rfl ?_ | refine sL3 hS rfl rfl ?_ | refine sL4 hS rfl rfl ?_ | refine sL5 hS rfl rfl ?_ | refine sL6 hS rfl rfl ?_ | refine sL7 hS rfl rfl ?_)) | (refine oS ?_; ((first | refine sS1 hS rfl rfl rfl ?_ | refine sS2 hS rfl rfl rfl ?_ | refine sS3 hS rfl rfl rfl ?_ | refine sS4 hS rfl rfl rfl ?_ | refine sS5 hS rfl rfl rfl ?_); clear hS; intro w hS)) | ((first | refine sN1 hS rfl ?_); clear hS; first | ((fail_if_success guard_hyp g1); intro g1 w hS) | ((fail_if_success guard_hyp g2); intro g2 w hS) | fail) | fail)
                    go_roundw
                    case measure => simp [intOf]; omega
                    exact ⟨m + 1, by omega, by go_num, hS.re⟩
                  · have H2 := Lib.hid h2
                    clear h2
                    go_wp2_with (first | (refine oL ?_; (first | refine sL1 hS rfl rfl rfl ?_ | refine sL2 hS rfl rfl rfl ?_ | refine sL3 hS rfl rfl ?_ | refine sL4 hS rfl rfl ?_ | refine sL5 hS rfl rfl ?_ | refine sL6 hS rfl rfl ?_ | refine sL7 hS rfl rfl ?_)) | (refine oS ?_; ((first | refine sS1 hS rfl rfl rfl ?_ | refine sS2 hS rfl rfl rfl ?_ | refine sS3 hS rfl rfl rfl ?_ | refine sS4 hS rfl rfl rfl ?_ | refine sS5 hS rfl rfl rfl ?_); clear hS; intro w hS)) | ((first | refine sN1 hS rfl ?_); clear hS; first | ((fail_if_success guard_hyp g1); intro g1 w hS) | ((fail_if_success guard_hyp g2); intro g2 w hS) | fail) | fail)
                    refine dr_start0 []  hS (by kernel_rfl) rfl ?_; clear hS; intro w hS
                    refine dM hS 0 rfl rfl rfl ?_
                    (try simp only [Act.put, nA, nB, nC])
                    refine dM hS 1 rfl rfl rfl ?_
                    (try simp only [Act.put, nA, nB, nC])
                    first | refine dL1 hS 2 rfl rfl rfl rfl ?_ | refine dL2 hS 2 rfl rfl rfl rfl ?_ | refine dL3 hS 2 rfl rfl rfl ?_ | refine dL4 hS 2 rfl rfl rfl ?_ | refine dL5 hS 2 rfl rfl rfl ?_ | refine dL6 hS 2 rfl rfl rfl ?_ | refine dL7 hS 2 rfl rfl rfl ?_ | refine dQ hS 2 rfl rfl ?_
                    (try simp only [Act.put, nA, nB, nC])
                    first | refine dM hS 3 rfl rfl rfl ?_ | refine dQ hS 3 rfl rfl ?_
                    (try simp only [Act.put, nA, nB, nC])
                    first | refine dM hS 4 rfl rfl rfl ?_ | refine dQ hS 4 rfl rfl ?_
                    (try simp only [Act.put, nA, nB, nC])
                    first | refine dP hS 5 rfl rfl ?_ | refine dQ hS 5 rfl rfl ?_
                    (try simp only [Act.put, nA, nB, nC])
                    first | refine dL8 hS 6 rfl rfl rfl HK.out.1 ?_ | refine dL1 hS 6 rfl rfl rfl rfl ?_ | refine dL2 hS 6 rfl rfl rfl rfl ?_ | refine dL3 hS 6 rfl rfl rfl ?_ | refine dL4 hS 6 rfl rfl rfl ?_ | refine dL5 hS 6 rfl rfl rfl ?_ | refine dL6 hS 6 rfl rfl rfl ?_ | refine dL7 hS 6 rfl rfl rfl ?_ | refine dQ hS 6 rfl rfl ?_
                    (try simp only [Act.put, nA, nB, nC])
                    first | refine dM hS 7 rfl rfl rfl ?_ | refine dQ hS 7 rfl rfl ?_
                    (try simp only [Act.put, nA, nB, nC])
                    first | refine dM hS 8 rfl rfl rfl ?_ | refine dQ hS 8 rfl rfl ?_
                    (try simp only [Act.put, nA, nB, nC])
                    first | refine dP hS 9 rfl rfl ?_ | refine dQ hS 9 rfl rfl ?_
                    (try simp only [Act.put, nA, nB, nC])
                    first | refine dL8 hS 10 rfl rfl rfl HM.out.1 ?_ | refine dL1 hS 10 rfl rfl rfl rfl ?_ | refine dL2 hS 10 rfl rfl rfl rfl ?_ | refine dL3 hS 10 rfl rfl rfl ?_ | refine dL4 hS 10 rfl rfl rfl ?_ | refine dL5 hS 10 rfl rfl rfl ?_ | refine dL6 hS 10 rfl rfl rfl ?_ | refine dL7 hS 10 rfl rfl rfl ?_ | refine dQ hS 10 rfl rfl ?_
                    (try simp only [Act.put, nA, nB, nC])
                    refine dr_one 11 (by kernel_rfl) rfl ?_
                    (refine st_call rfl (by kernel_rfl) rfl ?_; go_at_call 22; refine (before_n rfl rfl rfl rfl rfl (HPp.out.into (hS.intoK (T := T) (u := u))) HG.out HK.out.2 HM.out.2).mono ?_; rintro e w ⟨r, hr, rfl, hx1⟩; replace hS := hS.ext hx1; obtain rfl : r = false := befRes_false hr H2.out; clear hr)
                    (try simp only [Act.put, nA, nB, nC])
                    refine dr_end hS ?_
                    refine dP hS 12 rfl rfl ?_
                    (try simp only [Act.put, nA, nB, nC])
                    refine dM hS 13 rfl rfl rfl ?_
                    (try simp only [Act.put, nA, nB, nC])
                    first | refine dL1 hS 14 rfl rfl rfl rfl ?_ | refine dL2 hS 14 rfl rfl rfl rfl ?_ | refine dL3 hS 14 rfl rfl rfl ?_ | refine dL4 hS 14 rfl rfl rfl ?_ | refine dL5 hS 14 rfl rfl rfl ?_ | refine dL6 hS 14 rfl rfl rfl ?_ | refine dL7 hS 14 rfl rfl rfl ?_ | refine dQ hS 14 rfl rfl ?_
                    (try simp only [Act.put, nA, nB, nC])
                    first | refine dM hS 15 rfl rfl rfl ?_ | refine dQ hS 15 rfl rfl ?_
                    (try simp only [Act.put, nA, nB, nC])
                    first | refine dM hS 16 rfl rfl rfl ?_ | refine dQ hS 16 rfl rfl ?_
                    (try simp only [Act.put, nA, nB, nC])
                    first | refine dP hS 17 rfl rfl ?_ | refine dQ hS 17 rfl rfl ?_
                    (try simp only [Act.put, nA, nB, nC])
                    first | refine dL1 hS 18 rfl rfl rfl rfl ?_ | refine dL2 hS 18 rfl rfl rfl rfl ?_ | refine dL3 hS 18 rfl rfl rfl ?_ | refine dL4 hS 18 rfl rfl rfl ?_ | refine dL5 hS 18 rfl rfl rfl ?_ | refine dL6 hS 18 rfl rfl rfl ?_ | refine dL7 hS 18 rfl rfl rfl ?_ | refine dQ hS 18 rfl rfl ?_
                    (try simp only [Act.put, nA, nB, nC])
                    first | refine dM hS 19 rfl rfl rfl ?_ | refine dQ hS 19 rfl rfl ?_
                    (try simp only [Act.put, nA, nB, nC])
                    first | refine dM hS 20 rfl rfl rfl ?_ | refine dQ hS 20 rfl rfl ?_
                    (try simp only [Act.put, nA, nB, nC])
                    first | refine dP hS 21 rfl rfl ?_ | refine dQ hS 21 rfl rfl ?_
                    (try simp only [Act.put, nA, nB, nC])
                    first | refine dL1 hS 22 rfl rfl rfl rfl ?_ | refine dL2 hS 22 rfl rfl rfl rfl ?_ | refine dL3 hS 22 rfl rfl rfl ?_ | refine dL4 hS 22 rfl rfl rfl ?_ | refine dL5 hS 22 rfl rfl rfl ?_ | refine dL6 hS 22 rfl rfl rfl ?_ | refine dL7 hS 22 rfl rfl rfl ?_ | refine dQ hS 22 rfl rfl ?_
                    (try simp only [Act.put, nA, nB, nC])
                    refine dr_one 23 (by kernel_rfl) rfl ?_
                    refine lS rfl ?_
                    (try simp only [Act.put, nA, nB, nC])
                    refine dr_end hS ?_
                    first | refine dP hS 24 rfl rfl ?_ | refine dQ hS 24 rfl rfl ?_
                    (try simp only [Act.put, nA, nB, nC])
                    refine dP hS 25 rfl rfl ?_
                    (try simp only [Act.put, nA, nB, nC])
                    refine dr_done (by kernel_rfl) ?_
                    go_wp2_with (first | (refine oL ?_; (first | refine sL1 hS rfl rfl rfl ?_ | refine sL2 hS rfl rfl rfl ?_ | refine sL3 hS rfl rfl ?_ | refine sL4 hS rfl rfl ?_ | refine sL5 hS rfl rfl ?_ | refine sL6 hS rfl rfl ?_ | refine sL7 hS rfl rfl ?_)) | (refine oS ?_; ((first | refine sS1 hS rfl rfl rfl ?_ | refine sS2 hS rfl rfl rfl ?_ | refine sS3 hS rfl rfl rfl ?_ | refine sS4 hS rfl rfl rfl ?_ | refine sS5 hS rfl rfl rfl ?_); clear hS; intro w hS)) | ((first | refine sN1 hS rfl ?_); clear hS; first | ((fail_if_success guard_hyp g1); intro g1 w hS) | ((fail_if_success guard_hyp g2); intro g2 w hS) | fail) | fail)
                    go_roundw
                    case measure => simp [intOf]; omega
                    exact ⟨m + 1, by omega, by go_num, hS.re⟩
                · go_wp2_with (first | (refine oL ?_; (first | refine sL1 hS rfl rfl rfl ?_ | refine sL2 hS rfl rfl rfl ?_ | refine sL3 hS rfl rfl ?_ | refine sL4 hS rfl rfl ?_ | refine sL5 hS rfl rfl ?_ | refine sL6 hS rfl rfl ?_ | refine sL7 hS rfl rfl ?_)) | (refine oS ?_; ((first | refine sS1 hS rfl rfl rfl ?_ | refine sS2 hS rfl rfl rfl ?_ | refine sS3 hS rfl rfl rfl ?_ | refine sS4 hS rfl rfl rfl ?_ | refine sS5 hS rfl rfl rfl ?_); clear hS; intro w hS)) | ((first | refine sN1 hS rfl ?_); clear hS; first | ((fail_if_success guard_hyp g1); intro g1 w hS) | ((fail_if_success guard_hyp g2); intro g2 w hS) | fail) | fail)
                  go_roundw
                  case measure => simp [intOf]; omega
                  exact ⟨k + 1, by omega, by go_num, hS.re⟩
          · have HX := Lib.hid hx
            clear hx
            go_wp2_with (first | (refine oL ?_; (first | refine sL1 hS rfl rfl rfl ?_ | refine sL2 hS rfl rfl rfl ?_ | refine sL3 hS rfl rfl ?_ | refine sL4 hS rfl rfl ?_ | refine sL5 hS rfl rfl ?_ | refine sL6 hS rfl rfl ?_ | refine sL7 hS rfl rfl ?_)) | (refine oS ?_; ((first | refine sS1 hS rfl rfl rfl ?_ | refine sS2 hS rfl rfl rfl ?_ | refine sS3 hS rfl rfl rfl ?_ | refine sS4 hS rfl rfl rfl ?_ | refine sS5 hS rfl rfl rfl ?_); clear hS; intro w hS)) | ((first | refine sN1 hS rfl ?_); clear hS; first | ((fail_if_success guard_hyp g1); intro g1 w hS) | ((fail_if_success guard_hyp g2); intro g2 w hS) | fail) | fail)
            refine dr_start0 []  hS (by kernel_rfl) rfl ?_; clear hS; intro w hS
            first | refine dL1 hS 0 rfl rfl rfl rfl ?_ | refine dL2 hS 0 rfl rfl rfl rfl ?_ | refine dL3 hS 0 rfl rfl rfl ?_ | refine dL4 hS 0 rfl rfl rfl ?_ | refine dL5 hS 0 rfl rfl rfl ?_ | refine dL6 hS 0 rfl rfl rfl ?_ | refine dL7 hS 0 rfl rfl rfl ?_
            (try simp only [Act.put, nA, nB, nC])
            refine dM hS 1 rfl rfl rfl ?_
            (try simp only [Act.put, nA, nB, nC])
            refine dM hS 2 rfl rfl rfl ?_
            (try simp only [Act.put, nA, nB, nC])
            refine dP hS 3 rfl rfl ?_
            (try simp only [Act.put, nA, nB, nC])
            first | refine dL8 hS 4 rfl rfl rfl HI.out.1 ?_ | refine dL1 hS 4 rfl rfl rfl rfl ?_ | refine dL2 hS 4 rfl rfl rfl rfl ?_ | refine dL3 hS 4 rfl rfl rfl ?_ | refine dL4 hS 4 rfl rfl rfl ?_ | refine dL5 hS 4 rfl rfl rfl ?_ | refine dL6 hS 4 rfl rfl rfl ?_ | refine dL7 hS 4 rfl rfl rfl ?_
            (try simp only [Act.put, nA, nB, nC])
            refine dM hS 5 rfl rfl rfl ?_
            (try simp only [Act.put, nA, nB, nC])
            refine dM hS 6 rfl rfl rfl ?_
            (try simp only [Act.put, nA, nB, nC])
            refine dP hS 7 rfl rfl ?_
            (try simp only [Act.put, nA, nB, nC])
            first | refine dL8 hS 8 rfl rfl rfl HK.out.1 ?_ | refine dL1 hS 8 rfl rfl rfl rfl ?_ | refine dL2 hS 8 rfl rfl rfl rfl ?_ | refine dL3 hS 8 rfl rfl rfl ?_ | refine dL4 hS 8 rfl rfl rfl ?_ | refine dL5 hS 8 rfl rfl rfl ?_ | refine dL6 hS 8 rfl rfl rfl ?_ | refine dL7 hS 8 rfl rfl rfl ?_
            (try simp only [Act.put, nA, nB, nC])
            refine dr_one 9 (by kernel_rfl) rfl ?_
            (refine st_call rfl (by kernel_rfl) rfl ?_; go_at_call 22; refine (before_n rfl rfl rfl rfl rfl (HPp.out.into (hS.intoK (T := T) (u := u))) HG.out HI.out.2 HK.out.2).mono ?_; rintro e w ⟨r, hr, rfl, hx1⟩; replace hS := hS.ext hx1; obtain rfl : r = false := befRes_false hr HX.out; clear hr)
            (try simp only [Act.put, nA, nB, nC])
            refine dr_end hS ?_
            refine dA hS 10 rfl rfl rfl ?_
            (try simp only [Act.put, nA, nB, nC])
            refine dr_done (by kernel_rfl) ?_
            go_wp2_with (first | (refine oL ?_; (first | refine sL1 hS rfl rfl rfl ?_ | refine sL2 hS rfl rfl rfl ?_ | refine sL3 hS rfl rfl ?_ | refine sL4 hS rfl rfl ?_ | refine sL5 hS rfl rfl ?_ | refine sL6 hS rfl rfl ?_ | refine sL7 hS rfl rfl ?_)) | (refine oS ?_; ((first | refine sS1 hS rfl rfl rfl ?_ | refine sS2 hS rfl rfl rfl ?_ | refine sS3 hS rfl rfl rfl ?_ | refine sS4 hS rfl rfl rfl ?_ | refine sS5 hS rfl rfl rfl ?_); clear hS; intro w hS)) | ((first | refine sN1 hS rfl ?_); clear hS; first | ((fail_if_success guard_hyp g1); intro g1 w hS) | ((fail_if_success guard_hyp g2); intro g2 w hS) | fail) | fail)
            refine dr_start0 []  hS (by kernel_rfl) rfl ?_; clear hS; intro w hS
            refine dM hS 0 rfl rfl rfl ?_
            (try simp only [Act.put, nA, nB, nC])
            refine dM hS 1 rfl rfl rfl ?_
            (try simp only [Act.put, nA, nB, nC])
            first | refine dL1 hS 2 rfl rfl rfl rfl ?_ | refine dL2 hS 2 rfl rfl rfl rfl ?_ | refine dL3 hS 2 rfl rfl rfl ?_ | refine dL4 hS 2 rfl rfl rfl ?_ | refine dL5 hS 2 rfl rfl rfl ?_ | refine dL6 hS 2 rfl rfl rfl ?_ | refine dL7 hS 2 rfl rfl rfl ?_ | refine dQ hS 2 rfl rfl ?_
            (try simp only [Act.put, nA, nB, nC])
            first | refine dM hS 3 rfl rfl rfl ?_ | refine dQ hS 3 rfl rfl ?_
            (try simp only [Act.put, nA, nB, nC])
            first | refine dM hS 4 rfl rfl rfl ?_ | refine dQ hS 4 rfl rfl ?_
            (try simp only [Act.put, nA, nB, nC])
            first | refine dP hS 5 rfl rfl ?_ | refine dQ hS 5 rfl rfl ?_
            (try simp only [Act.put, nA, nB, nC])
            first | refine dL1 hS 6 rfl rfl rfl rfl ?_ | refine dL2 hS 6 rfl rfl rfl rfl ?_ | refine dL3 hS 6 rfl rfl rfl ?_ | refine dL4 hS 6 rfl rfl rfl ?_ | refine dL5 hS 6 rfl rfl rfl ?_ | refine dL6 hS 6 rfl rfl rfl ?_ | refine dL7 hS 6 rfl rfl rfl ?_ | refine dQ hS 6 rfl rfl ?_
            (try simp only [Act.put, nA, nB, nC])
            first | refine dM hS 7 rfl rfl rfl ?_ | refine dQ hS 7 rfl rfl ?_
            (try simp only [Act.put, nA, nB, nC])
            first | refine dM hS 8 rfl rfl rfl ?_ | refine dQ hS 8 rfl rfl ?_
            (try simp only [Act.put, nA, nB, nC])
            first | refine dP hS 9 rfl rfl ?_ | refine dQ hS 9 rfl rfl ?_
            (try simp only [Act.put, nA, nB, nC])
            first | refine dL1 hS 10 rfl rfl rfl rfl ?_ | refine dL2 hS 10 rfl rfl rfl rfl ?_ | refine dL3 hS 10 rfl rfl rfl ?_ | refine dL4 hS 10 rfl rfl rfl ?_ | refine dL5 hS 10 rfl rfl rfl ?_ | refine dL6 hS 10 rfl rfl rfl ?_ | refine dL7 hS 10 rfl rfl rfl ?_ | refine dQ hS 10 rfl rfl ?_
            (try simp only [Act.put, nA, nB, nC])
            refine dr_one 11 (by kernel_rfl) rfl ?_
            refine lS rfl ?_
            (try simp only [Act.put, nA, nB, nC])
            refine dr_end hS ?_
            refine dP hS 12 rfl rfl ?_
            (try simp only [Act.put, nA, nB, nC])
            refine dr_done (by kernel_rfl) ?_
            go_wp2_with (first | (refine oL ?_; (first | refine sL1 hS rfl rfl rfl ?_ | refine sL2 hS rfl rfl rfl ?_ | refine sL3 hS rfl rfl ?_ | refine sL4 hS rfl rfl ?_ | refine sL5 hS rfl rfl ?_ | refine sL6 hS rfl rfl ?_ | refine sL7 hS rfl rfl ?_)) | (refine oS ?_; ((first | refine sS1 hS rfl rfl rfl ?_ | refine sS2 hS rfl rfl rfl ?_ | refine sS3 hS rfl rfl rfl ?_ | refine sS4 hS rfl rfl rfl ?_ | refine sS5 hS rfl rfl rfl ?_); clear hS; intro w hS)) | ((first | refine sN1 hS rfl ?_); clear hS; first | ((fail_if_success guard_hyp g1); intro g1 w hS) | ((fail_if_success guard_hyp g2); intro g2 w hS) | fail) | fail)
            refine dr_start0 []  hS (by kernel_rfl) rfl ?_; clear hS; intro w hS
            first | refine dL1 hS 0 rfl rfl rfl rfl ?_ | refine dL2 hS 0 rfl rfl rfl rfl ?_ | refine dL3 hS 0 rfl rfl rfl ?_ | refine dL4 hS 0 rfl rfl rfl ?_ | refine dL5 hS 0 rfl rfl rfl ?_ | refine dL6 hS 0 rfl rfl rfl ?_ | refine dL7 hS 0 rfl rfl rfl ?_
            (try simp only [Act.put, nA, nB, nC])
            refine dM hS 1 rfl rfl rfl ?_
            (try simp only [Act.put, nA, nB, nC])
            refine dM hS 2 rfl rfl rfl ?_
            (try simp only [Act.put, nA, nB, nC])
            refine dP hS 3 rfl rfl ?_
            (try simp only [Act.put, nA, nB, nC])
            refine dP hS 4 rfl rfl ?_
            (try simp only [Act.put, nA, nB, nC])
            first | refine dL1 hS 5 rfl rfl rfl rfl ?_ | refine dL2 hS 5 rfl rfl rfl rfl ?_ | refine dL3 hS 5 rfl rfl rfl ?_ | refine dL4 hS 5 rfl rfl rfl ?_ | refine dL5 hS 5 rfl rfl rfl ?_ | refine dL6 hS 5 rfl rfl rfl ?_ | refine dL7 hS 5 rfl rfl rfl ?_
            (try simp only [Act.put, nA, nB, nC])
            refine dM hS 6 rfl rfl rfl ?_
            (try simp only [Act.put, nA, nB, nC])
            refine dM hS 7 rfl rfl rfl ?_
            (try simp only [Act.put, nA, nB, nC])
            refine dP hS 8 rfl rfl ?_
            (try simp only [Act.put, nA, nB, nC])
            refine dP hS 9 rfl rfl ?_
            (try simp only [Act.put, nA, nB, nC])
            first | refine dL1 hS 10 rfl rfl rfl rfl ?_ | refine dL2 hS 10 rfl rfl rfl rfl ?_ | refine dL3 hS 10 rfl rfl rfl ?_ | refine dL4 hS 10 rfl rfl rfl ?_ | refine dL5 hS 10 rfl rfl rfl ?_ | refine dL6 hS 10 rfl rfl rfl ?_ | refine dL7 hS 10 rfl rfl rfl ?_
            (try simp only [Act.put, nA, nB, nC])
            refine dr_one 11 (by kernel_rfl) rfl ?_
            (refine st_call rfl (by kernel_rfl) rfl ?_; go_at_call 20; refine (clock17_n rfl rfl rfl rfl (HPp.out.into hS.frozInto) HG.out HK.out.2).mono ?_; rintro e u2 ⟨L, cap, c, rfl, hclk, hcl, hri, hcap, hx1⟩; replace hS := hS.frozNew hx1; have HC := Lib.hid hclk; have HCL := Lib.hid hcl; obtain ⟨N1, hN1⟩ : ∃ N : Nat → Prop, N = fun k => w.heap.size ≤ k ∧ k < u2.heap.size := ⟨_, rfl⟩; rw [← hN1] at hS hri; clear hN1 hclk hcl)
            (try simp only [Act.put, nA, nB, nC])
            refine dr_end hS ?_
            refine dA hS 12 rfl rfl rfl ?_
            (try simp only [Act.put, nA, nB, nC])
            refine dr_done (by kernel_rfl) ?_
            obtain ⟨bc, oc, rfl, hfc⟩ := hri.fc (k := qi) (by rw [HCL.out]; exact hqi)
            have HCK := Lib.hid (fun h0 => Hb.clk HG.out HI.out.2 HK.out.2 HC.out (a := (qi, ki)) (b := (qk, kk)) h0)
            simp only at HCK
            generalize hcq : nth c qi = cq at *
            have e0 : ((p.len.length : Int) != (p.len.length : Int)) = false := by simp
            go_upto_region 15 with (first | (refine oL ?_; (first | refine sL1 hS rfl rfl rfl ?_ | refine sL2 hS rfl rfl rfl ?_ | refine sL3 hS rfl rfl ?_ | refine sL4 hS rfl rfl ?_ | refine sL5 hS rfl rfl ?_ | refine sL6 hS rfl rfl ?_ | refine sL7 hS rfl rfl ?_)) | (refine oS ?_; ((first | refine sS1 hS rfl rfl rfl ?_ | refine sS2 hS rfl rfl rfl ?_ | refine sS3 hS rfl rfl rfl ?_ | refine sS4 hS rfl rfl rfl ?_ | refine sS5 hS rfl rfl rfl ?_); clear hS; intro w hS)) | ((first | refine sN1 hS rfl ?_); clear hS; first | ((fail_if_success guard_hyp g1); intro g1 w hS) | ((fail_if_success guard_hyp g2); intro g2 w hS) | fail) | fail)
            try simp only [Act.put, nA, nB, nC]
            go_cut [98] (fun s98 wx => s98 = .bool false ∧ St w0 NoM [row (.slice (some ⟨gp, 0, none⟩) pts.length cp) 37 2 pts.length (pts.flatMap ptCells), blk g1 [.slice A1 p.len.length c1, .slice A2 p.ck.length c2, .slice A3 p.arcs.length c3] 28, froz T u] wx)
            case first =>
              by_cases hk0 : 0 < ki
              · have d1 : decide (0 < ki) = true := decide_eq_true hk0
                by_cases hik : i = k
                · clear hfk0 hfk1
                  subst hik
                  have e1 : ((i : Int) != (i : Int)) = false := by simp
                  refine dr_start0 []  hS (by kernel_rfl) rfl ?_; clear hS; intro w hS
                  refine dM hS 0 rfl rfl rfl ?_
                  (try simp only [Act.put, nA, nB, nC])
                  refine dP hS 1 rfl rfl ?_
                  (try simp only [Act.put, nA, nB, nC])
                  refine dP hS 2 rfl rfl ?_
                  (try simp only [Act.put, nA, nB, nC])
                  first | refine dL1 hS 3 rfl rfl rfl rfl ?_ | refine dL2 hS 3 rfl rfl rfl rfl ?_ | refine dL3 hS 3 rfl rfl rfl ?_ | refine dL4 hS 3 rfl rfl rfl ?_ | refine dL5 hS 3 rfl rfl rfl ?_ | refine dL6 hS 3 rfl rfl rfl ?_ | refine dL7 hS 3 rfl rfl rfl ?_
                  (try simp only [Act.put, nA, nB, nC])
                  refine dP hS 4 rfl rfl ?_
                  (try simp only [Act.put, nA, nB, nC])
                  refine dP hS 5 rfl rfl ?_
                  (try simp only [Act.put, nA, nB, nC])
                  refine dM hS 6 rfl rfl rfl ?_
                  (try simp only [Act.put, nA, nB, nC])
                  first | refine dM hS 7 rfl rfl rfl ?_ | refine dQ hS 7 rfl rfl ?_
                  (try simp only [Act.put, nA, nB, nC])
                  first | refine dM hS 8 rfl rfl rfl ?_ | refine dQ hS 8 rfl rfl ?_
                  (try simp only [Act.put, nA, nB, nC])
                  first | refine dP hS 9 rfl rfl ?_ | refine dQ hS 9 rfl rfl ?_
                  (try simp only [Act.put, nA, nB, nC])
                  first | refine dP hS 10 rfl rfl ?_ | refine dQ hS 10 rfl rfl ?_
                  (try simp only [Act.put, nA, nB, nC])
                  first | refine dL1 hS 11 rfl rfl rfl rfl ?_ | refine dL2 hS 11 rfl rfl rfl rfl ?_ | refine dL3 hS 11 rfl rfl rfl ?_ | refine dL4 hS 11 rfl rfl rfl ?_ | refine dL5 hS 11 rfl rfl rfl ?_ | refine dL6 hS 11 rfl rfl rfl ?_ | refine dL7 hS 11 rfl rfl rfl ?_ | refine dQ hS 11 rfl rfl ?_
                  (try simp only [Act.put, nA, nB, nC])
                  first | refine dP hS 12 rfl rfl ?_ | refine dQ hS 12 rfl rfl ?_
                  (try simp only [Act.put, nA, nB, nC])
                  first | refine dM hS 13 rfl rfl rfl ?_ | refine dQ hS 13 rfl rfl ?_
                  (try simp only [Act.put, nA, nB, nC])
                  first | refine dM hS 14 rfl rfl rfl ?_ | refine dQ hS 14 rfl rfl ?_
                  (try simp only [Act.put, nA, nB, nC])
                  first | refine dM hS 15 rfl rfl rfl ?_ | refine dQ hS 15 rfl rfl ?_
                  (try simp only [Act.put, nA, nB, nC])
                  first | refine dM hS 16 rfl rfl rfl ?_ | refine dQ hS 16 rfl rfl ?_
                  (try simp only [Act.put, nA, nB, nC])
                  first | refine dP hS 17 rfl rfl ?_ | refine dQ hS 17 rfl rfl ?_
                  (try simp only [Act.put, nA, nB, nC])
                  first | refine dM hS 18 rfl rfl rfl ?_ | refine dQ hS 18 rfl rfl ?_
                  (try simp only [Act.put, nA, nB, nC])
                  first | refine dM hS 19 rfl rfl rfl ?_ | refine dQ hS 19 rfl rfl ?_
                  (try simp only [Act.put, nA, nB, nC])
                  first | refine dM hS 20 rfl rfl rfl ?_ | refine dQ hS 20 rfl rfl ?_
                  (try simp only [Act.put, nA, nB, nC])
                  first | refine dM hS 21 rfl rfl rfl ?_ | refine dQ hS 21 rfl rfl ?_
                  (try simp only [Act.put, nA, nB, nC])
                  first | refine dP hS 22 rfl rfl ?_ | refine dQ hS 22 rfl rfl ?_
                  (try simp only [Act.put, nA, nB, nC])
                  first | refine dP hS 23 rfl rfl ?_ | refine dQ hS 23 rfl rfl ?_
                  (try simp only [Act.put, nA, nB, nC])
                  first | refine dL1 hS 24 rfl rfl rfl rfl ?_ | refine dL2 hS 24 rfl rfl rfl rfl ?_ | refine dL3 hS 24 rfl rfl rfl ?_ | refine dL4 hS 24 rfl rfl rfl ?_ | refine dL5 hS 24 rfl rfl rfl ?_ | refine dL6 hS 24 rfl rfl rfl ?_ | refine dL7 hS 24 rfl rfl rfl ?_ | refine dQ hS 24 rfl rfl ?_
                  (try simp only [Act.put, nA, nB, nC])
                  first | refine dP hS 25 rfl rfl ?_ | refine dQ hS 25 rfl rfl ?_
                  (try simp only [Act.put, nA, nB, nC])
                  first | refine dL1 hS 26 rfl rfl rfl rfl ?_ | refine dL2 hS 26 rfl rfl rfl rfl ?_ | refine dL3 hS 26 rfl rfl rfl ?_ | refine dL4 hS 26 rfl rfl rfl ?_ | refine dL5 hS 26 rfl rfl rfl ?_ | refine dL6 hS 26 rfl rfl rfl ?_ | refine dL7 hS 26 rfl rfl rfl ?_ | refine dQ hS 26 rfl rfl ?_
                  (try simp only [Act.put, nA, nB, nC])
                  first | refine dM hS 27 rfl rfl rfl ?_ | refine dQ hS 27 rfl rfl ?_
                  (try simp only [Act.put, nA, nB, nC])
                  first | refine dM hS 28 rfl rfl rfl ?_ | refine dQ hS 28 rfl rfl ?_
                  (try simp only [Act.put, nA, nB, nC])
                  first | refine dP hS 29 rfl rfl ?_ | refine dQ hS 29 rfl rfl ?_
                  (try simp only [Act.put, nA, nB, nC])
                  first | refine dP hS 30 rfl rfl ?_ | refine dQ hS 30 rfl rfl ?_
                  (try simp only [Act.put, nA, nB, nC])
                  first | refine dL1 hS 31 rfl rfl rfl rfl ?_ | refine dL2 hS 31 rfl rfl rfl rfl ?_ | refine dL3 hS 31 rfl rfl rfl ?_ | refine dL4 hS 31 rfl rfl rfl ?_ | refine dL5 hS 31 rfl rfl rfl ?_ | refine dL6 hS 31 rfl rfl rfl ?_ | refine dL7 hS 31 rfl rfl rfl ?_ | refine dQ hS 31 rfl rfl ?_
                  (try simp only [Act.put, nA, nB, nC])
                  first | refine dP hS 32 rfl rfl ?_ | refine dQ hS 32 rfl rfl ?_
                  (try simp only [Act.put, nA, nB, nC])
                  first | refine dP hS 33 rfl rfl ?_ | refine dQ hS 33 rfl rfl ?_
                  (try simp only [Act.put, nA, nB, nC])
                  first | refine dP hS 34 rfl rfl ?_ | refine dQ hS 34 rfl rfl ?_
                  (try simp only [Act.put, nA, nB, nC])
                  first | refine dP hS 35 rfl rfl ?_ | refine dQ hS 35 rfl rfl ?_
                  (try simp only [Act.put, nA, nB, nC])
                  refine dP hS 36 rfl rfl ?_
                  (try simp only [Act.put, nA, nB, nC])
                  refine dr_done (by kernel_rfl) ?_
                  go_wp2_with fail
                  go_meet
                  exact ⟨rfl, hS.re⟩
                · have e1 : ((i : Int) != (k : Int)) = true := by simp; omega
                  have hge : ¬ ki ≤ cq := fun h => HX.out ((HCK.out hk0).2 ⟨fun e => hik (HE.out.1 e), h⟩)
                  have d2 : decide (ki ≤ cq) = false := decide_eq_false hge
                  clear hik hge hcq
                  refine dr_start0 []  hS (by kernel_rfl) rfl ?_; clear hS; intro w hS
                  refine dM hS 0 rfl rfl rfl ?_
                  (try simp only [Act.put, nA, nB, nC])
                  refine dP hS 1 rfl rfl ?_
                  (try simp only [Act.put, nA, nB, nC])
                  refine dP hS 2 rfl rfl ?_
                  (try simp only [Act.put, nA, nB, nC])
                  first | refine dL1 hS 3 rfl rfl rfl rfl ?_ | refine dL2 hS 3 rfl rfl rfl rfl ?_ | refine dL3 hS 3 rfl rfl rfl ?_ | refine dL4 hS 3 rfl rfl rfl ?_ | refine dL5 hS 3 rfl rfl rfl ?_ | refine dL6 hS 3 rfl rfl rfl ?_ | refine dL7 hS 3 rfl rfl rfl ?_
                  (try simp only [Act.put, nA, nB, nC])
                  refine dP hS 4 rfl rfl ?_
                  (try simp only [Act.put, nA, nB, nC])
                  refine dP hS 5 rfl rfl ?_
                  (try simp only [Act.put, nA, nB, nC])
                  refine dM hS 6 rfl rfl rfl ?_
                  (try simp only [Act.put, nA, nB, nC])
                  first | refine dM hS 7 rfl rfl rfl ?_ | refine dQ hS 7 rfl rfl ?_
                  (try simp only [Act.put, nA, nB, nC])
                  first | refine dM hS 8 rfl rfl rfl ?_ | refine dQ hS 8 rfl rfl ?_
                  (try simp only [Act.put, nA, nB, nC])
                  first | refine dP hS 9 rfl rfl ?_ | refine dQ hS 9 rfl rfl ?_
                  (try simp only [Act.put, nA, nB, nC])
                  first | refine dP hS 10 rfl rfl ?_ | refine dQ hS 10 rfl rfl ?_
                  (try simp only [Act.put, nA, nB, nC])
                  first | refine dL1 hS 11 rfl rfl rfl rfl ?_ | refine dL2 hS 11 rfl rfl rfl rfl ?_ | refine dL3 hS 11 rfl rfl rfl ?_ | refine dL4 hS 11 rfl rfl rfl ?_ | refine dL5 hS 11 rfl rfl rfl ?_ | refine dL6 hS 11 rfl rfl rfl ?_ | refine dL7 hS 11 rfl rfl rfl ?_ | refine dQ hS 11 rfl rfl ?_
                  (try simp only [Act.put, nA, nB, nC])
                  first | refine dP hS 12 rfl rfl ?_ | refine dQ hS 12 rfl rfl ?_
                  (try simp only [Act.put, nA, nB, nC])
                  first | refine dM hS 13 rfl rfl rfl ?_ | refine dQ hS 13 rfl rfl ?_
                  (try simp only [Act.put, nA, nB, nC])
                  first | refine dM hS 14 rfl rfl rfl ?_ | refine dQ hS 14 rfl rfl ?_
                  (try simp only [Act.put, nA, nB, nC])
                  first | refine dM hS 15 rfl rfl rfl ?_ | refine dQ hS 15 rfl rfl ?_
                  (try simp only [Act.put, nA, nB, nC])
                  first | refine dM hS 16 rfl rfl rfl ?_ | refine dQ hS 16 rfl rfl ?_
                  (try simp only [Act.put, nA, nB, nC])
                  first | refine dP hS 17 rfl rfl ?_ | refine dQ hS 17 rfl rfl ?_
                  (try simp only [Act.put, nA, nB, nC])
                  first | refine dM hS 18 rfl rfl rfl ?_ | refine dQ hS 18 rfl rfl ?_
                  (try simp only [Act.put, nA, nB, nC])
                  first | refine dM hS 19 rfl rfl rfl ?_ | refine dQ hS 19 rfl rfl ?_
                  (try simp only [Act.put, nA, nB, nC])
                  first | refine dM hS 20 rfl rfl rfl ?_ | refine dQ hS 20 rfl rfl ?_
                  (try simp only [Act.put, nA, nB, nC])
                  first | refine dM hS 21 rfl rfl rfl ?_ | refine dQ hS 21 rfl rfl ?_
                  (try simp only [Act.put, nA, nB, nC])
                  first | refine dP hS 22 rfl rfl ?_ | refine dQ hS 22 rfl rfl ?_
                  (try simp only [Act.put, nA, nB, nC])
                  first | refine dP hS 23 rfl rfl ?_ | refine dQ hS 23 rfl rfl ?_
                  (try simp only [Act.put, nA, nB, nC])
                  first | refine dL1 hS 24 rfl rfl rfl rfl ?_ | refine dL2 hS 24 rfl rfl rfl rfl ?_ | refine dL3 hS 24 rfl rfl rfl ?_ | refine dL4 hS 24 rfl rfl rfl ?_ | refine dL5 hS 24 rfl rfl rfl ?_ | refine dL6 hS 24 rfl rfl rfl ?_ | refine dL7 hS 24 rfl rfl rfl ?_ | refine dQ hS 24 rfl rfl ?_
                  (try simp only [Act.put, nA, nB, nC])
                  first | refine dP hS 25 rfl rfl ?_ | refine dQ hS 25 rfl rfl ?_
                  (try simp only [Act.put, nA, nB, nC])
                  first | refine dL1 hS 26 rfl rfl rfl rfl ?_ | refine dL2 hS 26 rfl rfl rfl rfl ?_ | refine dL3 hS 26 rfl rfl rfl ?_ | refine dL4 hS 26 rfl rfl rfl ?_ | refine dL5 hS 26 rfl rfl rfl ?_ | refine dL6 hS 26 rfl rfl rfl ?_ | refine dL7 hS 26 rfl rfl rfl ?_ | refine dQ hS 26 rfl rfl ?_
                  (try simp only [Act.put, nA, nB, nC])
                  first | refine dM hS 27 rfl rfl rfl ?_ | refine dQ hS 27 rfl rfl ?_
                  (try simp only [Act.put, nA, nB, nC])
                  first | refine dM hS 28 rfl rfl rfl ?_ | refine dQ hS 28 rfl rfl ?_
                  (try simp only [Act.put, nA, nB, nC])
                  first | refine dP hS 29 rfl rfl ?_ | refine dQ hS 29 rfl rfl ?_
                  (try simp only [Act.put, nA, nB, nC])
                  first | refine dP hS 30 rfl rfl ?_ | refine dQ hS 30 rfl rfl ?_
                  (try simp only [Act.put, nA, nB, nC])
                  first | refine dL1 hS 31 rfl rfl rfl rfl ?_ | refine dL2 hS 31 rfl rfl rfl rfl ?_ | refine dL3 hS 31 rfl rfl rfl ?_ | refine dL4 hS 31 rfl rfl rfl ?_ | refine dL5 hS 31 rfl rfl rfl ?_ | refine dL6 hS 31 rfl rfl rfl ?_ | refine dL7 hS 31 rfl rfl rfl ?_ | refine dQ hS 31 rfl rfl ?_
                  (try simp only [Act.put, nA, nB, nC])
                  first | refine dP hS 32 rfl rfl ?_ | refine dQ hS 32 rfl rfl ?_
                  (try simp only [Act.put, nA, nB, nC])
                  first | refine dP hS 33 rfl rfl ?_ | refine dQ hS 33 rfl rfl ?_
                  (try simp only [Act.put, nA, nB, nC])
                  first | refine dP hS 34 rfl rfl ?_ | refine dQ hS 34 rfl rfl ?_
                  (try simp only [Act.put, nA, nB, nC])
                  first | refine dP hS 35 rfl rfl ?_ | refine dQ hS 35 rfl rfl ?_
                  (try simp only [Act.put, nA, nB, nC])
                  refine dP hS 36 rfl rfl ?_
                  (try simp only [Act.put, nA, nB, nC])
                  refine dr_done (by kernel_rfl) ?_
                  go_wp2_with fail
                  go_meet
                  exact ⟨rfl, hS.re⟩
              · have d1 : decide (0 < ki) = false := decide_eq_false hk0
                refine dr_start0 []  hS (by kernel_rfl) rfl ?_; clear hS; intro w hS
                refine dM hS 0 rfl rfl rfl ?_
                (try simp only [Act.put, nA, nB, nC])
                refine dP hS 1 rfl rfl ?_
                (try simp only [Act.put, nA, nB, nC])
                refine dP hS 2 rfl rfl ?_
                (try simp only [Act.put, nA, nB, nC])
                first | refine dL1 hS 3 rfl rfl rfl rfl ?_ | refine dL2 hS 3 rfl rfl rfl rfl ?_ | refine dL3 hS 3 rfl rfl rfl ?_ | refine dL4 hS 3 rfl rfl rfl ?_ | refine dL5 hS 3 rfl rfl rfl ?_ | refine dL6 hS 3 rfl rfl rfl ?_ | refine dL7 hS 3 rfl rfl rfl ?_
                (try simp only [Act.put, nA, nB, nC])
                refine dP hS 4 rfl rfl ?_
                (try simp only [Act.put, nA, nB, nC])
                refine dP hS 5 rfl rfl ?_
                (try simp only [Act.put, nA, nB, nC])
                refine dM hS 6 rfl rfl rfl ?_
                (try simp only [Act.put, nA, nB, nC])
                first | refine dM hS 7 rfl rfl rfl ?_ | refine dQ hS 7 rfl rfl ?_
                (try simp only [Act.put, nA, nB, nC])
                first | refine dM hS 8 rfl rfl rfl ?_ | refine dQ hS 8 rfl rfl ?_
                (try simp only [Act.put, nA, nB, nC])
                first | refine dP hS 9 rfl rfl ?_ | refine dQ hS 9 rfl rfl ?_
                (try simp only [Act.put, nA, nB, nC])
                first | refine dP hS 10 rfl rfl ?_ | refine dQ hS 10 rfl rfl ?_
                (try simp only [Act.put, nA, nB, nC])
                first | refine dL1 hS 11 rfl rfl rfl rfl ?_ | refine dL2 hS 11 rfl rfl rfl rfl ?_ | refine dL3 hS 11 rfl rfl rfl ?_ | refine dL4 hS 11 rfl rfl rfl ?_ | refine dL5 hS 11 rfl rfl rfl ?_ | refine dL6 hS 11 rfl rfl rfl ?_ | refine dL7 hS 11 rfl rfl rfl ?_ | refine dQ hS 11 rfl rfl ?_
                (try simp only [Act.put, nA, nB, nC])
                first | refine dP hS 12 rfl rfl ?_ | refine dQ hS 12 rfl rfl ?_
                (try simp only [Act.put, nA, nB, nC])
                first | refine dM hS 13 rfl rfl rfl ?_ | refine dQ hS 13 rfl rfl ?_
                (try simp only [Act.put, nA, nB, nC])
                first | refine dM hS 14 rfl rfl rfl ?_ | refine dQ hS 14 rfl rfl ?_
                (try simp only [Act.put, nA, nB, nC])
                first | refine dM hS 15 rfl rfl rfl ?_ | refine dQ hS 15 rfl rfl ?_
                (try simp only [Act.put, nA, nB, nC])
                first | refine dM hS 16 rfl rfl rfl ?_ | refine dQ hS 16 rfl rfl ?_
                (try simp only [Act.put, nA, nB, nC])
                first | refine dP hS 17 rfl rfl ?_ | refine dQ hS 17 rfl rfl ?_
                (try simp only [Act.put, nA, nB, nC])
                first | refine dM hS 18 rfl rfl rfl ?_ | refine dQ hS 18 rfl rfl ?_
                (try simp only [Act.put, nA, nB, nC])
                first | refine dM hS 19 rfl rfl rfl ?_ | refine dQ hS 19 rfl rfl ?_
                (try simp only [Act.put, nA, nB, nC])
                first | refine dM hS 20 rfl rfl rfl ?_ | refine dQ hS 20 rfl rfl ?_
                (try simp only [Act.put, nA, nB, nC])
                first | refine dM hS 21 rfl rfl rfl ?_ | refine dQ hS 21 rfl rfl ?_
                (try simp only [Act.put, nA, nB, nC])
                first | refine dP hS 22 rfl rfl ?_ | refine dQ hS 22 rfl rfl ?_
                (try simp only [Act.put, nA, nB, nC])
                first | refine dP hS 23 rfl rfl ?_ | refine dQ hS 23 rfl rfl ?_
                (try simp only [Act.put, nA, nB, nC])
                first | refine dL1 hS 24 rfl rfl rfl rfl ?_ | refine dL2 hS 24 rfl rfl rfl rfl ?_ | refine dL3 hS 24 rfl rfl rfl ?_ | refine dL4 hS 24 rfl rfl rfl ?_ | refine dL5 hS 24 rfl rfl rfl ?_ | refine dL6 hS 24 rfl rfl rfl ?_ | refine dL7 hS 24 rfl rfl rfl ?_ | refine dQ hS 24 rfl rfl ?_
                (try simp only [Act.put, nA, nB, nC])
                first | refine dP hS 25 rfl rfl ?_ | refine dQ hS 25 rfl rfl ?_
                (try simp only [Act.put, nA, nB, nC])
                first | refine dL1 hS 26 rfl rfl rfl rfl ?_ | refine dL2 hS 26 rfl rfl rfl rfl ?_ | refine dL3 hS 26 rfl rfl rfl ?_ | refine dL4 hS 26 rfl rfl rfl ?_ | refine dL5 hS 26 rfl rfl rfl ?_ | refine dL6 hS 26 rfl rfl rfl ?_ | refine dL7 hS 26 rfl rfl rfl ?_ | refine dQ hS 26 rfl rfl ?_
                (try simp only [Act.put, nA, nB, nC])
                first | refine dM hS 27 rfl rfl rfl ?_ | refine dQ hS 27 rfl rfl ?_
                (try simp only [Act.put, nA, nB, nC])
                first | refine dM hS 28 rfl rfl rfl ?_ | refine dQ hS 28 rfl rfl ?_
                (try simp only [Act.put, nA, nB, nC])
                first | refine dP hS 29 rfl rfl ?_ | refine dQ hS 29 rfl rfl ?_
                (try simp only [Act.put, nA, nB, nC])
                first | refine dP hS 30 rfl rfl ?_ | refine dQ hS 30 rfl rfl ?_
                (try simp only [Act.put, nA, nB, nC])
                first | refine dL1 hS 31 rfl rfl rfl rfl ?_ | refine dL2 hS 31 rfl rfl rfl rfl ?_ | refine dL3 hS 31 rfl rfl rfl ?_ | refine dL4 hS 31 rfl rfl rfl ?_ | refine dL5 hS 31 rfl rfl rfl ?_ | refine dL6 hS 31 rfl rfl rfl ?_ | refine dL7 hS 31 rfl rfl rfl ?_ | refine dQ hS 31 rfl rfl ?_
                (try simp only [Act.put, nA, nB, nC])
                first | refine dP hS 32 rfl rfl ?_ | refine dQ hS 32 rfl rfl ?_
                (try simp only [Act.put, nA, nB, nC])
                first | refine dP hS 33 rfl rfl ?_ | refine dQ hS 33 rfl rfl ?_
                (try simp only [Act.put, nA, nB, nC])
                first | refine dP hS 34 rfl rfl ?_ | refine dQ hS 34 rfl rfl ?_
                (try simp only [Act.put, nA, nB, nC])
                first | refine dP hS 35 rfl rfl ?_ | refine dQ hS 35 rfl rfl ?_
                (try simp only [Act.put, nA, nB, nC])
                refine dP hS 36 rfl rfl ?_
                (try simp only [Act.put, nA, nB, nC])
                refine dr_done (by kernel_rfl) ?_
                go_wp2_with fail
                go_meet
                exact ⟨rfl, hS.re⟩
            case rest =>
              clear hS e0 hfc hri hcq
              obtain ⟨rfl, hS⟩ := hcut
              go_wp2_with (first | (refine oL ?_; (first | refine sL1 hS rfl rfl rfl ?_ | refine sL2 hS rfl rfl rfl ?_ | refine sL3 hS rfl rfl ?_ | refine sL4 hS rfl rfl ?_ | refine sL5 hS rfl rfl ?_ | refine sL6 hS rfl rfl ?_ | refine sL7 hS rfl rfl ?_)) | (refine oS ?_; ((first | refine sS1 hS rfl rfl rfl ?_ | refine sS2 hS rfl rfl rfl ?_ | refine sS3 hS rfl rfl rfl ?_ | refine sS4 hS rfl rfl rfl ?_ | refine sS5 hS rfl rfl rfl ?_); clear hS; intro w hS)) | ((first | refine sN1 hS rfl ?_); clear hS; first | ((fail_if_success guard_hyp g1); intro g1 w hS) | ((fail_if_success guard_hyp g2); intro g2 w hS) | fail) | fail)
              go_loopw [101] (fun s101 wr => ∃ (m : Nat), m ≤ pts.length ∧ s101 = .int .i64 m ∧ St w0 NoM [row (.slice (some ⟨gp, 0, none⟩) pts.length cp) 37 2 pts.length (pts.flatMap ptCells), blk g1 [.slice A1 p.len.length c1, .slice A2 p.ck.length c2, .slice A3 p.arcs.length c3] 28, froz T u] wr) (fun s101 _ => pts.length - (intOf s101).toNat)
              case atStart => exact ⟨0, by omega, rfl, hS.re⟩
              case round =>
                obtain ⟨m, hm, rfl, hS⟩ := hrel
                by_cases hml : m < pts.length
                · have hml' : (m : Int) < pts.length := by omega
                  have HM := Lib.hid (And.intro (pt_at' hml) (HAP.out.1 _ (List.getElem_mem hml)))
                  generalize pts[m] = pm at *
                  obtain ⟨qm, km⟩ := pm
                  go_wp2_with (first | (refine oL ?_; (first | refine sL1 hS rfl rfl rfl ?_ | refine sL2 hS rfl rfl rfl ?_ | refine sL3 hS rfl rfl ?_ | refine sL4 hS rfl rfl ?_ | refine sL5 hS rfl rfl ?_ | refine sL6 hS rfl rfl ?_ | refine sL7 hS rfl rfl ?_)) | (refine oS ?_; ((first | refine sS1 hS rfl rfl rfl ?_ | refine sS2 hS rfl rfl rfl ?_ | refine sS3 hS rfl rfl rfl ?_ | refine sS4 hS rfl rfl rfl ?_ | refine sS5 hS rfl rfl rfl ?_); clear hS; intro w hS)) | ((first | refine sN1 hS rfl ?_); clear hS; first | ((fail_if_success guard_hyp g1); intro g1 w hS) | ((fail_if_success guard_hyp g2); intro g2 w hS) | fail) | fail)
                  refine dr_start0 []  hS (by kernel_rfl) rfl ?_; clear hS; intro w hS
                  refine dM hS 0 rfl rfl rfl ?_
                  (try simp only [Act.put, nA, nB, nC])
                  refine dM hS 1 rfl rfl rfl ?_
                  (try simp only [Act.put, nA, nB, nC])
                  first | refine dL1 hS 2 rfl rfl rfl rfl ?_ | refine dL2 hS 2 rfl rfl rfl rfl ?_ | refine dL3 hS 2 rfl rfl rfl ?_ | refine dL4 hS 2 rfl rfl rfl ?_ | refine dL5 hS 2 rfl rfl rfl ?_ | refine dL6 hS 2 rfl rfl rfl ?_ | refine dL7 hS 2 rfl rfl rfl ?_ | refine dQ hS 2 rfl rfl ?_
                  (try simp only [Act.put, nA, nB, nC])
                  first | refine dM hS 3 rfl rfl rfl ?_ | refine dQ hS 3 rfl rfl ?_
                  (try simp only [Act.put, nA, nB, nC])
                  first | refine dM hS 4 rfl rfl rfl ?_ | refine dQ hS 4 rfl rfl ?_
                  (try simp only [Act.put, nA, nB, nC])
                  first | refine dP hS 5 rfl rfl ?_ | refine dQ hS 5 rfl rfl ?_
                  (try simp only [Act.put, nA, nB, nC])
                  first | refine dL1 hS 6 rfl rfl rfl rfl ?_ | refine dL2 hS 6 rfl rfl rfl rfl ?_ | refine dL3 hS 6 rfl rfl rfl ?_ | refine dL4 hS 6 rfl rfl rfl ?_ | refine dL5 hS 6 rfl rfl rfl ?_ | refine dL6 hS 6 rfl rfl rfl ?_ | refine dL7 hS 6 rfl rfl rfl ?_ | refine dQ hS 6 rfl rfl ?_
                  (try simp only [Act.put, nA, nB, nC])
                  first | refine dM hS 7 rfl rfl rfl ?_ | refine dQ hS 7 rfl rfl ?_
                  (try simp only [Act.put, nA, nB, nC])
                  first | refine dM hS 8 rfl rfl rfl ?_ | refine dQ hS 8 rfl rfl ?_
                  (try simp only [Act.put, nA, nB, nC])
                  first | refine dP hS 9 rfl rfl ?_ | refine dQ hS 9 rfl rfl ?_
                  (try simp only [Act.put, nA, nB, nC])
                  first | refine dL1 hS 10 rfl rfl rfl rfl ?_ | refine dL2 hS 10 rfl rfl rfl rfl ?_ | refine dL3 hS 10 rfl rfl rfl ?_ | refine dL4 hS 10 rfl rfl rfl ?_ | refine dL5 hS 10 rfl rfl rfl ?_ | refine dL6 hS 10 rfl rfl rfl ?_ | refine dL7 hS 10 rfl rfl rfl ?_ | refine dQ hS 10 rfl rfl ?_
                  (try simp only [Act.put, nA, nB, nC])
                  refine dr_one 11 (by kernel_rfl) rfl ?_
                  refine lS rfl ?_
                  (try simp only [Act.put, nA, nB, nC])
                  refine dr_end hS ?_
                  refine dP hS 12 rfl rfl ?_
                  (try simp only [Act.put, nA, nB, nC])
                  refine dM hS 13 rfl rfl rfl ?_
                  (try simp only [Act.put, nA, nB, nC])
                  first | refine dL1 hS 14 rfl rfl rfl rfl ?_ | refine dL2 hS 14 rfl rfl rfl rfl ?_ | refine dL3 hS 14 rfl rfl rfl ?_ | refine dL4 hS 14 rfl rfl rfl ?_ | refine dL5 hS 14 rfl rfl rfl ?_ | refine dL6 hS 14 rfl rfl rfl ?_ | refine dL7 hS 14 rfl rfl rfl ?_ | refine dQ hS 14 rfl rfl ?_
                  (try simp only [Act.put, nA, nB, nC])
                  first | refine dM hS 15 rfl rfl rfl ?_ | refine dQ hS 15 rfl rfl ?_
                  (try simp only [Act.put, nA, nB, nC])
                  first | refine dM hS 16 rfl rfl rfl ?_ | refine dQ hS 16 rfl rfl ?_
                  (try simp only [Act.put, nA, nB, nC])
                  first | refine dP hS 17 rfl rfl ?_ | refine dQ hS 17 rfl rfl ?_
                  (try simp only [Act.put, nA, nB, nC])
                  first | refine dL1 hS 18 rfl rfl rfl rfl ?_ | refine dL2 hS 18 rfl rfl rfl rfl ?_ | refine dL3 hS 18 rfl rfl rfl ?_ | refine dL4 hS 18 rfl rfl rfl ?_ | refine dL5 hS 18 rfl rfl rfl ?_ | refine dL6 hS 18 rfl rfl rfl ?_ | refine dL7 hS 18 rfl rfl rfl ?_ | refine dQ hS 18 rfl rfl ?_
                  (try simp only [Act.put, nA, nB, nC])
                  first | refine dM hS 19 rfl rfl rfl ?_ | refine dQ hS 19 rfl rfl ?_
                  (try simp only [Act.put, nA, nB, nC])
                  first | refine dM hS 20 rfl rfl rfl ?_ | refine dQ hS 20 rfl rfl ?_
                  (try simp only [Act.put, nA, nB, nC])
                  first | refine dP hS 21 rfl rfl ?_ | refine dQ hS 21 rfl rfl ?_
                  (try simp only [Act.put, nA, nB, nC])
                  first | refine dL1 hS 22 rfl rfl rfl rfl ?_ | refine dL2 hS 22 rfl rfl rfl rfl ?_ | refine dL3 hS 22 rfl rfl rfl ?_ | refine dL4 hS 22 rfl rfl rfl ?_ | refine dL5 hS 22 rfl rfl rfl ?_ | refine dL6 hS 22 rfl rfl rfl ?_ | refine dL7 hS 22 rfl rfl rfl ?_ | refine dQ hS 22 rfl rfl ?_
                  (try simp only [Act.put, nA, nB, nC])
                  refine dr_one 23 (by kernel_rfl) rfl ?_
                  refine lS rfl ?_
                  (try simp only [Act.put, nA, nB, nC])
                  refine dr_end hS ?_
                  first | refine dP hS 24 rfl rfl ?_ | refine dQ hS 24 rfl rfl ?_
                  (try simp only [Act.put, nA, nB, nC])
                  refine dP hS 25 rfl rfl ?_
                  (try simp only [Act.put, nA, nB, nC])
                  refine dr_done (by kernel_rfl) ?_
                  go_wp2_with (first | (refine oL ?_; (first | refine sL1 hS rfl rfl rfl ?_ | refine sL2 hS rfl rfl rfl ?_ | refine sL3 hS rfl rfl ?_ | refine sL4 hS rfl rfl ?_ | refine sL5 hS rfl rfl ?_ | refine sL6 hS rfl rfl ?_ | refine sL7 hS rfl rfl ?_)) | (refine oS ?_; ((first | refine sS1 hS rfl rfl rfl ?_ | refine sS2 hS rfl rfl rfl ?_ | refine sS3 hS rfl rfl rfl ?_ | refine sS4 hS rfl rfl rfl ?_ | refine sS5 hS rfl rfl rfl ?_); clear hS; intro w hS)) | ((first | refine sN1 hS rfl ?_); clear hS; first | ((fail_if_success guard_hyp g1); intro g1 w hS) | ((fail_if_success guard_hyp g2); intro g2 w hS) | fail) | fail)
                  go_roundw
                  case measure => simp [intOf]; omega
                  exact ⟨m + 1, by omega, by go_num, hS.re⟩
                · go_wp2_with (first | (refine oL ?_; (first | refine sL1 hS rfl rfl rfl ?_ | refine sL2 hS rfl rfl rfl ?_ | refine sL3 hS rfl rfl ?_ | refine sL4 hS rfl rfl ?_ | refine sL5 hS rfl rfl ?_ | refine sL6 hS rfl rfl ?_ | refine sL7 hS rfl rfl ?_)) | (refine oS ?_; ((first | refine sS1 hS rfl rfl rfl ?_ | refine sS2 hS rfl rfl rfl ?_ | refine sS3 hS rfl rfl rfl ?_ | refine sS4 hS rfl rfl rfl ?_ | refine sS5 hS rfl rfl rfl ?_); clear hS; intro w hS)) | ((first | refine sN1 hS rfl ?_); clear hS; first | ((fail_if_success guard_hyp g1); intro g1 w hS) | ((fail_if_success guard_hyp g2); intro g2 w hS) | fail) | fail)
                  go_roundw
                  case measure => simp [intOf]; omega
                  exact ⟨k + 1, by omega, by go_num, hS.re⟩
        · go_wp2_with (first | (refine oL ?_; (first | refine sL1 hS rfl rfl rfl ?_ | refine sL2 hS rfl rfl rfl ?_ | refine sL3 hS rfl rfl ?_ | refine sL4 hS rfl rfl ?_ | refine sL5 hS rfl rfl ?_ | refine sL6 hS rfl rfl ?_ | refine sL7 hS rfl rfl ?_)) | (refine oS ?_; ((first | refine sS1 hS rfl rfl rfl ?_ | refine sS2 hS rfl rfl rfl ?_ | refine sS3 hS rfl rfl rfl ?_ | refine sS4 hS rfl rfl rfl ?_ | refine sS5 hS rfl rfl rfl ?_); clear hS; intro w hS)) | ((first | refine sN1 hS rfl ?_); clear hS; first | ((fail_if_success guard_hyp g1); intro g1 w hS) | ((fail_if_success guard_hyp g2); intro g2 w hS) | fail) | fail)
          go_roundw
          case measure => simp [intOf]; omega
          exact ⟨i + 1, by omega, by go_num, hS.re⟩
    · go_wp2_with (first | (refine oL ?_; (first | refine sL1 hS rfl rfl rfl ?_ | refine sL2 hS rfl rfl rfl ?_ | refine sL3 hS rfl rfl ?_ | refine sL4 hS rfl rfl ?_ | refine sL5 hS rfl rfl ?_ | refine sL6 hS rfl rfl ?_ | refine sL7 hS rfl rfl ?_)) | (refine oS ?_; ((first | refine sS1 hS rfl rfl rfl ?_ | refine sS2 hS rfl rfl rfl ?_ | refine sS3 hS rfl rfl rfl ?_ | refine sS4 hS rfl rfl rfl ?_ | refine sS5 hS rfl rfl rfl ?_); clear hS; intro w hS)) | ((first | refine sN1 hS rfl ?_); clear hS; first | ((fail_if_success guard_hyp g1); intro g1 w hS) | ((fail_if_success guard_hyp g2); intro g2 w hS) | fail) | fail)
      go_ret
      exact ⟨rfl, hS.toExt⟩
open Go.ChangeShapes Go.WideShapes Go.ChangeAt
set_option maxRecDepth 100000 in
theorem lifted_CausalOrders (os : Os) (started : os.Started) (H : Type) (enc : TypeId × Value → H) :
    ReturnsInHanded {} Try.checked os 5 .any (Rows.causalOrdersSpec.pre6 enc Try.prog Try.f5 Rows.causalOrdersRow.domain false) (Rows.causalOrdersSpec.post enc Try.prog Try.f5 false true false false) := by
  refine law_lifted (C := Try.checked) (s := Rows.causalOrdersSpec) (tb := 4) (by kernel_rfl) started (by kernel_rfl) Try.func5
      (ChangeSpec.witness6 (enc := enc) (C := Try.checked) false ⟨#[], #[.slice none 0 0], []⟩ 8 (by kernel_rfl) (by kernel_rfl) (by kernel_rfl) (by kernel_rfl))
      (by kernel_rfl) rfl rfl Try.underlying4 (read_of (by kernel_rfl)) ?_ ?_
  · intro ds hl
    match ds, hl with
    | [d0], _ => exact ⟨rfl, rfl, rfl⟩
  · intro W base args ds p hval0 hA0
    have hval : ∀ (j : Nat) t v, Try.f5.params[j]? = some t → args[j]? = some v → Value.okWide Try.prog W .any base t v := hval0
    have hA : DataW.TrodAll enc Try.prog W 0 (fun _ => true) true Try.f5.params.toList args.toList ds p := hA0
    clear hA0 hval0
    rw [Try.params5] at hA hval
    obtain ⟨v0, d0, rfl, rfl, h0⟩ := trodAll_one hA
    obtain ⟨A0, c0, xs0, rfl, hri0, hc0, hd0, hwf0⟩ := open_nums Try.underlying22 Try.underlying5 (by kernel_rfl) (hval 0 _ v0 rfl rfl) h0
    exact causalOrders_any A0 c0 xs0 W hri0 hc0 hd0 (fun b hb => u8_bd (hwf0 b hb))
/-- CausalOrders returns true for every input, and leaves its arguments as they were. -/
theorem proved_CausalOrders : Rows.CausalOrdersSaid :=
  OpenClaim.holds_of_wide 5 Try.f5 rfl rfl rfl rfl rfl rfl rfl ⟨rfl, rfl, rfl, rfl, rfl⟩ rfl rfl rfl rfl rfl (by kernel_rfl) Try.func5 (by kernel_rfl)
    (of_decide_eq_true (by kernel_rfl)) (by unfold Func.isWrapper; rw [if_neg (by decide +kernel)]; exact ⟨rfl, rfl⟩)
    (fun os started H enc _ => lifted_CausalOrders os started H enc)
end Go.Proofs.Ytkflmichekpfbaa
