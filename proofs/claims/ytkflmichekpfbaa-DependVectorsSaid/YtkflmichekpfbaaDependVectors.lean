/- DependVectors returns true for every input. No condition. -/
import Derived.Test.YtkflmichekpfbaaRef19
import Derived.Test.YtkflmichekpfbaaGg
namespace Go.Proofs.Ytkflmichekpfbaa
open Go.RowKit
set_option linter.unusedVariables false
set_option linter.unusedSimpArgs false

section
variable {S : Nat → Prop} {A1 A2 A3 : Option Addr} {c1 c2 c3 n1 n2 n3 : Nat} {p : Pat} {q : Nat} {z k : Int} {w : World}
theorem rckpt_n (e1 : p.len.length = n1) (e2 : p.ck.length = n2) (e3 : p.arcs.length = n3) (hz : z = q) (hp : PatAt S w ⟨A1, c1, A2, c2, A3, c3⟩ p) (hg : Good p) (ha : CkOk p (q, k)) :
    Calls Try.prog 41 #[.agg #[.slice A1 n1 c1, .slice A2 n2 c2, .slice A3 n3 c3], .int .i64 z, .int .i64 k] w fun e w' => ∃ c, IsClk p q (ckIx p q k) c ∧ (vecN p c).length = n1 ∧ RetRow w 3 1 n1 (ints (vecN p c)) e w' := by
  subst e1 e2 e3 hz
  refine (rckpt_any ⟨A1, c1, A2, c2, A3, c3⟩ p q k w hp hg ha).mono ?_
  rintro e w' ⟨c, h1, h2⟩
  exact ⟨c, h1, vecN_length p c, h2⟩
theorem dckpt_n (e1 : p.len.length = n1) (e2 : p.ck.length = n2) (e3 : p.arcs.length = n3) (hz : z = q) (hp : PatAt S w ⟨A1, c1, A2, c2, A3, c3⟩ p) (hg : Good p) (ha : CkOk p (q, k)) :
    Calls Try.prog 40 #[.agg #[.slice A1 n1 c1, .slice A2 n2 c2, .slice A3 n3 c3], .int .i64 z, .int .i64 k] w fun e w' => ∃ c, IsClk p q (ckIx p q k) c ∧ (vecN p c).length = n1 ∧ RetRow w 3 1 n1 (ints (vecN p c)) e w' := by
  subst e1 e2 e3 hz
  refine (dckpt_any ⟨A1, c1, A2, c2, A3, c3⟩ p q k w hp hg ha).mono ?_
  rintro e w' ⟨c, h1, h2⟩
  exact ⟨c, h1, vecN_length p c, h2⟩
end
theorem clk_dec {p : Pat} {q : Nat} {k : Int} {c d : List Int} (h1 : Hid (IsClk p q k c)) (h2 : Hid (IsClk p q k d)) : decide (vecN p c = vecN p d) = true := decide_eq_true (by rw [h1.out.unique h2.out])
set_option maxRecDepth 100000 in
set_option maxHeartbeats 6400000 in
theorem dependVectors_any (C : Option Addr) (f : Nat) (bs : List Int) (w0 : World) (hbs : RV (fun b => b < w0.heap.size) w0 C (bytes bs)) (hf : bs.length ≤ f) (hf' : f ≤ 9223372036854775807) (hby : ∀ b ∈ bs, 0 ≤ b ∧ b ≤ 255) :
    Calls Try.prog 9 #[.slice C bs.length f] w0 fun e w' => e = .returned (.bool true) ∧ Ext w0 w' := by
  have hS := St.start w0 NoM
  have HB := Lib.hid (And.intro hby (RV.sub (S' := Froz w0 NoM) hbs (fun k hk => ⟨hk, id⟩)))
  clear hby hbs
  go_enter Try.func9, Try.ntmps9
  go_wp2_with (first | (go_at_call 31; refine (awake19_any _).mono ?_; rintro e w ⟨rfl, hx1⟩; replace hS := hS.ext hx1) | (refine oL ?_; (first | refine sL1 hS rfl rfl rfl ?_ | refine sL2 hS rfl rfl rfl ?_ | refine sL3 hS rfl rfl ?_ | refine sL4 hS rfl rfl ?_ | refine sL5 hS rfl rfl ?_ | refine sL6 hS rfl rfl ?_ | refine sL7 hS rfl rfl ?_)) | (refine oS ?_; ((first | refine sS1 hS rfl rfl rfl ?_ | refine sS2 hS rfl rfl rfl ?_ | refine sS3 hS rfl rfl rfl ?_ | refine sS4 hS rfl rfl rfl ?_ | refine sS5 hS rfl rfl rfl ?_); clear hS; intro w hS)) | ((first | refine sN1 hS rfl ?_); clear hS; first | ((fail_if_success guard_hyp g1); intro g1 w hS) | ((fail_if_success guard_hyp g2); intro g2 w hS) | fail) | fail)
  refine (new_st (m := 240) hS (by omega) HB.out.2 hf hf' HB.out.1).mono ?_
  rintro e w ⟨gc, κ, rfl, hS⟩
  clear HB
  generalize bs.take 240 = r at *
  go_wp2_with (first | (refine oL ?_; (first | refine sL1 hS rfl rfl rfl ?_ | refine sL2 hS rfl rfl rfl ?_ | refine sL3 hS rfl rfl ?_ | refine sL4 hS rfl rfl ?_ | refine sL5 hS rfl rfl ?_ | refine sL6 hS rfl rfl ?_ | refine sL7 hS rfl rfl ?_)) | (refine oS ?_; ((first | refine sS1 hS rfl rfl rfl ?_ | refine sS2 hS rfl rfl rfl ?_ | refine sS3 hS rfl rfl rfl ?_ | refine sS4 hS rfl rfl rfl ?_ | refine sS5 hS rfl rfl rfl ?_); clear hS; intro w hS)) | ((first | refine sN1 hS rfl ?_); clear hS; first | ((fail_if_success guard_hyp g1); intro g1 w hS) | ((fail_if_success guard_hyp g2); intro g2 w hS) | fail) | fail)
  refine (pattern_st (m := 18) hS rfl (by omega)).mono ?_
  rintro e w ⟨v, p, r1, T, rfl, hsm, hpa, hS⟩
  have HP := Lib.hid (And.intro hsm hpa)
  have e1 := hsm.good.ckl
  have hn5 := hsm.good.n5
  obtain ⟨A1, c1, A2, c2, A3, c3⟩ := v
  simp only [PV.val]
  have HE := Lib.hid e1
  have hn2 := hsm.good.n2
  have hfew := hsm.few
  clear hsm hpa e1
  generalize hu : w = u at *
  have hck5 : p.ck.length ≤ 5 := by rw [HE.out]; exact hn5
  have HG := Lib.hid HP.out.1.good
  have HPp := Lib.hid HP.out.2
  clear HP
  go_wp2_with (first | (refine oL ?_; (first | refine sL1 hS rfl rfl rfl ?_ | refine sL2 hS rfl rfl rfl ?_ | refine sL3 hS rfl rfl ?_ | refine sL4 hS rfl rfl ?_ | refine sL5 hS rfl rfl ?_ | refine sL6 hS rfl rfl ?_ | refine sL7 hS rfl rfl ?_)) | (refine oS ?_; ((first | refine sS1 hS rfl rfl rfl ?_ | refine sS2 hS rfl rfl rfl ?_ | refine sS3 hS rfl rfl rfl ?_ | refine sS4 hS rfl rfl rfl ?_ | refine sS5 hS rfl rfl rfl ?_); clear hS; intro w hS)) | ((first | refine sN1 hS rfl ?_); clear hS; first | ((fail_if_success guard_hyp g1); intro g1 w hS) | ((fail_if_success guard_hyp g2); intro g2 w hS) | fail) | fail)
  go_loopw [15] (fun s15 wr => ∃ (q : Nat), q ≤ p.len.length ∧ s15 = .int .i64 q ∧ St w0 NoM [blk g1 [.slice A1 p.len.length c1, .slice A2 p.ck.length c2, .slice A3 p.arcs.length c3] 28, froz T u] wr) (fun s15 _ => p.len.length - (intOf s15).toNat)
  case atStart => exact ⟨0, by omega, rfl, hS.re⟩
  case round =>
    obtain ⟨q, hq, rfl, hS⟩ := hrel
    by_cases hql : q < p.len.length
    · obtain ⟨b1, o1, e1, hfq⟩ := HPp.out.len.fc hql
      simp only at e1
      subst e1
      have hqck : q < p.ck.length := by rw [HE.out]; exact hql
      obtain ⟨b2, o2, B, cB, e2, hfc, _, _, _⟩ := HPp.out.ck.fc hqck
      simp only at e2
      subst e2
      have hlo := HG.out.lo q hql
      have hhi := HG.out.hi q hql
      have hql' : (q : Int) < p.len.length := by omega
      have hqck' : (q : Int) < p.ck.length := by omega
      have HRL := Lib.hid (Eq.refl (rowOf p.ck q).length)
      have hrl := HG.out.rowLen (q := q) hql
      generalize hrow : (rowOf p.ck q).length = rl at *
      generalize hm : nth p.len q = m at *
      go_wp2_with (first | (refine oL ?_; (first | refine sL1 hS rfl rfl rfl ?_ | refine sL2 hS rfl rfl rfl ?_ | refine sL3 hS rfl rfl ?_ | refine sL4 hS rfl rfl ?_ | refine sL5 hS rfl rfl ?_ | refine sL6 hS rfl rfl ?_ | refine sL7 hS rfl rfl ?_)) | (refine oS ?_; ((first | refine sS1 hS rfl rfl rfl ?_ | refine sS2 hS rfl rfl rfl ?_ | refine sS3 hS rfl rfl rfl ?_ | refine sS4 hS rfl rfl rfl ?_ | refine sS5 hS rfl rfl rfl ?_); clear hS; intro w hS)) | ((first | refine sN1 hS rfl ?_); clear hS; first | ((fail_if_success guard_hyp g1); intro g1 w hS) | ((fail_if_success guard_hyp g2); intro g2 w hS) | fail) | fail)
      go_loopw [5] (fun s5 wr => ∃ (k : Nat), (k : Int) ≤ m + 1 ∧ s5 = .int .i64 k ∧ St w0 NoM [blk g1 [.slice (some ⟨b1, o1, none⟩) p.len.length c1, .slice (some ⟨b2, o2, none⟩) p.ck.length c2, .slice A3 p.arcs.length c3] 28, froz T u] wr) (fun s5 _ => (m + 1).toNat - (intOf s5).toNat)
      case atStart => exact ⟨0, by omega, rfl, hS.re⟩
      case round =>
        obtain ⟨k, hk, rfl, hS⟩ := hrel
        by_cases hkl : (k : Int) ≤ m
        · have d1 : decide ((k : Int) ≤ m) = true := decide_eq_true hkl
          have HPT := Lib.hid (show PtOk p (q, (k : Int)) from ⟨hql, by simp only; omega, by simp only; omega⟩)
          go_wp2_with (first | (refine oL ?_; (first | refine sL1 hS rfl rfl rfl ?_ | refine sL2 hS rfl rfl rfl ?_ | refine sL3 hS rfl rfl ?_ | refine sL4 hS rfl rfl ?_ | refine sL5 hS rfl rfl ?_ | refine sL6 hS rfl rfl ?_ | refine sL7 hS rfl rfl ?_)) | (refine oS ?_; ((first | refine sS1 hS rfl rfl rfl ?_ | refine sS2 hS rfl rfl rfl ?_ | refine sS3 hS rfl rfl rfl ?_ | refine sS4 hS rfl rfl rfl ?_ | refine sS5 hS rfl rfl rfl ?_); clear hS; intro w hS)) | ((first | refine sN1 hS rfl ?_); clear hS; first | ((fail_if_success guard_hyp g1); intro g1 w hS) | ((fail_if_success guard_hyp g2); intro g2 w hS) | fail) | fail)
          refine dr_start0 []  hS (by kernel_rfl) rfl ?_; clear hS; intro w hS
          first | refine dL1 hS 0 rfl rfl rfl rfl ?_ | refine dL2 hS 0 rfl rfl rfl rfl ?_ | refine dL3 hS 0 rfl rfl rfl ?_ | refine dL4 hS 0 rfl rfl rfl ?_ | refine dL5 hS 0 rfl rfl rfl ?_ | refine dL6 hS 0 rfl rfl rfl ?_ | refine dL7 hS 0 rfl rfl rfl ?_
          (try simp only [Act.put, nA, nB, nC])
          refine dM hS 1 rfl rfl rfl ?_
          (try simp only [Act.put, nA, nB, nC])
          refine dM hS 2 rfl rfl rfl ?_
          (try simp only [Act.put, nA, nB, nC])
          first | refine dL1 hS 4 rfl rfl rfl rfl ?_ | refine dL2 hS 4 rfl rfl rfl rfl ?_ | refine dL3 hS 4 rfl rfl rfl ?_ | refine dL4 hS 4 rfl rfl rfl ?_ | refine dL5 hS 4 rfl rfl rfl ?_ | refine dL6 hS 4 rfl rfl rfl ?_ | refine dL7 hS 4 rfl rfl rfl ?_
          (try simp only [Act.put, nA, nB, nC])
          refine dM hS 5 rfl rfl rfl ?_
          (try simp only [Act.put, nA, nB, nC])
          refine dM hS 6 rfl rfl rfl ?_
          (try simp only [Act.put, nA, nB, nC])
          refine dr_one 3 (by kernel_rfl) rfl ?_
          (refine st_call rfl (by kernel_rfl) rfl ?_; go_at_call 34; refine (vector_n rfl rfl rfl rfl (HPp.out.into hS.frozInto) HG.out HPT.out).mono ?_; rintro e w ⟨c, hc, hvc, L4, cl4, rfl, ho, hx1⟩; replace hS := hS.addRow ho hx1; have HC := Lib.hid hc; have HVC := Lib.hid hvc; clear ho hc hvc)
          (try simp only [Act.put, nA, nB, nC])
          refine dr_end hS ?_
          refine dr_one 7 (by kernel_rfl) rfl ?_
          (refine st_call rfl (by kernel_rfl) rfl ?_; go_at_call 37; refine (rvector_n rfl rfl rfl rfl (HPp.out.into hS.frozInto) HG.out HPT.out).mono ?_; rintro e w ⟨d, hd, hvd, L5, cl5, rfl, ho, hx1⟩; replace hS := hS.addRow ho hx1; have HD := Lib.hid hd; have HVD := Lib.hid hvd; clear ho hd hvd)
          (try simp only [Act.put, nA, nB, nC])
          refine dr_end hS ?_
          refine dr_one 8 (by kernel_rfl) rfl ?_
          (refine st_call rfl (by kernel_rfl) rfl ?_; go_at_call 19; refine (sameInts_z HVC.out HVD.out hS.ri hS.ri (by omega) (by omega)).mono ?_; rintro e w ⟨rfl, hx1⟩; replace hS := hS.ext hx1; rw [clk_dec HC HD])
          (try simp only [Act.put, nA, nB, nC])
          refine dr_end hS ?_
          refine dP hS 9 rfl rfl ?_
          (try simp only [Act.put, nA, nB, nC])
          refine dr_done (by kernel_rfl) ?_
          all_goals
            go_wp2_with (first | (refine oL ?_; (first | refine sL1 hS rfl rfl rfl ?_ | refine sL2 hS rfl rfl rfl ?_ | refine sL3 hS rfl rfl ?_ | refine sL4 hS rfl rfl ?_ | refine sL5 hS rfl rfl ?_ | refine sL6 hS rfl rfl ?_ | refine sL7 hS rfl rfl ?_)) | (refine oS ?_; ((first | refine sS1 hS rfl rfl rfl ?_ | refine sS2 hS rfl rfl rfl ?_ | refine sS3 hS rfl rfl rfl ?_ | refine sS4 hS rfl rfl rfl ?_ | refine sS5 hS rfl rfl rfl ?_); clear hS; intro w hS)) | ((first | refine sN1 hS rfl ?_); clear hS; first | ((fail_if_success guard_hyp g1); intro g1 w hS) | ((fail_if_success guard_hyp g2); intro g2 w hS) | fail) | fail)
            go_roundw
            case measure => simp [intOf]; omega
            exact ⟨k + 1, by omega, by go_num, hS.re⟩
        · have d1 : decide ((k : Int) ≤ m) = false := decide_eq_false hkl
          go_wp2_with (first | (refine oL ?_; (first | refine sL1 hS rfl rfl rfl ?_ | refine sL2 hS rfl rfl rfl ?_ | refine sL3 hS rfl rfl ?_ | refine sL4 hS rfl rfl ?_ | refine sL5 hS rfl rfl ?_ | refine sL6 hS rfl rfl ?_ | refine sL7 hS rfl rfl ?_)) | (refine oS ?_; ((first | refine sS1 hS rfl rfl rfl ?_ | refine sS2 hS rfl rfl rfl ?_ | refine sS3 hS rfl rfl rfl ?_ | refine sS4 hS rfl rfl rfl ?_ | refine sS5 hS rfl rfl rfl ?_); clear hS; intro w hS)) | ((first | refine sN1 hS rfl ?_); clear hS; first | ((fail_if_success guard_hyp g1); intro g1 w hS) | ((fail_if_success guard_hyp g2); intro g2 w hS) | fail) | fail)
          go_loopw [6] (fun s6 wr => ∃ (n : Nat), n ≤ rl + 1 ∧ s6 = .int .i64 n ∧ St w0 NoM [blk g1 [.slice (some ⟨b1, o1, none⟩) p.len.length c1, .slice (some ⟨b2, o2, none⟩) p.ck.length c2, .slice A3 p.arcs.length c3] 28, froz T u] wr) (fun s6 _ => rl + 1 - (intOf s6).toNat)
          case atStart => exact ⟨0, by omega, rfl, hS.re⟩
          case round =>
            clear d1
            obtain ⟨n, hn, rfl, hS⟩ := hrel
            by_cases hnl : n ≤ rl
            · have d1 : decide ((n : Int) ≤ (rl : Int)) = true := decide_eq_true (by omega)
              have d1' : decide (n ≤ rl) = true := decide_eq_true hnl
              have HCO := Lib.hid (show CkOk p (q, (n : Int)) from ⟨hql, by simp only; omega, by simp only; rw [hrow]; omega⟩)
              go_wp2_with (first | (refine oL ?_; (first | refine sL1 hS rfl rfl rfl ?_ | refine sL2 hS rfl rfl rfl ?_ | refine sL3 hS rfl rfl ?_ | refine sL4 hS rfl rfl ?_ | refine sL5 hS rfl rfl ?_ | refine sL6 hS rfl rfl ?_ | refine sL7 hS rfl rfl ?_)) | (refine oS ?_; ((first | refine sS1 hS rfl rfl rfl ?_ | refine sS2 hS rfl rfl rfl ?_ | refine sS3 hS rfl rfl rfl ?_ | refine sS4 hS rfl rfl rfl ?_ | refine sS5 hS rfl rfl rfl ?_); clear hS; intro w hS)) | ((first | refine sN1 hS rfl ?_); clear hS; first | ((fail_if_success guard_hyp g1); intro g1 w hS) | ((fail_if_success guard_hyp g2); intro g2 w hS) | fail) | fail)
              refine dr_start0 []  hS (by kernel_rfl) rfl ?_; clear hS; intro w hS
              first | refine dL1 hS 0 rfl rfl rfl rfl ?_ | refine dL2 hS 0 rfl rfl rfl rfl ?_ | refine dL3 hS 0 rfl rfl rfl ?_ | refine dL4 hS 0 rfl rfl rfl ?_ | refine dL5 hS 0 rfl rfl rfl ?_ | refine dL6 hS 0 rfl rfl rfl ?_ | refine dL7 hS 0 rfl rfl rfl ?_
              (try simp only [Act.put, nA, nB, nC])
              refine dM hS 1 rfl rfl rfl ?_
              (try simp only [Act.put, nA, nB, nC])
              refine dM hS 2 rfl rfl rfl ?_
              (try simp only [Act.put, nA, nB, nC])
              first | refine dL1 hS 4 rfl rfl rfl rfl ?_ | refine dL2 hS 4 rfl rfl rfl rfl ?_ | refine dL3 hS 4 rfl rfl rfl ?_ | refine dL4 hS 4 rfl rfl rfl ?_ | refine dL5 hS 4 rfl rfl rfl ?_ | refine dL6 hS 4 rfl rfl rfl ?_ | refine dL7 hS 4 rfl rfl rfl ?_
              (try simp only [Act.put, nA, nB, nC])
              refine dM hS 5 rfl rfl rfl ?_
              (try simp only [Act.put, nA, nB, nC])
              refine dM hS 6 rfl rfl rfl ?_
              (try simp only [Act.put, nA, nB, nC])
              refine dr_one 3 (by kernel_rfl) rfl ?_
              (refine st_call rfl (by kernel_rfl) rfl ?_; go_at_call 38; refine (dindex_n rfl rfl rfl rfl (HPp.out.into hS.frozInto) HG.out hql HCO.out.2.1).mono ?_; rintro e w ⟨rfl, hx1⟩; replace hS := hS.ext hx1)
              (try simp only [Act.put, nA, nB, nC])
              refine dr_end hS ?_
              refine dr_one 7 (by kernel_rfl) rfl ?_
              (refine st_call rfl (by kernel_rfl) rfl ?_; go_at_call 39; refine (rindex_n rfl rfl rfl rfl (HPp.out.into hS.frozInto) HG.out hql HCO.out.2.1).mono ?_; rintro e w ⟨rfl, hx1⟩; replace hS := hS.ext hx1)
              (try simp only [Act.put, nA, nB, nC])
              refine dr_end hS ?_
              refine dP hS 8 rfl rfl ?_
              (try simp only [Act.put, nA, nB, nC])
              refine dM hS 9 rfl rfl rfl ?_
              (try simp only [Act.put, nA, nB, nC])
              first | refine dL1 hS 10 rfl rfl rfl rfl ?_ | refine dL2 hS 10 rfl rfl rfl rfl ?_ | refine dL3 hS 10 rfl rfl rfl ?_ | refine dL4 hS 10 rfl rfl rfl ?_ | refine dL5 hS 10 rfl rfl rfl ?_ | refine dL6 hS 10 rfl rfl rfl ?_ | refine dL7 hS 10 rfl rfl rfl ?_ | refine dQ hS 10 rfl rfl ?_
              (try simp only [Act.put, nA, nB, nC])
              first | refine dM hS 11 rfl rfl rfl ?_ | refine dQ hS 11 rfl rfl ?_
              (try simp only [Act.put, nA, nB, nC])
              first | refine dM hS 12 rfl rfl rfl ?_ | refine dQ hS 12 rfl rfl ?_
              (try simp only [Act.put, nA, nB, nC])
              first | refine dL1 hS 14 rfl rfl rfl rfl ?_ | refine dL2 hS 14 rfl rfl rfl rfl ?_ | refine dL3 hS 14 rfl rfl rfl ?_ | refine dL4 hS 14 rfl rfl rfl ?_ | refine dL5 hS 14 rfl rfl rfl ?_ | refine dL6 hS 14 rfl rfl rfl ?_ | refine dL7 hS 14 rfl rfl rfl ?_ | refine dQ hS 14 rfl rfl ?_
              (try simp only [Act.put, nA, nB, nC])
              first | refine dM hS 15 rfl rfl rfl ?_ | refine dQ hS 15 rfl rfl ?_
              (try simp only [Act.put, nA, nB, nC])
              first | refine dM hS 16 rfl rfl rfl ?_ | refine dQ hS 16 rfl rfl ?_
              (try simp only [Act.put, nA, nB, nC])
              refine dr_one 13 (by kernel_rfl) rfl ?_
              (refine st_call rfl (by kernel_rfl) rfl ?_; go_at_call 40; refine (dckpt_n rfl rfl rfl rfl (HPp.out.into hS.frozInto) HG.out HCO.out).mono ?_; rintro e w ⟨c, hc, hvc, L4, cl4, rfl, ho, hx1⟩; replace hS := hS.addRow ho hx1; have HC := Lib.hid hc; have HVC := Lib.hid hvc; clear ho hc hvc)
              (try simp only [Act.put, nA, nB, nC])
              refine dr_end hS ?_
              refine dr_one 17 (by kernel_rfl) rfl ?_
              (refine st_call rfl (by kernel_rfl) rfl ?_; go_at_call 41; refine (rckpt_n rfl rfl rfl rfl (HPp.out.into hS.frozInto) HG.out HCO.out).mono ?_; rintro e w ⟨d, hd, hvd, L5, cl5, rfl, ho, hx1⟩; replace hS := hS.addRow ho hx1; have HD := Lib.hid hd; have HVD := Lib.hid hvd; clear ho hd hvd)
              (try simp only [Act.put, nA, nB, nC])
              refine dr_end hS ?_
              refine dr_one 18 (by kernel_rfl) rfl ?_
              (refine st_call rfl (by kernel_rfl) rfl ?_; go_at_call 19; refine (sameInts_z HVC.out HVD.out hS.ri hS.ri (by omega) (by omega)).mono ?_; rintro e w ⟨rfl, hx1⟩; replace hS := hS.ext hx1; rw [clk_dec HC HD])
              (try simp only [Act.put, nA, nB, nC])
              refine dr_end hS ?_
              first | refine dP hS 19 rfl rfl ?_ | refine dQ hS 19 rfl rfl ?_
              (try simp only [Act.put, nA, nB, nC])
              refine dP hS 20 rfl rfl ?_
              (try simp only [Act.put, nA, nB, nC])
              refine dr_done (by kernel_rfl) ?_
              all_goals
                go_wp2_with (first | (refine oL ?_; (first | refine sL1 hS rfl rfl rfl ?_ | refine sL2 hS rfl rfl rfl ?_ | refine sL3 hS rfl rfl ?_ | refine sL4 hS rfl rfl ?_ | refine sL5 hS rfl rfl ?_ | refine sL6 hS rfl rfl ?_ | refine sL7 hS rfl rfl ?_)) | (refine oS ?_; ((first | refine sS1 hS rfl rfl rfl ?_ | refine sS2 hS rfl rfl rfl ?_ | refine sS3 hS rfl rfl rfl ?_ | refine sS4 hS rfl rfl rfl ?_ | refine sS5 hS rfl rfl rfl ?_); clear hS; intro w hS)) | ((first | refine sN1 hS rfl ?_); clear hS; first | ((fail_if_success guard_hyp g1); intro g1 w hS) | ((fail_if_success guard_hyp g2); intro g2 w hS) | fail) | fail)
                go_roundw
                case measure => simp [intOf]; omega
                exact ⟨n + 1, by omega, by go_num, hS.re⟩
            · have d1 : decide ((n : Int) ≤ (rl : Int)) = false := decide_eq_false (by omega)
              have d1' : decide (n ≤ rl) = false := decide_eq_false hnl
              go_wp2_with (first | (refine oL ?_; (first | refine sL1 hS rfl rfl rfl ?_ | refine sL2 hS rfl rfl rfl ?_ | refine sL3 hS rfl rfl ?_ | refine sL4 hS rfl rfl ?_ | refine sL5 hS rfl rfl ?_ | refine sL6 hS rfl rfl ?_ | refine sL7 hS rfl rfl ?_)) | (refine oS ?_; ((first | refine sS1 hS rfl rfl rfl ?_ | refine sS2 hS rfl rfl rfl ?_ | refine sS3 hS rfl rfl rfl ?_ | refine sS4 hS rfl rfl rfl ?_ | refine sS5 hS rfl rfl rfl ?_); clear hS; intro w hS)) | ((first | refine sN1 hS rfl ?_); clear hS; first | ((fail_if_success guard_hyp g1); intro g1 w hS) | ((fail_if_success guard_hyp g2); intro g2 w hS) | fail) | fail)
              go_roundw
              case measure => simp [intOf]; omega
              exact ⟨q + 1, by omega, by go_num, hS.re⟩
    · go_wp2_with (first | (refine oL ?_; (first | refine sL1 hS rfl rfl rfl ?_ | refine sL2 hS rfl rfl rfl ?_ | refine sL3 hS rfl rfl ?_ | refine sL4 hS rfl rfl ?_ | refine sL5 hS rfl rfl ?_ | refine sL6 hS rfl rfl ?_ | refine sL7 hS rfl rfl ?_)) | (refine oS ?_; ((first | refine sS1 hS rfl rfl rfl ?_ | refine sS2 hS rfl rfl rfl ?_ | refine sS3 hS rfl rfl rfl ?_ | refine sS4 hS rfl rfl rfl ?_ | refine sS5 hS rfl rfl rfl ?_); clear hS; intro w hS)) | ((first | refine sN1 hS rfl ?_); clear hS; first | ((fail_if_success guard_hyp g1); intro g1 w hS) | ((fail_if_success guard_hyp g2); intro g2 w hS) | fail) | fail)
      go_ret
      exact ⟨rfl, hS.toExt⟩
open Go.ChangeShapes Go.WideShapes Go.ChangeAt
set_option maxRecDepth 100000 in
theorem lifted_DependVectors (os : Os) (started : os.Started) (H : Type) (enc : TypeId × Value → H) :
    ReturnsInHanded {} Try.checked os 9 .any (Rows.dependVectorsSpec.pre6 enc Try.prog Try.f9 Rows.dependVectorsRow.domain false) (Rows.dependVectorsSpec.post enc Try.prog Try.f9 false true false false) := by
  refine law_lifted (C := Try.checked) (s := Rows.dependVectorsSpec) (tb := 4) (by kernel_rfl) started (by kernel_rfl) Try.func9
      (ChangeSpec.witness6 (enc := enc) (C := Try.checked) false ⟨#[], #[.slice none 0 0], []⟩ 8 (by kernel_rfl) (by kernel_rfl) (by kernel_rfl) (by kernel_rfl))
      (by kernel_rfl) rfl rfl Try.underlying4 (read_of (by kernel_rfl)) ?_ ?_
  · intro ds hl
    match ds, hl with
    | [d0], _ => exact ⟨rfl, rfl, rfl⟩
  · intro W base args ds p hval0 hA0
    have hval : ∀ (j : Nat) t v, Try.f9.params[j]? = some t → args[j]? = some v → Value.okWide Try.prog W .any base t v := hval0
    have hA : DataW.TrodAll enc Try.prog W 0 (fun _ => true) true Try.f9.params.toList args.toList ds p := hA0
    clear hA0 hval0
    rw [Try.params9] at hA hval
    obtain ⟨v0, d0, rfl, rfl, h0⟩ := trodAll_one hA
    obtain ⟨A0, c0, xs0, rfl, hri0, hc0, hd0, hwf0⟩ := open_nums Try.underlying22 Try.underlying5 (by kernel_rfl) (hval 0 _ v0 rfl rfl) h0
    exact dependVectors_any A0 c0 xs0 W hri0 hc0 hd0 (fun b hb => u8_bd (hwf0 b hb))
/-- DependVectors returns true for every input, and leaves its arguments as they were. -/
theorem proved_DependVectors : Rows.DependVectorsSaid :=
  OpenClaim.holds_of_wide 9 Try.f9 rfl rfl rfl rfl rfl rfl rfl ⟨rfl, rfl, rfl, rfl, rfl⟩ rfl rfl rfl rfl rfl (by kernel_rfl) Try.func9 (by kernel_rfl)
    (of_decide_eq_true (by kernel_rfl)) (by unfold Func.isWrapper; rw [if_neg (by decide +kernel)]; exact ⟨rfl, rfl⟩)
    (fun os started H enc _ => lifted_DependVectors os started H enc)
end Go.Proofs.Ytkflmichekpfbaa
