/- DependGrows returns true for every input. No condition. -/
import Derived.Test.YtkflmichekpfbaaDepPure
import Derived.Test.YtkflmichekpfbaaAwake19
import Derived.Test.YtkflmichekpfbaaRecvd
namespace Go.Proofs.Ytkflmichekpfbaa
open Go.RowKit
set_option linter.unusedVariables false
set_option linter.unusedSimpArgs false

theorem rinterval_nn {S : Nat → Prop} {A1 A2 A3 : Option Addr} {c1 c2 c3 n1 n2 n3 : Nat} {w : World} {ck : List (List Int)} {q : Nat} {z x : Int} (hn : ck.length = n2) (hz : z = q) (h2 : RR S w A2 ck) (hq : q < n2) (hck : n2 ≤ 5) (hl : (rowOf ck q).length ≤ 100) :
    Calls Try.prog 53 #[.agg #[.slice A1 n1 c1, .slice A2 n2 c2, .slice A3 n3 c3], .int .i64 z, .int .i64 x] w fun e w' => e = .returned (.int .i64 (below (rowOf ck q) x : Int)) ∧ Ext w w' := by
  subst hn hz
  rw [rowOf_eq hq] at *
  exact rinterval_any A1 A2 A3 c1 c2 c3 n1 n3 ck q x w h2 hq hck hl
set_option maxRecDepth 100000 in
set_option maxHeartbeats 6400000 in
theorem dependGrows_any (C : Option Addr) (f : Nat) (bs : List Int) (a1 : Nat) (w0 : World) (hbs : RV (fun b => b < w0.heap.size) w0 C (bytes bs)) (hf : bs.length ≤ f) (hf' : f ≤ 9223372036854775807) (hby : ∀ b ∈ bs, 0 ≤ b ∧ b ≤ 255) (ha1 : a1 ≤ 255) :
    Calls Try.prog 12 #[.slice C bs.length f, .int .u8 (a1 : Int)] w0 fun e w' => e = .returned (.bool true) ∧ Ext w0 w' := by
  have hS := St.start w0 NoM
  have HB := Lib.hid (And.intro hby (RV.sub (S' := Froz w0 NoM) hbs (fun k hk => ⟨hk, id⟩)))
  clear hby hbs
  go_enter Try.func12, Try.ntmps12
  go_wp2_with (first | (go_at_call 31; refine (awake19_any _).mono ?_; rintro e w ⟨rfl, hx1⟩; replace hS := hS.ext hx1) | (refine oL ?_; (first | refine sL1 hS rfl rfl rfl ?_ | refine sL2 hS rfl rfl rfl ?_ | refine sL3 hS rfl rfl ?_ | refine sL4 hS rfl rfl ?_ | refine sL5 hS rfl rfl ?_ | refine sL6 hS rfl rfl ?_ | refine sL7 hS rfl rfl ?_)) | (refine oS ?_; ((first | refine sS1 hS rfl rfl rfl ?_ | refine sS2 hS rfl rfl rfl ?_ | refine sS3 hS rfl rfl rfl ?_ | refine sS4 hS rfl rfl rfl ?_ | refine sS5 hS rfl rfl rfl ?_); clear hS; intro w hS)) | (refine oP ?_; ((first | refine sP1 hS rfl rfl rfl ?_ | refine sP2 hS rfl rfl rfl ?_ | refine sP3 hS rfl rfl rfl ?_); clear hS; first | ((fail_if_success guard_hyp L1); intro L1 cl1 w hL1 hM1 hS) | ((fail_if_success guard_hyp L2); intro L2 cl2 w hL2 hM2 hS) | fail)) | ((first | refine sN1 hS rfl ?_); clear hS; first | ((fail_if_success guard_hyp g1); intro g1 w hS) | ((fail_if_success guard_hyp g2); intro g2 w hS) | fail) | fail)
  refine (new_st (m := 240) hS (by omega) HB.out.2 hf hf' HB.out.1).mono ?_
  rintro e w ⟨gc, κ, rfl, hS⟩
  clear HB
  generalize bs.take 240 = r at *
  go_wp2_with (first | (refine oL ?_; (first | refine sL1 hS rfl rfl rfl ?_ | refine sL2 hS rfl rfl rfl ?_ | refine sL3 hS rfl rfl ?_ | refine sL4 hS rfl rfl ?_ | refine sL5 hS rfl rfl ?_ | refine sL6 hS rfl rfl ?_ | refine sL7 hS rfl rfl ?_)) | (refine oS ?_; ((first | refine sS1 hS rfl rfl rfl ?_ | refine sS2 hS rfl rfl rfl ?_ | refine sS3 hS rfl rfl rfl ?_ | refine sS4 hS rfl rfl rfl ?_ | refine sS5 hS rfl rfl rfl ?_); clear hS; intro w hS)) | (refine oP ?_; ((first | refine sP1 hS rfl rfl rfl ?_ | refine sP2 hS rfl rfl rfl ?_ | refine sP3 hS rfl rfl rfl ?_); clear hS; first | ((fail_if_success guard_hyp L1); intro L1 cl1 w hL1 hM1 hS) | ((fail_if_success guard_hyp L2); intro L2 cl2 w hL2 hM2 hS) | fail)) | ((first | refine sN1 hS rfl ?_); clear hS; first | ((fail_if_success guard_hyp g1); intro g1 w hS) | ((fail_if_success guard_hyp g2); intro g2 w hS) | fail) | fail)
  refine (pattern_st (m := 20) hS rfl (by omega)).mono ?_
  rintro e w ⟨v, p, r1, T, rfl, hsm, hpa, hS⟩
  have HP := Lib.hid (And.intro hsm hpa)
  have e1 := hsm.good.ckl
  have hn5 := hsm.good.n5
  obtain ⟨A1, c1, A2, c2, A3, c3⟩ := v
  simp only [PV.val]
  have HE := Lib.hid e1
  have hn2 := hsm.good.n2
  have hfew := hsm.few
  clear hsm hpa e1
  generalize hu : w = u at *
  have hck5 : p.ck.length ≤ 5 := by rw [HE.out]; exact hn5
  have hne : ¬ p.len = [] := by intro h; rw [h] at hn2; simp at hn2
  have HG := Lib.hid HP.out.1.good
  have HPp := Lib.hid HP.out.2
  clear HP
  go_wp2_with (first | (refine oL ?_; (first | refine sL1 hS rfl rfl rfl ?_ | refine sL2 hS rfl rfl rfl ?_ | refine sL3 hS rfl rfl ?_ | refine sL4 hS rfl rfl ?_ | refine sL5 hS rfl rfl ?_ | refine sL6 hS rfl rfl ?_ | refine sL7 hS rfl rfl ?_)) | (refine oS ?_; ((first | refine sS1 hS rfl rfl rfl ?_ | refine sS2 hS rfl rfl rfl ?_ | refine sS3 hS rfl rfl rfl ?_ | refine sS4 hS rfl rfl rfl ?_ | refine sS5 hS rfl rfl rfl ?_); clear hS; intro w hS)) | (refine oP ?_; ((first | refine sP1 hS rfl rfl rfl ?_ | refine sP2 hS rfl rfl rfl ?_ | refine sP3 hS rfl rfl rfl ?_); clear hS; first | ((fail_if_success guard_hyp L1); intro L1 cl1 w hL1 hM1 hS) | ((fail_if_success guard_hyp L2); intro L2 cl2 w hL2 hM2 hS) | fail)) | ((first | refine sN1 hS rfl ?_); clear hS; first | ((fail_if_success guard_hyp g1); intro g1 w hS) | ((fail_if_success guard_hyp g2); intro g2 w hS) | fail) | fail)
  obtain ⟨q, hqz⟩ : ∃ q : Nat, ((a1 : Int) % (p.len.length : Int)) = q := ⟨a1 % p.len.length, by omega⟩
  have hql : q < p.len.length := by
    have := Int.emod_lt_of_pos (a1 : Int) (show (0 : Int) < p.len.length by omega)
    omega
  rw [hqz]
  clear hqz
  have hql' : (q : Int) < p.len.length := by omega
  have hqck : q < p.ck.length := by rw [HE.out]; exact hql
  have HRL := Lib.hid (show (rowOf p.ck q).length ≤ 100 by have := HG.out.rowLen hql; omega)
  obtain ⟨b1, o1, eA, hfq⟩ := HPp.out.len.fc hql
  simp only at eA
  subst eA
  have hlo := HG.out.lo q hql
  have hhi := HG.out.hi q hql
  generalize hm : nth p.len q = m at *
  refine (vector_n rfl rfl rfl rfl (HPp.out.into hS.frozInto) HG.out ⟨hql, by simp, by simp only; omega⟩).mono ?_
  rintro e w ⟨c0, hc0, _, L, cl, rfl, ho, hx1⟩
  rw [vec_zero HG.out hql hc0] at ho
  replace hS := hS.addRow ho hx1
  have HZ0 := Lib.hid (And.intro hc0 (vec_zero HG.out hql hc0))
  clear ho hc0
  have e0 : ((p.len.length : Int) != (p.len.length : Int)) = false := by simp
  go_wp2_with (first | (refine oL ?_; (first | refine sL1 hS rfl rfl rfl ?_ | refine sL2 hS rfl rfl rfl ?_ | refine sL3 hS rfl rfl ?_ | refine sL4 hS rfl rfl ?_ | refine sL5 hS rfl rfl ?_ | refine sL6 hS rfl rfl ?_ | refine sL7 hS rfl rfl ?_)) | (refine oS ?_; ((first | refine sS1 hS rfl rfl rfl ?_ | refine sS2 hS rfl rfl rfl ?_ | refine sS3 hS rfl rfl rfl ?_ | refine sS4 hS rfl rfl rfl ?_ | refine sS5 hS rfl rfl rfl ?_); clear hS; intro w hS)) | (refine oP ?_; ((first | refine sP1 hS rfl rfl rfl ?_ | refine sP2 hS rfl rfl rfl ?_ | refine sP3 hS rfl rfl rfl ?_); clear hS; first | ((fail_if_success guard_hyp L1); intro L1 cl1 w hL1 hM1 hS) | ((fail_if_success guard_hyp L2); intro L2 cl2 w hL2 hM2 hS) | fail)) | ((first | refine sN1 hS rfl ?_); clear hS; first | ((fail_if_success guard_hyp g1); intro g1 w hS) | ((fail_if_success guard_hyp g2); intro g2 w hS) | fail) | fail)
  go_loopw [36] (fun s36 wr => ∃ (j : Nat), j ≤ p.len.length ∧ s36 = .int .i64 j ∧ St w0 NoM [row (.slice L p.len.length cl) 3 1 p.len.length (ints (List.replicate p.len.length 0)), blk g1 [.slice (some ⟨b1, o1, none⟩) p.len.length c1, .slice A2 p.ck.length c2, .slice A3 p.arcs.length c3] 28, froz T u] wr) (fun s36 _ => p.len.length - (intOf s36).toNat)
  case atStart => exact ⟨0, by omega, rfl, hS.re⟩
  case round =>
    obtain ⟨j, hj, rfl, hS⟩ := hrel
    by_cases hlt : j < p.len.length
    · obtain ⟨gx, rfl⟩ := hS.rowSome L (by omega)
      have hcell : (ints (List.replicate p.len.length 0))[j]? = some (.int .i64 0) := by simp [ints, hlt]
      go_wp2_with (first | (refine oL ?_; (first | refine sL1 hS rfl rfl rfl ?_ | refine sL2 hS rfl rfl rfl ?_ | refine sL3 hS rfl rfl ?_ | refine sL4 hS rfl rfl ?_ | refine sL5 hS rfl rfl ?_ | refine sL6 hS rfl rfl ?_ | refine sL7 hS rfl rfl ?_)) | (refine oS ?_; ((first | refine sS1 hS rfl rfl rfl ?_ | refine sS2 hS rfl rfl rfl ?_ | refine sS3 hS rfl rfl rfl ?_ | refine sS4 hS rfl rfl rfl ?_ | refine sS5 hS rfl rfl rfl ?_); clear hS; intro w hS)) | (refine oP ?_; ((first | refine sP1 hS rfl rfl rfl ?_ | refine sP2 hS rfl rfl rfl ?_ | refine sP3 hS rfl rfl rfl ?_); clear hS; first | ((fail_if_success guard_hyp L1); intro L1 cl1 w hL1 hM1 hS) | ((fail_if_success guard_hyp L2); intro L2 cl2 w hL2 hM2 hS) | fail)) | ((first | refine sN1 hS rfl ?_); clear hS; first | ((fail_if_success guard_hyp g1); intro g1 w hS) | ((fail_if_success guard_hyp g2); intro g2 w hS) | fail) | fail)
      go_roundw
      case measure => simp [intOf]; omega
      exact ⟨j + 1, by omega, by go_num, hS⟩
    · clear e0
      go_wp2_with (first | (refine oL ?_; (first | refine sL1 hS rfl rfl rfl ?_ | refine sL2 hS rfl rfl rfl ?_ | refine sL3 hS rfl rfl ?_ | refine sL4 hS rfl rfl ?_ | refine sL5 hS rfl rfl ?_ | refine sL6 hS rfl rfl ?_ | refine sL7 hS rfl rfl ?_)) | (refine oS ?_; ((first | refine sS1 hS rfl rfl rfl ?_ | refine sS2 hS rfl rfl rfl ?_ | refine sS3 hS rfl rfl rfl ?_ | refine sS4 hS rfl rfl rfl ?_ | refine sS5 hS rfl rfl rfl ?_); clear hS; intro w hS)) | (refine oP ?_; ((first | refine sP1 hS rfl rfl rfl ?_ | refine sP2 hS rfl rfl rfl ?_ | refine sP3 hS rfl rfl rfl ?_); clear hS; first | ((fail_if_success guard_hyp L1); intro L1 cl1 w hL1 hM1 hS) | ((fail_if_success guard_hyp L2); intro L2 cl2 w hL2 hM2 hS) | fail)) | ((first | refine sN1 hS rfl ?_); clear hS; first | ((fail_if_success guard_hyp g1); intro g1 w hS) | ((fail_if_success guard_hyp g2); intro g2 w hS) | fail) | fail)
      go_loopw [7, 10] (fun s7 s10 wr => ∃ (k : Nat) (L : Option Addr) (cl : Nat) (zs : List Int), 1 ≤ k ∧ (k : Int) ≤ m + 1 ∧ s10 = .int .i64 k ∧ s7 = .slice L p.len.length cl ∧ Hid (zs.length = p.len.length ∧ ∃ c, IsClk p q ((k : Int) - 1) c ∧ zs = vecN p c) ∧ St w0 NoM [row (.slice L p.len.length cl) 3 1 p.len.length (ints zs), blk g1 [.slice (some ⟨b1, o1, none⟩) p.len.length c1, .slice A2 p.ck.length c2, .slice A3 p.arcs.length c3] 28, froz T u] wr) (fun _ s10 _ => (m + 1).toNat - (intOf s10).toNat)
      case atStart => exact ⟨1, L, cl, List.replicate p.len.length 0, by omega, by simp; omega, rfl, rfl, Lib.hid ⟨by simp, c0, HZ0.out.1, HZ0.out.2.symm⟩, hS⟩
      case round =>
        clear hlt hj HZ0 hx1
        obtain ⟨k, L, cl, zs, hk1, hk, rfl, rfl, HZ, hS⟩ := hrel
        by_cases hlt : (k : Int) ≤ m
        · obtain ⟨HZL, c, HC⟩ : Hid (zs.length = p.len.length) ∧ ∃ c, Hid (IsClk p q ((k : Int) - 1) c ∧ zs = vecN p c) := ⟨Lib.hid HZ.out.1, by obtain ⟨_, c, h⟩ := HZ.out; exact ⟨c, Lib.hid h⟩⟩
          clear HZ
          have d1 : decide ((k : Int) ≤ m) = true := decide_eq_true hlt
          have hpt : PtOk p (q, (k : Int)) := ⟨hql, by simp only; omega, by simp only; omega⟩
          go_wp2_with (first | (refine st_appON hS rfl rfl rfl hS.ri HZL.out (by omega) ?_; clear hS; intro L2 cl2 w hL2 hM2 hS) | (refine oL ?_; (first | refine sL1 hS rfl rfl rfl ?_ | refine sL2 hS rfl rfl rfl ?_ | refine sL3 hS rfl rfl ?_ | refine sL4 hS rfl rfl ?_ | refine sL5 hS rfl rfl ?_ | refine sL6 hS rfl rfl ?_ | refine sL7 hS rfl rfl ?_)) | (refine oS ?_; ((first | refine sS1 hS rfl rfl rfl ?_ | refine sS2 hS rfl rfl rfl ?_ | refine sS3 hS rfl rfl rfl ?_ | refine sS4 hS rfl rfl rfl ?_ | refine sS5 hS rfl rfl rfl ?_); clear hS; intro w hS)) | (refine oP ?_; ((first | refine sP1 hS rfl rfl rfl ?_ | refine sP2 hS rfl rfl rfl ?_ | refine sP3 hS rfl rfl rfl ?_); clear hS; first | ((fail_if_success guard_hyp L1); intro L1 cl1 w hL1 hM1 hS) | ((fail_if_success guard_hyp L2); intro L2 cl2 w hL2 hM2 hS) | fail)) | ((first | refine sN1 hS rfl ?_); clear hS; first | ((fail_if_success guard_hyp g1); intro g1 w hS) | ((fail_if_success guard_hyp g2); intro g2 w hS) | fail) | fail)
          simp only [irow, HZL.out] at hS ⊢
          refine (received_any _ _ _ _ _ _ _ _ p.arcs q (k : Int) _ (HPp.out.into hS.frozInto).arcs (by omega) (by omega)).mono ?_
          rintro e w ⟨z, hz, rfl, hx1⟩
          replace hS := hS.ext hx1
          obtain ⟨g2, rfl⟩ := hS.rowSome L2 (by omega)
          have e0 : ((p.len.length : Int) != (p.len.length : Int)) = false := by simp
          have hqz : q < zs.length := by rw [HZL.out]; exact hql
          rcases hz with ⟨rfl, hno⟩ | ⟨i, hi, rfl, hto, hat⟩
          · have HS : Hid (∀ c', IsClk p q (k : Int) c' → vecN p c' = zs.set q (below (rowOf p.ck q) (k : Int) : Int)) := Lib.hid (fun c' h' => by rw [HC.out.2]; exact vec_step HG.out hql (by omega) (by rw [hm]; exact hlt) HC.out.1 h' hno)
            clear hno
            go_wp2_with (first | (go_at_call 53; refine (rinterval_nn rfl rfl (HPp.out.ck.into hS.frozInto) hqck hck5 HRL.out).mono ?_; rintro e w ⟨rfl, hx1⟩; replace hS := hS.ext hx1; generalize below (rowOf p.ck q) (k : Int) = bl at *) | (go_at_call 34; refine (vector_n rfl rfl rfl rfl (HPp.out.into hS.frozInto) HG.out hpt).mono ?_; rintro e w ⟨c', hc', hvl, L3, cl3, rfl, ho, hx1⟩; replace hS := hS.addRow ho hx1; have HC' := Lib.hid (And.intro hc' hvl); clear ho hc' hvl) | (go_at_call 19; refine (sameInts_z HC'.out.2 (by simp [HZL.out]) hS.ri hS.ri (by omega) (by omega)).mono ?_; rintro e w ⟨rfl, hx1⟩; replace hS := hS.ext hx1; rw [decide_eq_true (HS.out c' HC'.out.1)]) | (go_at_call 54; refine (most_n HZL.out HC'.out.2 hS.ri hS.ri (by omega) (by omega)).mono ?_; rintro e w ⟨rfl, hx1⟩; replace hS := hS.ext hx1; rw [show mostB zs (vecN p c') = true by rw [HC.out.2]; exact vec_most HG.out hql HC.out.1 HC'.out.1]) | (refine oL ?_; (first | refine sL1 hS rfl rfl rfl ?_ | refine sL2 hS rfl rfl rfl ?_ | refine sL3 hS rfl rfl ?_ | refine sL4 hS rfl rfl ?_ | refine sL5 hS rfl rfl ?_ | refine sL6 hS rfl rfl ?_ | refine sL7 hS rfl rfl ?_)) | (refine oS ?_; ((first | refine sS1 hS rfl rfl rfl ?_ | refine sS2 hS rfl rfl rfl ?_ | refine sS3 hS rfl rfl rfl ?_ | refine sS4 hS rfl rfl rfl ?_ | refine sS5 hS rfl rfl rfl ?_); clear hS; intro w hS)) | (refine oP ?_; ((first | refine sP1 hS rfl rfl rfl ?_ | refine sP2 hS rfl rfl rfl ?_ | refine sP3 hS rfl rfl rfl ?_); clear hS; first | ((fail_if_success guard_hyp L1); intro L1 cl1 w hL1 hM1 hS) | ((fail_if_success guard_hyp L2); intro L2 cl2 w hL2 hM2 hS) | fail)) | ((first | refine sN1 hS rfl ?_); clear hS; first | ((fail_if_success guard_hyp g1); intro g1 w hS) | ((fail_if_success guard_hyp g2); intro g2 w hS) | fail) | fail)
            go_roundw
            case measure => simp [intOf]; omega
            exact ⟨k + 1, L3, cl3, vecN p c', by omega, by omega, by go_num, rfl, Lib.hid ⟨HC'.out.2, c', by rw [show ((k + 1 : Nat) : Int) - 1 = k by omega]; exact HC'.out.1, rfl⟩, hS.re⟩
          · have hoa := HG.out.arc _ (List.getElem_mem hi)
            obtain ⟨b3, o3, eA3, hfcs⟩ := HPp.out.arcs.fcs hi
            simp only at eA3
            subst eA3
            have HS : Hid (∀ c' d, IsClk p q (k : Int) c' → IsClk p p.arcs[i].fr p.arcs[i].ix d → vecN p c' = (zipI max zs (vecN p d)).set q (below (rowOf p.ck q) (k : Int) : Int)) := Lib.hid (fun c' d h' hd => by rw [HC.out.2]; exact vec_recv HG.out (by omega) (List.getElem_mem hi) hto hat HC.out.1 h' hd)
            have HPA := Lib.hid (show PtOk p (p.arcs[i].fr, p.arcs[i].ix) from ⟨hoa.fr, hoa.ix0, hoa.ix1⟩)
            generalize p.arcs[i] = ar at *
            have hf0 : FC T u b3 (o3 + i * 4) (.int .i64 (ar.fr : Int)) := ⟨hfcs.t, hfcs.c 0 _ rfl⟩
            have hf1 : FC T u b3 (o3 + i * 4 + 1) (.int .i64 ar.ix) := ⟨hfcs.t, hfcs.c 1 _ rfl⟩
            have hi' : (i : Int) < p.arcs.length := by omega
            clear hto hat hfcs hoa
            go_wp2_with (first | (refine oL ?_; (first | refine sL1 hS rfl rfl rfl ?_ | refine sL2 hS rfl rfl rfl ?_ | refine sL3 hS rfl rfl ?_ | refine sL4 hS rfl rfl ?_ | refine sL5 hS rfl rfl ?_ | refine sL6 hS rfl rfl ?_ | refine sL7 hS rfl rfl ?_)) | (refine oS ?_; ((first | refine sS1 hS rfl rfl rfl ?_ | refine sS2 hS rfl rfl rfl ?_ | refine sS3 hS rfl rfl rfl ?_ | refine sS4 hS rfl rfl rfl ?_ | refine sS5 hS rfl rfl rfl ?_); clear hS; intro w hS)) | (refine oP ?_; ((first | refine sP1 hS rfl rfl rfl ?_ | refine sP2 hS rfl rfl rfl ?_ | refine sP3 hS rfl rfl rfl ?_); clear hS; first | ((fail_if_success guard_hyp L1); intro L1 cl1 w hL1 hM1 hS) | ((fail_if_success guard_hyp L2); intro L2 cl2 w hL2 hM2 hS) | fail)) | ((first | refine sN1 hS rfl ?_); clear hS; first | ((fail_if_success guard_hyp g1); intro g1 w hS) | ((fail_if_success guard_hyp g2); intro g2 w hS) | fail) | fail)
            refine dr_start0 []  hS (by kernel_rfl) rfl ?_; clear hS; intro w hS
            refine dM hS 0 rfl rfl rfl ?_
            (try simp only [Act.put, nA, nB, nC])
            first | refine dL1 hS 1 rfl rfl rfl rfl ?_ | refine dL2 hS 1 rfl rfl rfl rfl ?_ | refine dL3 hS 1 rfl rfl rfl ?_ | refine dL4 hS 1 rfl rfl rfl ?_ | refine dL5 hS 1 rfl rfl rfl ?_ | refine dL6 hS 1 rfl rfl rfl ?_ | refine dL7 hS 1 rfl rfl rfl ?_
            (try simp only [Act.put, nA, nB, nC])
            refine dP hS 2 rfl rfl ?_
            (try simp only [Act.put, nA, nB, nC])
            first | refine dL1 hS 3 rfl rfl rfl rfl ?_ | refine dL2 hS 3 rfl rfl rfl rfl ?_ | refine dL3 hS 3 rfl rfl rfl ?_ | refine dL4 hS 3 rfl rfl rfl ?_ | refine dL5 hS 3 rfl rfl rfl ?_ | refine dL6 hS 3 rfl rfl rfl ?_ | refine dL7 hS 3 rfl rfl rfl ?_
            (try simp only [Act.put, nA, nB, nC])
            refine dM hS 4 rfl rfl rfl ?_
            (try simp only [Act.put, nA, nB, nC])
            refine dP hS 5 rfl rfl ?_
            (try simp only [Act.put, nA, nB, nC])
            refine dP hS 6 rfl rfl ?_
            (try simp only [Act.put, nA, nB, nC])
            first | refine dL1 hS 7 rfl rfl rfl rfl ?_ | refine dL2 hS 7 rfl rfl rfl rfl ?_ | refine dL3 hS 7 rfl rfl rfl ?_ | refine dL4 hS 7 rfl rfl rfl ?_ | refine dL5 hS 7 rfl rfl rfl ?_ | refine dL6 hS 7 rfl rfl rfl ?_ | refine dL7 hS 7 rfl rfl rfl ?_
            (try simp only [Act.put, nA, nB, nC])
            refine dP hS 8 rfl rfl ?_
            (try simp only [Act.put, nA, nB, nC])
            first | refine dL1 hS 9 rfl rfl rfl rfl ?_ | refine dL2 hS 9 rfl rfl rfl rfl ?_ | refine dL3 hS 9 rfl rfl rfl ?_ | refine dL4 hS 9 rfl rfl rfl ?_ | refine dL5 hS 9 rfl rfl rfl ?_ | refine dL6 hS 9 rfl rfl rfl ?_ | refine dL7 hS 9 rfl rfl rfl ?_
            (try simp only [Act.put, nA, nB, nC])
            refine dM hS 10 rfl rfl rfl ?_
            (try simp only [Act.put, nA, nB, nC])
            refine dP hS 11 rfl rfl ?_
            (try simp only [Act.put, nA, nB, nC])
            refine dP hS 12 rfl rfl ?_
            (try simp only [Act.put, nA, nB, nC])
            first | refine dL1 hS 13 rfl rfl rfl rfl ?_ | refine dL2 hS 13 rfl rfl rfl rfl ?_ | refine dL3 hS 13 rfl rfl rfl ?_ | refine dL4 hS 13 rfl rfl rfl ?_ | refine dL5 hS 13 rfl rfl rfl ?_ | refine dL6 hS 13 rfl rfl rfl ?_ | refine dL7 hS 13 rfl rfl rfl ?_
            (try simp only [Act.put, nA, nB, nC])
            refine dr_one 14 (by kernel_rfl) rfl ?_
            (refine st_call rfl (by kernel_rfl) rfl ?_; go_at_call 34; refine (vector_n rfl rfl rfl rfl (HPp.out.into hS.frozInto) HG.out HPA.out).mono ?_; rintro e w ⟨d, hd, hvd, L4, cl4, rfl, ho, hx1⟩; replace hS := hS.addRow ho hx1; have HD := Lib.hid (And.intro hd hvd); clear ho hd hvd)
            (try simp only [Act.put, nA, nB, nC])
            refine dr_end hS ?_
            refine dr_one 15 (by kernel_rfl) rfl ?_
            (refine st_call rfl (by kernel_rfl) rfl ?_; go_at_call 52; refine (join_n HZL.out HD.out.2 hS.ri hS.ri (by omega) (by omega)).mono ?_; rintro e w ⟨L5, cl5, rfl, ho, hx1⟩; have HJL := Lib.hid (show (zipI max zs (vecN p d)).length = p.len.length by rw [zipI_len (by rw [HZL.out, HD.out.2]), HD.out.2]); rw [HJL.out] at ho; replace hS := hS.addRow ho hx1; clear ho; rw [HJL.out])
            (try simp only [Act.put, nA, nB, nC])
            refine dr_end hS ?_
            refine dA hS 16 rfl rfl rfl ?_
            (try simp only [Act.put, nA, nB, nC])
            refine dr_done (by kernel_rfl) ?_
            obtain ⟨g5, rfl⟩ := hS.rowSome L5 (by omega)
            have hqj : q < (zipI max zs (vecN p d)).length := by rw [HJL.out]; exact hql
            go_wp2_with (first | (go_at_call 53; refine (rinterval_nn rfl rfl (HPp.out.ck.into hS.frozInto) hqck hck5 HRL.out).mono ?_; rintro e w ⟨rfl, hx1⟩; replace hS := hS.ext hx1; generalize below (rowOf p.ck q) (k : Int) = bl at *) | (go_at_call 34; refine (vector_n rfl rfl rfl rfl (HPp.out.into hS.frozInto) HG.out hpt).mono ?_; rintro e w ⟨c', hc', hvl, L3, cl3, rfl, ho, hx1⟩; replace hS := hS.addRow ho hx1; have HC' := Lib.hid (And.intro hc' hvl); clear ho hc' hvl) | (go_at_call 19; refine (sameInts_z HC'.out.2 (by simp [HJL.out]) hS.ri hS.ri (by omega) (by omega)).mono ?_; rintro e w ⟨rfl, hx1⟩; replace hS := hS.ext hx1; rw [decide_eq_true (HS.out c' d HC'.out.1 HD.out.1)]) | (go_at_call 54; refine (most_n HZL.out HC'.out.2 hS.ri hS.ri (by omega) (by omega)).mono ?_; rintro e w ⟨rfl, hx1⟩; replace hS := hS.ext hx1; rw [show mostB zs (vecN p c') = true by rw [HC.out.2]; exact vec_most HG.out hql HC.out.1 HC'.out.1]) | (refine oL ?_; (first | refine sL1 hS rfl rfl rfl ?_ | refine sL2 hS rfl rfl rfl ?_ | refine sL3 hS rfl rfl ?_ | refine sL4 hS rfl rfl ?_ | refine sL5 hS rfl rfl ?_ | refine sL6 hS rfl rfl ?_ | refine sL7 hS rfl rfl ?_)) | (refine oS ?_; ((first | refine sS1 hS rfl rfl rfl ?_ | refine sS2 hS rfl rfl rfl ?_ | refine sS3 hS rfl rfl rfl ?_ | refine sS4 hS rfl rfl rfl ?_ | refine sS5 hS rfl rfl rfl ?_); clear hS; intro w hS)) | (refine oP ?_; ((first | refine sP1 hS rfl rfl rfl ?_ | refine sP2 hS rfl rfl rfl ?_ | refine sP3 hS rfl rfl rfl ?_); clear hS; first | ((fail_if_success guard_hyp L1); intro L1 cl1 w hL1 hM1 hS) | ((fail_if_success guard_hyp L2); intro L2 cl2 w hL2 hM2 hS) | fail)) | ((first | refine sN1 hS rfl ?_); clear hS; first | ((fail_if_success guard_hyp g1); intro g1 w hS) | ((fail_if_success guard_hyp g2); intro g2 w hS) | fail) | fail)
            go_roundw
            case measure => simp [intOf]; omega
            exact ⟨k + 1, L3, cl3, vecN p c', by omega, by omega, by go_num, rfl, Lib.hid ⟨HC'.out.2, c', by rw [show ((k + 1 : Nat) : Int) - 1 = k by omega]; exact HC'.out.1, rfl⟩, hS.re⟩
        · have d1 : decide ((k : Int) ≤ m) = false := decide_eq_false hlt
          go_wp2_with (first | (refine oL ?_; (first | refine sL1 hS rfl rfl rfl ?_ | refine sL2 hS rfl rfl rfl ?_ | refine sL3 hS rfl rfl ?_ | refine sL4 hS rfl rfl ?_ | refine sL5 hS rfl rfl ?_ | refine sL6 hS rfl rfl ?_ | refine sL7 hS rfl rfl ?_)) | (refine oS ?_; ((first | refine sS1 hS rfl rfl rfl ?_ | refine sS2 hS rfl rfl rfl ?_ | refine sS3 hS rfl rfl rfl ?_ | refine sS4 hS rfl rfl rfl ?_ | refine sS5 hS rfl rfl rfl ?_); clear hS; intro w hS)) | (refine oP ?_; ((first | refine sP1 hS rfl rfl rfl ?_ | refine sP2 hS rfl rfl rfl ?_ | refine sP3 hS rfl rfl rfl ?_); clear hS; first | ((fail_if_success guard_hyp L1); intro L1 cl1 w hL1 hM1 hS) | ((fail_if_success guard_hyp L2); intro L2 cl2 w hL2 hM2 hS) | fail)) | ((first | refine sN1 hS rfl ?_); clear hS; first | ((fail_if_success guard_hyp g1); intro g1 w hS) | ((fail_if_success guard_hyp g2); intro g2 w hS) | fail) | fail)
          go_ret
          exact ⟨rfl, hS.toExt⟩
open Go.ChangeShapes Go.WideShapes Go.ChangeAt
set_option maxRecDepth 100000 in
theorem lifted_DependGrows (os : Os) (started : os.Started) (H : Type) (enc : TypeId × Value → H) :
    ReturnsInHanded {} Try.checked os 12 .any (Rows.dependGrowsSpec.pre6 enc Try.prog Try.f12 Rows.dependGrowsRow.domain false) (Rows.dependGrowsSpec.post enc Try.prog Try.f12 false true false false) := by
  refine law_lifted (C := Try.checked) (s := Rows.dependGrowsSpec) (tb := 4) (by kernel_rfl) started (by kernel_rfl) Try.func12
      (ChangeSpec.witness6 (enc := enc) (C := Try.checked) false ⟨#[], #[.slice none 0 0, .int .u8 0], []⟩ 8 (by kernel_rfl) (by kernel_rfl) (by kernel_rfl) (by kernel_rfl))
      (by kernel_rfl) rfl rfl Try.underlying4 (read_of (by kernel_rfl)) ?_ ?_
  · intro ds hl
    match ds, hl with
    | [d0, d1], _ => exact ⟨rfl, rfl, rfl⟩
  · intro W base args ds p hval0 hA0
    have hval : ∀ (j : Nat) t v, Try.f12.params[j]? = some t → args[j]? = some v → Value.okWide Try.prog W .any base t v := hval0
    have hA : DataW.TrodAll enc Try.prog W 0 (fun _ => true) true Try.f12.params.toList args.toList ds p := hA0
    clear hA0 hval0
    rw [Try.params12] at hA hval
    obtain ⟨v0, v1, d0, d1, p0, p1, rfl, rfl, rfl, h0, h1⟩ := trodAll_two hA
    obtain ⟨A0, c0, xs0, rfl, hri0, hc0, hd0, hwf0⟩ := open_nums Try.underlying22 Try.underlying5 (by kernel_rfl) (hval 0 _ v0 rfl rfl) h0
    obtain ⟨x1, rfl, _, _, hz1⟩ := open_int Try.underlying5 (hval 1 _ v1 rfl rfl) h1
    have hb1 := u8_bd hz1
    obtain ⟨z1, rfl⟩ : ∃ zn : Nat, x1 = zn := ⟨x1.toNat, by omega⟩
    exact dependGrows_any A0 c0 xs0 z1 W hri0 hc0 hd0 (fun b hb => u8_bd (hwf0 b hb)) (by omega)
/-- DependGrows returns true for every input, and leaves its arguments as they were. -/
theorem proved_DependGrows : Rows.DependGrowsSaid :=
  OpenClaim.holds_of_wide 12 Try.f12 rfl rfl rfl rfl rfl rfl rfl ⟨rfl, rfl, rfl, rfl, rfl⟩ rfl rfl rfl rfl rfl (by kernel_rfl) Try.func12 (by kernel_rfl)
    (of_decide_eq_true (by kernel_rfl)) (by unfold Func.isWrapper; rw [if_neg (by decide +kernel)]; exact ⟨rfl, rfl⟩)
    (fun os started H enc _ => lifted_DependGrows os started H enc)
end Go.Proofs.Ytkflmichekpfbaa
