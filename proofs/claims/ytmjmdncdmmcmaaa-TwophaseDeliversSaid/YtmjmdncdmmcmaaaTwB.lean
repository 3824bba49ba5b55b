/- Two-phase checkpointing: last, sources, source: what they return. Conditions: the pattern is good and lies in memory. -/
import Derived.Test.YtmjmdncdmmcmaaaTwA
import Derived.Test.YtmjmdncdmmcmaaaGa
import Derived.Test.YtmjmdncdmmcmaaaGd
import Derived.Test.YtmjmdncdmmcmaaaGc
import Derived.Test.YtmjmdncdmmcmaaaSorts
import Derived.Test.YtmjmdncdmmcmaaaOwnQ
import Derived.Test.YtmjmdncdmmcmaaaGe
import Derived.Deep.DeepCutAuto
namespace Go.Proofs.Ytmjmdncdmmcmaaa
open Go.RowKit
set_option linter.unusedVariables false
set_option linter.unusedSimpArgs false
set_option linter.unusedSectionVars false

theorem Good.row1 {p : Pat} (hg : Good p) {q : Nat} (hq : q < p.len.length) : 0 < (rowOf p.ck q).length ∧ (rowOf p.ck q).length ≤ 65 := by
  refine ⟨?_, hg.rowLen hq⟩
  obtain ⟨r, hr⟩ := (hg.row q hq).head
  rw [hr]; simp
set_option maxRecDepth 100000 in
set_option maxHeartbeats 1600000 in
theorem plast_any {S : Nat → Prop} (v : PV) (p : Pat) (q : Nat) (w0 : World) (hp : PatAt S w0 v p) (hg : Good p) (hq : q < p.len.length) :
    Calls Try.prog 86 #[v.val p, .int .i64 (q : Int)] w0 fun e w' => e = .returned (.int .i64 (lastC p q)) ∧ Ext w0 w' := by
  have hS := St.start w0 NoM
  obtain ⟨A1, c1, A2, c2, A3, c3⟩ := v
  obtain ⟨h0, h65⟩ := hg.row1 hq
  have hqc : q < p.ck.length := by rw [hg.ckl]; exact hq
  obtain ⟨b, o, B, c, hA2, _, hcell, hlc, hc, hri⟩ := hp.ck.atS hqc
  simp only at hA2
  subst hA2
  rw [← rowOf_eq hqc] at hcell hlc hri
  have HL := Lib.hid (show lastC p q = nth (rowOf p.ck q) ((rowOf p.ck q).length - 1) from rfl)
  clear hp hg
  obtain ⟨b2, o2, rfl, _, hc2⟩ := hri.atNS (k := (rowOf p.ck q).length - 1) (by omega)
  simp only [PV.val]
  generalize rowOf p.ck q = l at *
  have hl1 : ((l.length : Int) - 1) = ((l.length - 1 : Nat) : Int) := by omega
  have hl2 : ((l.length - 1 : Nat) : Int) < (l.length : Int) := by omega
  have hqc' : (q : Int) < p.ck.length := by omega
  generalize hx : nth l (l.length - 1) = x at *
  clear hx
  generalize l.length - 1 = m at *
  generalize l.length = n at *
  go_enter Try.func86, Try.ntmps86
  go_upto_region 1 with ((((((refine oB ?_; (refine sB1 hS rfl rfl ?_)))); clear hS; (((fail_if_success guard_hyp g1); intro g1 w hS)))))
  refine dr_start0 []  hS (by kernel_rfl) rfl ?_; clear hS; intro w hS
  refine dP hS 0 rfl rfl ?_
  (try simp only [Act.put, nA, nB, nC])
  (refine dL1 hS 1 rfl rfl rfl rfl ?_)
  (try simp only [Act.put, nA, nB, nC])
  refine dM hS 2 rfl rfl rfl ?_
  (try simp only [Act.put, nA, nB, nC])
  refine dP hS 3 rfl rfl ?_
  (try simp only [Act.put, nA, nB, nC])
  (refine dL4 hS 4 rfl rfl rfl ?_)
  (try simp only [Act.put, nA, nB, nC])
  refine dP hS 5 rfl rfl ?_
  (try simp only [Act.put, nA, nB, nC])
  (refine dL1 hS 6 rfl rfl rfl rfl ?_)
  (try simp only [Act.put, nA, nB, nC])
  refine dM hS 7 rfl rfl rfl ?_
  (try simp only [Act.put, nA, nB, nC])
  refine dP hS 8 rfl rfl ?_
  (try simp only [Act.put, nA, nB, nC])
  (refine dL4 hS 9 rfl rfl rfl ?_)
  (try simp only [Act.put, nA, nB, nC])
  refine dP hS 10 rfl rfl ?_
  (try simp only [Act.put, nA, nB, nC])
  refine dP hS 11 rfl rfl ?_
  (try simp only [Act.put, nA, nB, nC])
  refine dP hS 12 rfl rfl ?_
  (try simp only [Act.put, nA, nB, nC])
  (refine dL4 hS 13 rfl rfl rfl ?_)
  (try simp only [Act.put, nA, nB, nC])
  refine dA hS 14 rfl rfl rfl ?_
  (try simp only [Act.put, nA, nB, nC])
  refine dr_done (by kernel_rfl) ?_
  go_wp2_with (fail)
  go_ret
  rw [HL.out]
  exact ⟨rfl, hS.toExt⟩
set_option maxRecDepth 100000 in
set_option maxHeartbeats 1600000 in
theorem rlast_any {S : Nat → Prop} (v : PV) (p : Pat) (q : Nat) (w0 : World) (hp : PatAt S w0 v p) (hg : Good p) (hq : q < p.len.length) :
    Calls Try.prog 118 #[v.val p, .int .i64 (q : Int)] w0 fun e w' => e = .returned (.int .i64 (lastC p q)) ∧ Ext w0 w' := by
  have hS := St.start w0 NoM
  obtain ⟨A1, c1, A2, c2, A3, c3⟩ := v
  obtain ⟨h0, h65⟩ := hg.row1 hq
  have hqc : q < p.ck.length := by rw [hg.ckl]; exact hq
  obtain ⟨b, o, B, c, hA2, _, hcell, hlc, hc, hri⟩ := hp.ck.atS hqc
  simp only at hA2
  subst hA2
  rw [← rowOf_eq hqc] at hcell hlc hri
  have HL := Lib.hid (show lastC p q = nth (rowOf p.ck q) ((rowOf p.ck q).length - 1) from rfl)
  clear hp hg
  obtain ⟨b2, o2, rfl, _, hc2⟩ := hri.atNS (k := (rowOf p.ck q).length - 1) (by omega)
  simp only [PV.val]
  generalize rowOf p.ck q = l at *
  have hl1 : ((l.length : Int) - 1) = ((l.length - 1 : Nat) : Int) := by omega
  have hl2 : ((l.length - 1 : Nat) : Int) < (l.length : Int) := by omega
  have hqc' : (q : Int) < p.ck.length := by omega
  generalize hx : nth l (l.length - 1) = x at *
  clear hx
  generalize l.length - 1 = m at *
  generalize l.length = n at *
  go_enter Try.func118, Try.ntmps118
  go_upto_region 1 with ((((((refine oB ?_; (refine sB1 hS rfl rfl ?_)))); clear hS; (((fail_if_success guard_hyp g1); intro g1 w hS)))))
  refine dr_start0 []  hS (by kernel_rfl) rfl ?_; clear hS; intro w hS
  refine dP hS 0 rfl rfl ?_
  (try simp only [Act.put, nA, nB, nC])
  (refine dL1 hS 1 rfl rfl rfl rfl ?_)
  (try simp only [Act.put, nA, nB, nC])
  refine dM hS 2 rfl rfl rfl ?_
  (try simp only [Act.put, nA, nB, nC])
  refine dP hS 3 rfl rfl ?_
  (try simp only [Act.put, nA, nB, nC])
  (refine dL4 hS 4 rfl rfl rfl ?_)
  (try simp only [Act.put, nA, nB, nC])
  refine dP hS 5 rfl rfl ?_
  (try simp only [Act.put, nA, nB, nC])
  (refine dL1 hS 6 rfl rfl rfl rfl ?_)
  (try simp only [Act.put, nA, nB, nC])
  refine dM hS 7 rfl rfl rfl ?_
  (try simp only [Act.put, nA, nB, nC])
  refine dP hS 8 rfl rfl ?_
  (try simp only [Act.put, nA, nB, nC])
  (refine dL4 hS 9 rfl rfl rfl ?_)
  (try simp only [Act.put, nA, nB, nC])
  refine dP hS 10 rfl rfl ?_
  (try simp only [Act.put, nA, nB, nC])
  refine dP hS 11 rfl rfl ?_
  (try simp only [Act.put, nA, nB, nC])
  refine dP hS 12 rfl rfl ?_
  (try simp only [Act.put, nA, nB, nC])
  (refine dL4 hS 13 rfl rfl rfl ?_)
  (try simp only [Act.put, nA, nB, nC])
  refine dA hS 14 rfl rfl rfl ?_
  (try simp only [Act.put, nA, nB, nC])
  refine dr_done (by kernel_rfl) ?_
  go_wp2_with (fail)
  go_ret
  rw [HL.out]
  exact ⟨rfl, hS.toExt⟩
theorem arcCells_eq (a : Arc) : arcCells a = [.int .i64 (a.fr : Int), .int .i64 a.ix, .int .i64 (a.to : Int), .int .i64 a.at_] := rfl
set_option maxRecDepth 100000 in
set_option maxHeartbeats 3200000 in
theorem sources_any {S : Nat → Prop} (v : PV) (p : Pat) (q : Nat) (w0 : World) (hp : PatAt S w0 v p) (hg : Good p) (hq : q < p.len.length) :
    Calls Try.prog 55 #[v.val p, .int .i64 (q : Int)] w0 (RetRow w0 3 1 (srcL p q).length (ints (nats (srcL p q)))) := by
  have hS := St.start w0 NoM
  obtain ⟨A1, c1, A2, c2, A3, c3⟩ := v
  have HP := Lib.hid (And.intro hp hg)
  have hfew := hg.few
  clear hp hg
  simp only [PV.val]
  go_enter Try.func55, Try.ntmps55
  go_wp2_with (first | (refine oL ?_; ((refine sL1 hS rfl rfl rfl ?_))) | ((((refine oB ?_; (refine sB1 hS rfl rfl ?_)))); clear hS; (((fail_if_success guard_hyp g1); intro g1 w hS))))
  replace hS := hS.addNil 3 1
  go_loopw [5, 7, 11] (fun s5 s7 s11 wr => ∃ (j c5 : Nat) (L : Option Addr), j ≤ p.arcs.length ∧ s11 = .int .i64 j ∧ s5 = .slice L (nats (colL p q (p.arcs.take j))).length c5 ∧ St w0 NoM [irow 3 L c5 (nats (colL p q (p.arcs.take j))), blk g1 [.slice A1 p.len.length c1, .slice A2 p.ck.length c2, .slice A3 p.arcs.length c3] 44] wr) (fun _ _ s11 _ => p.arcs.length - (intOf s11).toNat)
  case atStart => exact ⟨0, 0, none, by omega, rfl, rfl, hS⟩
  case round =>
    clear hS
    obtain ⟨j, c5, L, hj, rfl, rfl, hS⟩ := hrel
    have hcl := colL_len p q (p.arcs.take j)
    rw [List.length_take] at hcl
    have hnl : (nats (colL p q (p.arcs.take j))).length ≤ 256 := by rw [List.length_map]; omega
    by_cases hjl : j < p.arcs.length
    · have hjl' : (j : Int) < p.arcs.length := by omega
      obtain ⟨b3, o3, hA3, _, hcs⟩ := HP.out.1.arcs.cells hjl
      simp only at hA3
      subst hA3
      have hak := HP.out.2.arc p.arcs[j] (List.getElem_mem hjl)
      have HTK := Lib.hid (show p.arcs.take (j + 1) = p.arcs.take j ++ [p.arcs[j]] from List.take_succ_eq_append_getElem hjl)
      have HCS := Lib.hid (colL_snoc p q (p.arcs.take j) p.arcs[j])
      have hfl := hak.fr
      have hat0 := hak.at0
      generalize p.arcs[j] = ar at *
      rw [arcCells_eq] at hcs
      have HSB := Lib.hid (show srcB p q ar = (decide (ar.to = q) && decide (ar.at_ ≠ 0) && decide (lastC p ar.fr < ar.ix)) from rfl)
      have hnq : ar.to = q → ar.fr ≠ q := fun e => e ▸ hak.ne
      clear hak
      have HLA := Lib.hid (plast_any (S := S) ⟨A1, c1, A2, c2, some ⟨b3, o3, none⟩, c3⟩ p ar.fr)
      by_cases h1 : ar.to = q
      · have he1 : ((ar.to : Int) == (q : Int)) = true := by simp [h1]
        have he3 : ((ar.fr : Int) != (q : Int)) = true := by have := hnq h1; simp; omega
        by_cases h2 : ar.at_ = 0
        · have HN := Lib.hid (show colL p q (p.arcs.take (j + 1)) = colL p q (p.arcs.take j) by rw [HTK.out, HCS.out, if_neg (by rw [HSB.out]; simp [h2])])
          have he2 : (ar.at_ != 0) = false := by simp [h2]
          clear h1 h2 HCS HTK HSB
          go_upto_region 5 with (first | (refine oL ?_; ((refine sL3 hS rfl rfl ?_))) | (refine oS ?_; (((refine sS4 hS rfl rfl rfl ?_)); clear hS; intro w hS)) | (((refine sN1 hS rfl ?_)); clear hS; (((fail_if_success guard_hyp g2); intro g2 w hS))))
          refine dr_start0 []  hS (by kernel_rfl) rfl ?_; clear hS; intro w hS
          refine dP hS 0 rfl rfl ?_
          (try simp only [Act.put, nA, nB, nC])
          (refine dL1 hS 1 rfl rfl rfl rfl ?_)
          (try simp only [Act.put, nA, nB, nC])
          refine dM hS 2 rfl rfl rfl ?_
          (try simp only [Act.put, nA, nB, nC])
          refine dP hS 3 rfl rfl ?_
          (try simp only [Act.put, nA, nB, nC])
          refine dM hS 4 rfl rfl rfl ?_
          (try simp only [Act.put, nA, nB, nC])
          first | refine dP hS 5 rfl rfl ?_ | refine dQ hS 5 rfl rfl ?_
          (try simp only [Act.put, nA, nB, nC])
          (refine dL1 hS 6 rfl rfl rfl rfl ?_)
          (try simp only [Act.put, nA, nB, nC])
          first | refine dP hS 7 rfl rfl ?_ | refine dQ hS 7 rfl rfl ?_
          (try simp only [Act.put, nA, nB, nC])
          refine dP hS 8 rfl rfl ?_
          (try simp only [Act.put, nA, nB, nC])
          refine dM hS 9 rfl rfl rfl ?_
          (try simp only [Act.put, nA, nB, nC])
          first | refine dP hS 10 rfl rfl ?_ | refine dQ hS 10 rfl rfl ?_
          (try simp only [Act.put, nA, nB, nC])
          (refine dQ hS 11 rfl rfl ?_)
          (try simp only [Act.put, nA, nB, nC])
          first | refine dM hS 12 rfl rfl rfl ?_ | refine dQ hS 12 rfl rfl ?_
          (try simp only [Act.put, nA, nB, nC])
          first | refine dP hS 13 rfl rfl ?_ | refine dQ hS 13 rfl rfl ?_
          (try simp only [Act.put, nA, nB, nC])
          refine dP hS 14 rfl rfl ?_
          (try simp only [Act.put, nA, nB, nC])
          refine dM hS 15 rfl rfl rfl ?_
          (try simp only [Act.put, nA, nB, nC])
          first | refine dP hS 16 rfl rfl ?_ | refine dQ hS 16 rfl rfl ?_
          (try simp only [Act.put, nA, nB, nC])
          (refine dQ hS 17 rfl rfl ?_)
          (try simp only [Act.put, nA, nB, nC])
          (refine dQ hS 18 rfl rfl ?_)
          (try simp only [Act.put, nA, nB, nC])
          first | refine dP hS 19 rfl rfl ?_ | refine dQ hS 19 rfl rfl ?_
          (try simp only [Act.put, nA, nB, nC])
          (refine dQ hS 20 rfl rfl ?_)
          (try simp only [Act.put, nA, nB, nC])
          refine dr_one 21 (by kernel_rfl) rfl ?_
          refine wpList_skip rfl ?_
          (try simp only [Act.put, nA, nB, nC])
          refine dr_end hS ?_
          first | refine dP hS 22 rfl rfl ?_ | refine dQ hS 22 rfl rfl ?_
          (try simp only [Act.put, nA, nB, nC])
          refine dP hS 23 rfl rfl ?_
          (try simp only [Act.put, nA, nB, nC])
          refine dr_done (by kernel_rfl) ?_
          go_wp2_with (fail)
          go_roundw
          case measure => simp [intOf]; try omega
          exact ⟨j + 1, c5, L, by omega, by go_num, by first | (rw [HN.out]; done) | (rw [HN.out]; simp), by rw [HN.out]; exact hS.re⟩
        · have he2 : (ar.at_ != 0) = true := by simp [h2]
          by_cases h3 : lastC p ar.fr < ar.ix
          · have HN := Lib.hid (show colL p q (p.arcs.take (j + 1)) = colL p q (p.arcs.take j) ++ [ar.fr] by rw [HTK.out, HCS.out, if_pos (by rw [HSB.out]; simp [h1, h2, h3])])
            have dk : decide (lastC p ar.fr < ar.ix) = true := decide_eq_true h3
            clear h1 h2 h3 HCS HTK HSB
            go_upto_region 5 with (first | (refine oL ?_; ((refine sL3 hS rfl rfl ?_))) | (refine oS ?_; (((refine sS4 hS rfl rfl rfl ?_)); clear hS; intro w hS)) | (((refine sN1 hS rfl ?_)); clear hS; (((fail_if_success guard_hyp g2); intro g2 w hS))))
            refine dr_start0 []  hS (by kernel_rfl) rfl ?_; clear hS; intro w hS
            refine dP hS 0 rfl rfl ?_
            (try simp only [Act.put, nA, nB, nC])
            (refine dL1 hS 1 rfl rfl rfl rfl ?_)
            (try simp only [Act.put, nA, nB, nC])
            refine dM hS 2 rfl rfl rfl ?_
            (try simp only [Act.put, nA, nB, nC])
            refine dP hS 3 rfl rfl ?_
            (try simp only [Act.put, nA, nB, nC])
            refine dM hS 4 rfl rfl rfl ?_
            (try simp only [Act.put, nA, nB, nC])
            first | refine dP hS 5 rfl rfl ?_ | refine dQ hS 5 rfl rfl ?_
            (try simp only [Act.put, nA, nB, nC])
            (refine dL1 hS 6 rfl rfl rfl rfl ?_)
            (try simp only [Act.put, nA, nB, nC])
            first | refine dP hS 7 rfl rfl ?_ | refine dQ hS 7 rfl rfl ?_
            (try simp only [Act.put, nA, nB, nC])
            refine dP hS 8 rfl rfl ?_
            (try simp only [Act.put, nA, nB, nC])
            refine dM hS 9 rfl rfl rfl ?_
            (try simp only [Act.put, nA, nB, nC])
            first | refine dP hS 10 rfl rfl ?_ | refine dQ hS 10 rfl rfl ?_
            (try simp only [Act.put, nA, nB, nC])
            (refine dL1 hS 11 rfl rfl rfl rfl ?_)
            (try simp only [Act.put, nA, nB, nC])
            first | refine dM hS 12 rfl rfl rfl ?_ | refine dQ hS 12 rfl rfl ?_
            (try simp only [Act.put, nA, nB, nC])
            first | refine dP hS 13 rfl rfl ?_ | refine dQ hS 13 rfl rfl ?_
            (try simp only [Act.put, nA, nB, nC])
            refine dP hS 14 rfl rfl ?_
            (try simp only [Act.put, nA, nB, nC])
            refine dM hS 15 rfl rfl rfl ?_
            (try simp only [Act.put, nA, nB, nC])
            first | refine dP hS 16 rfl rfl ?_ | refine dQ hS 16 rfl rfl ?_
            (try simp only [Act.put, nA, nB, nC])
            (refine dL1 hS 17 rfl rfl rfl rfl ?_)
            (try simp only [Act.put, nA, nB, nC])
            (refine dL2 hS 18 rfl rfl rfl rfl ?_)
            (try simp only [Act.put, nA, nB, nC])
            first | refine dP hS 19 rfl rfl ?_ | refine dQ hS 19 rfl rfl ?_
            (try simp only [Act.put, nA, nB, nC])
            (refine dL1 hS 20 rfl rfl rfl rfl ?_)
            (try simp only [Act.put, nA, nB, nC])
            refine dr_one 21 (by kernel_rfl) rfl ?_
            (refine st_call rfl (by kernel_rfl) rfl ?_; go_at_call 86; refine (HLA.out _ (HP.out.1.ext hS.toExt) HP.out.2 hfl).mono ?_; rintro e w ⟨rfl, hx1⟩; replace hS := hS.ext hx1; clear hx1)
            (try simp only [Act.put, nA, nB, nC])
            refine dr_end hS ?_
            first | refine dP hS 22 rfl rfl ?_ | refine dQ hS 22 rfl rfl ?_
            (try simp only [Act.put, nA, nB, nC])
            refine dP hS 23 rfl rfl ?_
            (try simp only [Act.put, nA, nB, nC])
            refine dr_done (by kernel_rfl) ?_
            go_wp2_with (first | (refine oL ?_; ((refine sL1 hS rfl rfl rfl ?_))) | (refine oP ?_; (((refine sP1 hS rfl rfl rfl ?_)); clear hS; (((fail_if_success guard_hyp L1); intro L1 cl1 w hL1 hM1 hS)))) | ((((refine oC ?_; (refine sC1 hS rfl rfl ?_)))); clear hS; (((fail_if_success guard_hyp g3); intro g3 w hS))))
            go_roundw
            case measure => simp [intOf]; try omega
            have e : nats (colL p q (p.arcs.take (j + 1))) = nats (colL p q (p.arcs.take j)) ++ [(ar.fr : Int)] := by rw [HN.out]; simp
            exact ⟨j + 1, cl1, L1, by omega, by go_num, by rw [e]; simp, by rw [e]; exact hS.re⟩
          · have HN := Lib.hid (show colL p q (p.arcs.take (j + 1)) = colL p q (p.arcs.take j) by rw [HTK.out, HCS.out, if_neg (by rw [HSB.out]; simp [h3])])
            have dk : decide (lastC p ar.fr < ar.ix) = false := decide_eq_false h3
            clear h1 h2 h3 HCS HTK HSB
            go_upto_region 5 with (first | (refine oL ?_; ((refine sL3 hS rfl rfl ?_))) | (refine oS ?_; (((refine sS4 hS rfl rfl rfl ?_)); clear hS; intro w hS)) | (((refine sN1 hS rfl ?_)); clear hS; (((fail_if_success guard_hyp g2); intro g2 w hS))))
            refine dr_start0 []  hS (by kernel_rfl) rfl ?_; clear hS; intro w hS
            refine dP hS 0 rfl rfl ?_
            (try simp only [Act.put, nA, nB, nC])
            (refine dL1 hS 1 rfl rfl rfl rfl ?_)
            (try simp only [Act.put, nA, nB, nC])
            refine dM hS 2 rfl rfl rfl ?_
            (try simp only [Act.put, nA, nB, nC])
            refine dP hS 3 rfl rfl ?_
            (try simp only [Act.put, nA, nB, nC])
            refine dM hS 4 rfl rfl rfl ?_
            (try simp only [Act.put, nA, nB, nC])
            first | refine dP hS 5 rfl rfl ?_ | refine dQ hS 5 rfl rfl ?_
            (try simp only [Act.put, nA, nB, nC])
            (refine dL1 hS 6 rfl rfl rfl rfl ?_)
            (try simp only [Act.put, nA, nB, nC])
            first | refine dP hS 7 rfl rfl ?_ | refine dQ hS 7 rfl rfl ?_
            (try simp only [Act.put, nA, nB, nC])
            refine dP hS 8 rfl rfl ?_
            (try simp only [Act.put, nA, nB, nC])
            refine dM hS 9 rfl rfl rfl ?_
            (try simp only [Act.put, nA, nB, nC])
            first | refine dP hS 10 rfl rfl ?_ | refine dQ hS 10 rfl rfl ?_
            (try simp only [Act.put, nA, nB, nC])
            (refine dL1 hS 11 rfl rfl rfl rfl ?_)
            (try simp only [Act.put, nA, nB, nC])
            first | refine dM hS 12 rfl rfl rfl ?_ | refine dQ hS 12 rfl rfl ?_
            (try simp only [Act.put, nA, nB, nC])
            first | refine dP hS 13 rfl rfl ?_ | refine dQ hS 13 rfl rfl ?_
            (try simp only [Act.put, nA, nB, nC])
            refine dP hS 14 rfl rfl ?_
            (try simp only [Act.put, nA, nB, nC])
            refine dM hS 15 rfl rfl rfl ?_
            (try simp only [Act.put, nA, nB, nC])
            first | refine dP hS 16 rfl rfl ?_ | refine dQ hS 16 rfl rfl ?_
            (try simp only [Act.put, nA, nB, nC])
            (refine dL1 hS 17 rfl rfl rfl rfl ?_)
            (try simp only [Act.put, nA, nB, nC])
            (refine dL2 hS 18 rfl rfl rfl rfl ?_)
            (try simp only [Act.put, nA, nB, nC])
            first | refine dP hS 19 rfl rfl ?_ | refine dQ hS 19 rfl rfl ?_
            (try simp only [Act.put, nA, nB, nC])
            (refine dL1 hS 20 rfl rfl rfl rfl ?_)
            (try simp only [Act.put, nA, nB, nC])
            refine dr_one 21 (by kernel_rfl) rfl ?_
            (refine st_call rfl (by kernel_rfl) rfl ?_; go_at_call 86; refine (HLA.out _ (HP.out.1.ext hS.toExt) HP.out.2 hfl).mono ?_; rintro e w ⟨rfl, hx1⟩; replace hS := hS.ext hx1; clear hx1)
            (try simp only [Act.put, nA, nB, nC])
            refine dr_end hS ?_
            first | refine dP hS 22 rfl rfl ?_ | refine dQ hS 22 rfl rfl ?_
            (try simp only [Act.put, nA, nB, nC])
            refine dP hS 23 rfl rfl ?_
            (try simp only [Act.put, nA, nB, nC])
            refine dr_done (by kernel_rfl) ?_
            go_wp2_with (fail)
            go_roundw
            case measure => simp [intOf]; try omega
            exact ⟨j + 1, c5, L, by omega, by go_num, by first | (rw [HN.out]; done) | (rw [HN.out]; simp), by rw [HN.out]; exact hS.re⟩
      · have HN := Lib.hid (show colL p q (p.arcs.take (j + 1)) = colL p q (p.arcs.take j) by rw [HTK.out, HCS.out, if_neg (by rw [HSB.out]; simp [h1])])
        have he1 : ((ar.to : Int) == (q : Int)) = false := by simp; omega
        clear h1 HCS HTK HSB
        go_upto_region 5 with (first | (refine oL ?_; ((refine sL3 hS rfl rfl ?_))) | (refine oS ?_; (((refine sS4 hS rfl rfl rfl ?_)); clear hS; intro w hS)) | (((refine sN1 hS rfl ?_)); clear hS; (((fail_if_success guard_hyp g2); intro g2 w hS))))
        refine dr_start0 []  hS (by kernel_rfl) rfl ?_; clear hS; intro w hS
        refine dP hS 0 rfl rfl ?_
        (try simp only [Act.put, nA, nB, nC])
        (refine dL1 hS 1 rfl rfl rfl rfl ?_)
        (try simp only [Act.put, nA, nB, nC])
        refine dM hS 2 rfl rfl rfl ?_
        (try simp only [Act.put, nA, nB, nC])
        refine dP hS 3 rfl rfl ?_
        (try simp only [Act.put, nA, nB, nC])
        refine dM hS 4 rfl rfl rfl ?_
        (try simp only [Act.put, nA, nB, nC])
        first | refine dP hS 5 rfl rfl ?_ | refine dQ hS 5 rfl rfl ?_
        (try simp only [Act.put, nA, nB, nC])
        (refine dQ hS 6 rfl rfl ?_)
        (try simp only [Act.put, nA, nB, nC])
        first | refine dP hS 7 rfl rfl ?_ | refine dQ hS 7 rfl rfl ?_
        (try simp only [Act.put, nA, nB, nC])
        refine dP hS 8 rfl rfl ?_
        (try simp only [Act.put, nA, nB, nC])
        refine dM hS 9 rfl rfl rfl ?_
        (try simp only [Act.put, nA, nB, nC])
        first | refine dP hS 10 rfl rfl ?_ | refine dQ hS 10 rfl rfl ?_
        (try simp only [Act.put, nA, nB, nC])
        (refine dQ hS 11 rfl rfl ?_)
        (try simp only [Act.put, nA, nB, nC])
        first | refine dM hS 12 rfl rfl rfl ?_ | refine dQ hS 12 rfl rfl ?_
        (try simp only [Act.put, nA, nB, nC])
        first | refine dP hS 13 rfl rfl ?_ | refine dQ hS 13 rfl rfl ?_
        (try simp only [Act.put, nA, nB, nC])
        refine dP hS 14 rfl rfl ?_
        (try simp only [Act.put, nA, nB, nC])
        refine dM hS 15 rfl rfl rfl ?_
        (try simp only [Act.put, nA, nB, nC])
        first | refine dP hS 16 rfl rfl ?_ | refine dQ hS 16 rfl rfl ?_
        (try simp only [Act.put, nA, nB, nC])
        (refine dQ hS 17 rfl rfl ?_)
        (try simp only [Act.put, nA, nB, nC])
        (refine dQ hS 18 rfl rfl ?_)
        (try simp only [Act.put, nA, nB, nC])
        first | refine dP hS 19 rfl rfl ?_ | refine dQ hS 19 rfl rfl ?_
        (try simp only [Act.put, nA, nB, nC])
        (refine dQ hS 20 rfl rfl ?_)
        (try simp only [Act.put, nA, nB, nC])
        refine dr_one 21 (by kernel_rfl) rfl ?_
        refine wpList_skip rfl ?_
        (try simp only [Act.put, nA, nB, nC])
        refine dr_end hS ?_
        first | refine dP hS 22 rfl rfl ?_ | refine dQ hS 22 rfl rfl ?_
        (try simp only [Act.put, nA, nB, nC])
        refine dP hS 23 rfl rfl ?_
        (try simp only [Act.put, nA, nB, nC])
        refine dr_done (by kernel_rfl) ?_
        go_wp2_with (fail)
        go_roundw
        case measure => simp [intOf]; try omega
        exact ⟨j + 1, c5, L, by omega, by go_num, by first | (rw [HN.out]; done) | (rw [HN.out]; simp), by rw [HN.out]; exact hS.re⟩
    · have hjl' : ¬ (j : Int) < p.arcs.length := by omega
      rw [List.take_of_length_le (by omega)] at hS hnl
      rw [List.take_of_length_le (by omega)]
      have HSC := Lib.hid (src_compact p q HP.out.2)
      have HL1 := Lib.hid (sortI_length (nats (colL p q p.arcs)))
      have HL2 := Lib.hid (show (nats (srcL p q)).length = (srcL p q).length by simp)
      generalize nats (colL p q p.arcs) = ys at *
      go_wp2_with (first | (go_at_call 43; refine (sortC L c5 ys.length ys _ hS.rowOk rfl (by omega)).mono ?_; rintro e w ⟨rfl, ho1, hk1⟩; replace hS := hS.rowTurn ho1 hk1; clear ho1 hk1) | (go_at_call 87; refine (compactC L c5 ys.length (sortI ys) _ hS.rowOk HL1.out (by omega)).mono ?_; rintro e w ⟨rfl, ho1, hk1⟩; replace hS := hS.rowTurn ho1 hk1; clear ho1 hk1; rw [HSC.out, HL2.out] at hS; rw [HSC.out, HL2.out]))
      go_ret
      exact hS.ret rfl
set_option maxRecDepth 100000 in
set_option maxHeartbeats 3200000 in
theorem source_any {S : Nat → Prop} (v : PV) (p : Pat) (r q : Nat) (w0 : World) (hp : PatAt S w0 v p) (hg : Good p) (hr : r < p.len.length) (hq : q < p.len.length) :
    Calls Try.prog 97 #[v.val p, .int .i64 (r : Int), .int .i64 (q : Int)] w0 fun e w' => e = .returned (.bool (isSrc p r q)) ∧ Ext w0 w' := by
  have hS := St.start w0 NoM
  obtain ⟨A1, c1, A2, c2, A3, c3⟩ := v
  have HP := Lib.hid (And.intro hp hg)
  have hfew := hg.few
  clear hp hg
  simp only [PV.val]
  by_cases hrq : r = q
  · have HF := Lib.hid (show isSrc p r q = false by
      cases h : isSrc p r q with
      | false => rfl
      | true => exact absurd hrq (isSrc_lt HP.out.2 h).2.2)
    have he0 : ((r : Int) != (q : Int)) = false := by simp [hrq]
    clear hrq
    go_enter Try.func97, Try.ntmps97
    go_wp2_with ((((((refine oB ?_; (refine sB1 hS rfl rfl ?_)))); clear hS; (((fail_if_success guard_hyp g1); intro g1 w hS)))))
    go_loopw [7, 8] (fun s7 s8 wr => ∃ (j : Nat), j ≤ p.arcs.length ∧ s7 = .int .i64 j ∧ St w0 NoM [blk g1 [.slice A1 p.len.length c1, .slice A2 p.ck.length c2, .slice A3 p.arcs.length c3] 44] wr) (fun s7 _ _ => p.arcs.length - (intOf s7).toNat)
    case atStart => exact ⟨0, by omega, rfl, hS⟩
    case round =>
      clear hS
      obtain ⟨j, hj, rfl, hS⟩ := hrel
      by_cases hjl : j < p.arcs.length
      · have hjl' : (j : Int) < p.arcs.length := by omega
        obtain ⟨b3, o3, hA3, _, hcs⟩ := HP.out.1.arcs.cells hjl
        simp only at hA3
        subst hA3
        generalize p.arcs[j] = ar at *
        rw [arcCells_eq] at hcs
        go_upto_region 5 with (first | (refine oL ?_; (first | refine sL1 hS rfl rfl rfl ?_ | refine sL3 hS rfl rfl ?_)) | (refine oS ?_; (((refine sS4 hS rfl rfl rfl ?_)); clear hS; intro w hS)) | (((refine sN1 hS rfl ?_)); clear hS; (((fail_if_success guard_hyp g2); intro g2 w hS))))
        refine dr_start0 []  hS (by kernel_rfl) rfl ?_; clear hS; intro w hS
        refine dM hS 0 rfl rfl rfl ?_
        (try simp only [Act.put, nA, nB, nC])
        refine dM hS 1 rfl rfl rfl ?_
        (try simp only [Act.put, nA, nB, nC])
        refine dP hS 2 rfl rfl ?_
        (try simp only [Act.put, nA, nB, nC])
        refine dM hS 3 rfl rfl rfl ?_
        (try simp only [Act.put, nA, nB, nC])
        first | refine dP hS 4 rfl rfl ?_ | refine dQ hS 4 rfl rfl ?_
        (try simp only [Act.put, nA, nB, nC])
        (refine dQ hS 5 rfl rfl ?_)
        (try simp only [Act.put, nA, nB, nC])
        first | refine dM hS 6 rfl rfl rfl ?_ | refine dQ hS 6 rfl rfl ?_
        (try simp only [Act.put, nA, nB, nC])
        first | refine dP hS 7 rfl rfl ?_ | refine dQ hS 7 rfl rfl ?_
        (try simp only [Act.put, nA, nB, nC])
        refine dP hS 8 rfl rfl ?_
        (try simp only [Act.put, nA, nB, nC])
        refine dM hS 9 rfl rfl rfl ?_
        (try simp only [Act.put, nA, nB, nC])
        first | refine dP hS 10 rfl rfl ?_ | refine dQ hS 10 rfl rfl ?_
        (try simp only [Act.put, nA, nB, nC])
        (refine dQ hS 11 rfl rfl ?_)
        (try simp only [Act.put, nA, nB, nC])
        first | refine dM hS 12 rfl rfl rfl ?_ | refine dQ hS 12 rfl rfl ?_
        (try simp only [Act.put, nA, nB, nC])
        first | refine dP hS 13 rfl rfl ?_ | refine dQ hS 13 rfl rfl ?_
        (try simp only [Act.put, nA, nB, nC])
        refine dP hS 14 rfl rfl ?_
        (try simp only [Act.put, nA, nB, nC])
        refine dM hS 15 rfl rfl rfl ?_
        (try simp only [Act.put, nA, nB, nC])
        first | refine dP hS 16 rfl rfl ?_ | refine dQ hS 16 rfl rfl ?_
        (try simp only [Act.put, nA, nB, nC])
        (refine dQ hS 17 rfl rfl ?_)
        (try simp only [Act.put, nA, nB, nC])
        first | refine dP hS 18 rfl rfl ?_ | refine dQ hS 18 rfl rfl ?_
        (try simp only [Act.put, nA, nB, nC])
        refine dP hS 19 rfl rfl ?_
        (try simp only [Act.put, nA, nB, nC])
        refine dM hS 20 rfl rfl rfl ?_
        (try simp only [Act.put, nA, nB, nC])
        first | refine dP hS 21 rfl rfl ?_ | refine dQ hS 21 rfl rfl ?_
        (try simp only [Act.put, nA, nB, nC])
        (refine dQ hS 22 rfl rfl ?_)
        (try simp only [Act.put, nA, nB, nC])
        (refine dQ hS 23 rfl rfl ?_)
        (try simp only [Act.put, nA, nB, nC])
        first | refine dM hS 24 rfl rfl rfl ?_ | refine dQ hS 24 rfl rfl ?_
        (try simp only [Act.put, nA, nB, nC])
        refine dr_one 25 (by kernel_rfl) rfl ?_
        refine wpList_skip rfl ?_
        (try simp only [Act.put, nA, nB, nC])
        refine dr_end hS ?_
        first | refine dP hS 26 rfl rfl ?_ | refine dQ hS 26 rfl rfl ?_
        (try simp only [Act.put, nA, nB, nC])
        refine dP hS 27 rfl rfl ?_
        (try simp only [Act.put, nA, nB, nC])
        refine dr_done (by kernel_rfl) ?_
        go_wp2_with (fail)
        go_roundw
        case measure => simp [intOf]; try omega
        exact ⟨j + 1, by omega, by go_num, hS.re⟩
      · have hjl' : ¬ (j : Int) < p.arcs.length := by omega
        go_wp2_with (((refine oL ?_; ((refine sL1 hS rfl rfl rfl ?_)))))
        go_ret
        rw [HF.out]
        exact ⟨rfl, hS.toExt⟩
  · have he0 : ((r : Int) != (q : Int)) = true := by simp; omega
    clear hrq
    go_enter Try.func97, Try.ntmps97
    go_wp2_with ((((((refine oB ?_; (refine sB1 hS rfl rfl ?_)))); clear hS; (((fail_if_success guard_hyp g1); intro g1 w hS)))))
    go_loopw [7, 8] (fun s7 s8 wr => ∃ (j : Nat), j ≤ p.arcs.length ∧ s7 = .int .i64 j ∧ Hid ((p.arcs.take j).any (fun a => decide (a.fr = r) && srcB p q a) = false) ∧ St w0 NoM [blk g1 [.slice A1 p.len.length c1, .slice A2 p.ck.length c2, .slice A3 p.arcs.length c3] 44] wr) (fun s7 _ _ => p.arcs.length - (intOf s7).toNat)
    case atStart => exact ⟨0, by omega, rfl, Lib.hid rfl, hS⟩
    case round =>
      clear hS
      obtain ⟨j, hj, rfl, HA, hS⟩ := hrel
      by_cases hjl : j < p.arcs.length
      · have hjl' : (j : Int) < p.arcs.length := by omega
        obtain ⟨b3, o3, hA3, _, hcs⟩ := HP.out.1.arcs.cells hjl
        simp only at hA3
        subst hA3
        have hak := HP.out.2.arc p.arcs[j] (List.getElem_mem hjl)
        have HTK := Lib.hid (show (p.arcs.take (j + 1)).any (fun a => decide (a.fr = r) && srcB p q a) = (decide (p.arcs[j].fr = r) && srcB p q p.arcs[j]) by rw [List.take_succ_eq_append_getElem hjl, List.any_append, HA.out]; simp)
        have HTR := Lib.hid (show (decide (p.arcs[j].fr = r) && srcB p q p.arcs[j]) = true → isSrc p r q = true from fun h => List.any_eq_true.2 ⟨_, List.getElem_mem hjl, h⟩)
        have hat0 := hak.at0
        generalize p.arcs[j] = ar at *
        rw [arcCells_eq] at hcs
        have HSB := Lib.hid (show srcB p q ar = (decide (ar.to = q) && decide (ar.at_ ≠ 0) && decide (lastC p ar.fr < ar.ix)) from rfl)
        clear hak
        have HLA := Lib.hid (rlast_any (S := S) ⟨A1, c1, A2, c2, some ⟨b3, o3, none⟩, c3⟩ p r)
        by_cases h0 : ar.fr = r
        · have hf0 : ((ar.fr : Int) == (r : Int)) = true := by simp [h0]
          by_cases h1 : ar.to = q
          · have he1 : ((ar.to : Int) == (q : Int)) = true := by simp [h1]
            by_cases h2 : 0 < ar.at_
            · have he2 : decide (0 < ar.at_) = true := decide_eq_true h2
              by_cases h3 : lastC p r < ar.ix
              · have HT := Lib.hid (HTR.out (by rw [HSB.out, h0]; simp [h1, h3]; try omega))
                have dk : decide (lastC p r < ar.ix) = true := decide_eq_true h3
                clear h0 h1 h2 h3 HTK HTR HSB
                go_upto_region 5 with (first | (refine oL ?_; (first | refine sL1 hS rfl rfl rfl ?_ | refine sL3 hS rfl rfl ?_)) | (refine oS ?_; (((refine sS4 hS rfl rfl rfl ?_)); clear hS; intro w hS)) | (((refine sN1 hS rfl ?_)); clear hS; (((fail_if_success guard_hyp g2); intro g2 w hS))))
                refine dr_start0 []  hS (by kernel_rfl) rfl ?_; clear hS; intro w hS
                refine dM hS 0 rfl rfl rfl ?_
                (try simp only [Act.put, nA, nB, nC])
                refine dM hS 1 rfl rfl rfl ?_
                (try simp only [Act.put, nA, nB, nC])
                refine dP hS 2 rfl rfl ?_
                (try simp only [Act.put, nA, nB, nC])
                refine dM hS 3 rfl rfl rfl ?_
                (try simp only [Act.put, nA, nB, nC])
                first | refine dP hS 4 rfl rfl ?_ | refine dQ hS 4 rfl rfl ?_
                (try simp only [Act.put, nA, nB, nC])
                (refine dL1 hS 5 rfl rfl rfl rfl ?_)
                (try simp only [Act.put, nA, nB, nC])
                first | refine dM hS 6 rfl rfl rfl ?_ | refine dQ hS 6 rfl rfl ?_
                (try simp only [Act.put, nA, nB, nC])
                first | refine dP hS 7 rfl rfl ?_ | refine dQ hS 7 rfl rfl ?_
                (try simp only [Act.put, nA, nB, nC])
                refine dP hS 8 rfl rfl ?_
                (try simp only [Act.put, nA, nB, nC])
                refine dM hS 9 rfl rfl rfl ?_
                (try simp only [Act.put, nA, nB, nC])
                first | refine dP hS 10 rfl rfl ?_ | refine dQ hS 10 rfl rfl ?_
                (try simp only [Act.put, nA, nB, nC])
                (refine dL1 hS 11 rfl rfl rfl rfl ?_)
                (try simp only [Act.put, nA, nB, nC])
                first | refine dM hS 12 rfl rfl rfl ?_ | refine dQ hS 12 rfl rfl ?_
                (try simp only [Act.put, nA, nB, nC])
                first | refine dP hS 13 rfl rfl ?_ | refine dQ hS 13 rfl rfl ?_
                (try simp only [Act.put, nA, nB, nC])
                refine dP hS 14 rfl rfl ?_
                (try simp only [Act.put, nA, nB, nC])
                refine dM hS 15 rfl rfl rfl ?_
                (try simp only [Act.put, nA, nB, nC])
                first | refine dP hS 16 rfl rfl ?_ | refine dQ hS 16 rfl rfl ?_
                (try simp only [Act.put, nA, nB, nC])
                (refine dL1 hS 17 rfl rfl rfl rfl ?_)
                (try simp only [Act.put, nA, nB, nC])
                first | refine dP hS 18 rfl rfl ?_ | refine dQ hS 18 rfl rfl ?_
                (try simp only [Act.put, nA, nB, nC])
                refine dP hS 19 rfl rfl ?_
                (try simp only [Act.put, nA, nB, nC])
                refine dM hS 20 rfl rfl rfl ?_
                (try simp only [Act.put, nA, nB, nC])
                first | refine dP hS 21 rfl rfl ?_ | refine dQ hS 21 rfl rfl ?_
                (try simp only [Act.put, nA, nB, nC])
                (refine dL1 hS 22 rfl rfl rfl rfl ?_)
                (try simp only [Act.put, nA, nB, nC])
                (refine dL2 hS 23 rfl rfl rfl rfl ?_)
                (try simp only [Act.put, nA, nB, nC])
                first | refine dM hS 24 rfl rfl rfl ?_ | refine dQ hS 24 rfl rfl ?_
                (try simp only [Act.put, nA, nB, nC])
                refine dr_one 25 (by kernel_rfl) rfl ?_
                (refine st_call rfl (by kernel_rfl) rfl ?_; go_at_call 118; refine (HLA.out _ (HP.out.1.ext hS.toExt) HP.out.2 hr).mono ?_; rintro e w ⟨rfl, hx1⟩; replace hS := hS.ext hx1; clear hx1)
                (try simp only [Act.put, nA, nB, nC])
                refine dr_end hS ?_
                first | refine dP hS 26 rfl rfl ?_ | refine dQ hS 26 rfl rfl ?_
                (try simp only [Act.put, nA, nB, nC])
                refine dP hS 27 rfl rfl ?_
                (try simp only [Act.put, nA, nB, nC])
                refine dr_done (by kernel_rfl) ?_
                go_wp2_with (fail)
                go_ret
                rw [HT.out]
                exact ⟨rfl, hS.toExt⟩
              · have HN : Hid ((p.arcs.take (j + 1)).any (fun a => decide (a.fr = r) && srcB p q a) = false) := Lib.hid (HTK.out.trans (by rw [HSB.out, h0]; simp [h3]))
                have dk : decide (lastC p r < ar.ix) = false := decide_eq_false h3
                clear h0 h1 h2 h3 HTK HTR HSB
                go_upto_region 5 with (first | (refine oL ?_; (first | refine sL1 hS rfl rfl rfl ?_ | refine sL3 hS rfl rfl ?_)) | (refine oS ?_; (((refine sS4 hS rfl rfl rfl ?_)); clear hS; intro w hS)) | (((refine sN1 hS rfl ?_)); clear hS; (((fail_if_success guard_hyp g2); intro g2 w hS))))
                refine dr_start0 []  hS (by kernel_rfl) rfl ?_; clear hS; intro w hS
                refine dM hS 0 rfl rfl rfl ?_
                (try simp only [Act.put, nA, nB, nC])
                refine dM hS 1 rfl rfl rfl ?_
                (try simp only [Act.put, nA, nB, nC])
                refine dP hS 2 rfl rfl ?_
                (try simp only [Act.put, nA, nB, nC])
                refine dM hS 3 rfl rfl rfl ?_
                (try simp only [Act.put, nA, nB, nC])
                first | refine dP hS 4 rfl rfl ?_ | refine dQ hS 4 rfl rfl ?_
                (try simp only [Act.put, nA, nB, nC])
                (refine dL1 hS 5 rfl rfl rfl rfl ?_)
                (try simp only [Act.put, nA, nB, nC])
                first | refine dM hS 6 rfl rfl rfl ?_ | refine dQ hS 6 rfl rfl ?_
                (try simp only [Act.put, nA, nB, nC])
                first | refine dP hS 7 rfl rfl ?_ | refine dQ hS 7 rfl rfl ?_
                (try simp only [Act.put, nA, nB, nC])
                refine dP hS 8 rfl rfl ?_
                (try simp only [Act.put, nA, nB, nC])
                refine dM hS 9 rfl rfl rfl ?_
                (try simp only [Act.put, nA, nB, nC])
                first | refine dP hS 10 rfl rfl ?_ | refine dQ hS 10 rfl rfl ?_
                (try simp only [Act.put, nA, nB, nC])
                (refine dL1 hS 11 rfl rfl rfl rfl ?_)
                (try simp only [Act.put, nA, nB, nC])
                first | refine dM hS 12 rfl rfl rfl ?_ | refine dQ hS 12 rfl rfl ?_
                (try simp only [Act.put, nA, nB, nC])
                first | refine dP hS 13 rfl rfl ?_ | refine dQ hS 13 rfl rfl ?_
                (try simp only [Act.put, nA, nB, nC])
                refine dP hS 14 rfl rfl ?_
                (try simp only [Act.put, nA, nB, nC])
                refine dM hS 15 rfl rfl rfl ?_
                (try simp only [Act.put, nA, nB, nC])
                first | refine dP hS 16 rfl rfl ?_ | refine dQ hS 16 rfl rfl ?_
                (try simp only [Act.put, nA, nB, nC])
                (refine dL1 hS 17 rfl rfl rfl rfl ?_)
                (try simp only [Act.put, nA, nB, nC])
                first | refine dP hS 18 rfl rfl ?_ | refine dQ hS 18 rfl rfl ?_
                (try simp only [Act.put, nA, nB, nC])
                refine dP hS 19 rfl rfl ?_
                (try simp only [Act.put, nA, nB, nC])
                refine dM hS 20 rfl rfl rfl ?_
                (try simp only [Act.put, nA, nB, nC])
                first | refine dP hS 21 rfl rfl ?_ | refine dQ hS 21 rfl rfl ?_
                (try simp only [Act.put, nA, nB, nC])
                (refine dL1 hS 22 rfl rfl rfl rfl ?_)
                (try simp only [Act.put, nA, nB, nC])
                (refine dL2 hS 23 rfl rfl rfl rfl ?_)
                (try simp only [Act.put, nA, nB, nC])
                first | refine dM hS 24 rfl rfl rfl ?_ | refine dQ hS 24 rfl rfl ?_
                (try simp only [Act.put, nA, nB, nC])
                refine dr_one 25 (by kernel_rfl) rfl ?_
                (refine st_call rfl (by kernel_rfl) rfl ?_; go_at_call 118; refine (HLA.out _ (HP.out.1.ext hS.toExt) HP.out.2 hr).mono ?_; rintro e w ⟨rfl, hx1⟩; replace hS := hS.ext hx1; clear hx1)
                (try simp only [Act.put, nA, nB, nC])
                refine dr_end hS ?_
                first | refine dP hS 26 rfl rfl ?_ | refine dQ hS 26 rfl rfl ?_
                (try simp only [Act.put, nA, nB, nC])
                refine dP hS 27 rfl rfl ?_
                (try simp only [Act.put, nA, nB, nC])
                refine dr_done (by kernel_rfl) ?_
                go_wp2_with (fail)
                go_roundw
                case measure => simp [intOf]; try omega
                exact ⟨j + 1, by omega, by go_num, HN, hS.re⟩
            · have HN : Hid ((p.arcs.take (j + 1)).any (fun a => decide (a.fr = r) && srcB p q a) = false) := Lib.hid (HTK.out.trans (by rw [HSB.out]; simp [show ar.at_ = 0 by omega]))
              have he2 : decide (0 < ar.at_) = false := decide_eq_false h2
              clear h0 h1 h2 HTK HTR HSB
              go_upto_region 5 with (first | (refine oL ?_; (first | refine sL1 hS rfl rfl rfl ?_ | refine sL3 hS rfl rfl ?_)) | (refine oS ?_; (((refine sS4 hS rfl rfl rfl ?_)); clear hS; intro w hS)) | (((refine sN1 hS rfl ?_)); clear hS; (((fail_if_success guard_hyp g2); intro g2 w hS))))
              refine dr_start0 []  hS (by kernel_rfl) rfl ?_; clear hS; intro w hS
              refine dM hS 0 rfl rfl rfl ?_
              (try simp only [Act.put, nA, nB, nC])
              refine dM hS 1 rfl rfl rfl ?_
              (try simp only [Act.put, nA, nB, nC])
              refine dP hS 2 rfl rfl ?_
              (try simp only [Act.put, nA, nB, nC])
              refine dM hS 3 rfl rfl rfl ?_
              (try simp only [Act.put, nA, nB, nC])
              first | refine dP hS 4 rfl rfl ?_ | refine dQ hS 4 rfl rfl ?_
              (try simp only [Act.put, nA, nB, nC])
              (refine dL1 hS 5 rfl rfl rfl rfl ?_)
              (try simp only [Act.put, nA, nB, nC])
              first | refine dM hS 6 rfl rfl rfl ?_ | refine dQ hS 6 rfl rfl ?_
              (try simp only [Act.put, nA, nB, nC])
              first | refine dP hS 7 rfl rfl ?_ | refine dQ hS 7 rfl rfl ?_
              (try simp only [Act.put, nA, nB, nC])
              refine dP hS 8 rfl rfl ?_
              (try simp only [Act.put, nA, nB, nC])
              refine dM hS 9 rfl rfl rfl ?_
              (try simp only [Act.put, nA, nB, nC])
              first | refine dP hS 10 rfl rfl ?_ | refine dQ hS 10 rfl rfl ?_
              (try simp only [Act.put, nA, nB, nC])
              (refine dL1 hS 11 rfl rfl rfl rfl ?_)
              (try simp only [Act.put, nA, nB, nC])
              first | refine dM hS 12 rfl rfl rfl ?_ | refine dQ hS 12 rfl rfl ?_
              (try simp only [Act.put, nA, nB, nC])
              first | refine dP hS 13 rfl rfl ?_ | refine dQ hS 13 rfl rfl ?_
              (try simp only [Act.put, nA, nB, nC])
              refine dP hS 14 rfl rfl ?_
              (try simp only [Act.put, nA, nB, nC])
              refine dM hS 15 rfl rfl rfl ?_
              (try simp only [Act.put, nA, nB, nC])
              first | refine dP hS 16 rfl rfl ?_ | refine dQ hS 16 rfl rfl ?_
              (try simp only [Act.put, nA, nB, nC])
              (refine dL1 hS 17 rfl rfl rfl rfl ?_)
              (try simp only [Act.put, nA, nB, nC])
              first | refine dP hS 18 rfl rfl ?_ | refine dQ hS 18 rfl rfl ?_
              (try simp only [Act.put, nA, nB, nC])
              refine dP hS 19 rfl rfl ?_
              (try simp only [Act.put, nA, nB, nC])
              refine dM hS 20 rfl rfl rfl ?_
              (try simp only [Act.put, nA, nB, nC])
              first | refine dP hS 21 rfl rfl ?_ | refine dQ hS 21 rfl rfl ?_
              (try simp only [Act.put, nA, nB, nC])
              (refine dQ hS 22 rfl rfl ?_)
              (try simp only [Act.put, nA, nB, nC])
              (refine dQ hS 23 rfl rfl ?_)
              (try simp only [Act.put, nA, nB, nC])
              first | refine dM hS 24 rfl rfl rfl ?_ | refine dQ hS 24 rfl rfl ?_
              (try simp only [Act.put, nA, nB, nC])
              refine dr_one 25 (by kernel_rfl) rfl ?_
              refine wpList_skip rfl ?_
              (try simp only [Act.put, nA, nB, nC])
              refine dr_end hS ?_
              first | refine dP hS 26 rfl rfl ?_ | refine dQ hS 26 rfl rfl ?_
              (try simp only [Act.put, nA, nB, nC])
              refine dP hS 27 rfl rfl ?_
              (try simp only [Act.put, nA, nB, nC])
              refine dr_done (by kernel_rfl) ?_
              go_wp2_with (fail)
              go_roundw
              case measure => simp [intOf]; try omega
              exact ⟨j + 1, by omega, by go_num, HN, hS.re⟩
          · have HN : Hid ((p.arcs.take (j + 1)).any (fun a => decide (a.fr = r) && srcB p q a) = false) := Lib.hid (HTK.out.trans (by rw [HSB.out]; simp [h1]))
            have he1 : ((ar.to : Int) == (q : Int)) = false := by simp; omega
            clear h0 h1 HTK HTR HSB
            go_upto_region 5 with (first | (refine oL ?_; (first | refine sL1 hS rfl rfl rfl ?_ | refine sL3 hS rfl rfl ?_)) | (refine oS ?_; (((refine sS4 hS rfl rfl rfl ?_)); clear hS; intro w hS)) | (((refine sN1 hS rfl ?_)); clear hS; (((fail_if_success guard_hyp g2); intro g2 w hS))))
            refine dr_start0 []  hS (by kernel_rfl) rfl ?_; clear hS; intro w hS
            refine dM hS 0 rfl rfl rfl ?_
            (try simp only [Act.put, nA, nB, nC])
            refine dM hS 1 rfl rfl rfl ?_
            (try simp only [Act.put, nA, nB, nC])
            refine dP hS 2 rfl rfl ?_
            (try simp only [Act.put, nA, nB, nC])
            refine dM hS 3 rfl rfl rfl ?_
            (try simp only [Act.put, nA, nB, nC])
            first | refine dP hS 4 rfl rfl ?_ | refine dQ hS 4 rfl rfl ?_
            (try simp only [Act.put, nA, nB, nC])
            (refine dL1 hS 5 rfl rfl rfl rfl ?_)
            (try simp only [Act.put, nA, nB, nC])
            first | refine dM hS 6 rfl rfl rfl ?_ | refine dQ hS 6 rfl rfl ?_
            (try simp only [Act.put, nA, nB, nC])
            first | refine dP hS 7 rfl rfl ?_ | refine dQ hS 7 rfl rfl ?_
            (try simp only [Act.put, nA, nB, nC])
            refine dP hS 8 rfl rfl ?_
            (try simp only [Act.put, nA, nB, nC])
            refine dM hS 9 rfl rfl rfl ?_
            (try simp only [Act.put, nA, nB, nC])
            first | refine dP hS 10 rfl rfl ?_ | refine dQ hS 10 rfl rfl ?_
            (try simp only [Act.put, nA, nB, nC])
            (refine dL1 hS 11 rfl rfl rfl rfl ?_)
            (try simp only [Act.put, nA, nB, nC])
            first | refine dM hS 12 rfl rfl rfl ?_ | refine dQ hS 12 rfl rfl ?_
            (try simp only [Act.put, nA, nB, nC])
            first | refine dP hS 13 rfl rfl ?_ | refine dQ hS 13 rfl rfl ?_
            (try simp only [Act.put, nA, nB, nC])
            refine dP hS 14 rfl rfl ?_
            (try simp only [Act.put, nA, nB, nC])
            refine dM hS 15 rfl rfl rfl ?_
            (try simp only [Act.put, nA, nB, nC])
            first | refine dP hS 16 rfl rfl ?_ | refine dQ hS 16 rfl rfl ?_
            (try simp only [Act.put, nA, nB, nC])
            (refine dQ hS 17 rfl rfl ?_)
            (try simp only [Act.put, nA, nB, nC])
            first | refine dP hS 18 rfl rfl ?_ | refine dQ hS 18 rfl rfl ?_
            (try simp only [Act.put, nA, nB, nC])
            refine dP hS 19 rfl rfl ?_
            (try simp only [Act.put, nA, nB, nC])
            refine dM hS 20 rfl rfl rfl ?_
            (try simp only [Act.put, nA, nB, nC])
            first | refine dP hS 21 rfl rfl ?_ | refine dQ hS 21 rfl rfl ?_
            (try simp only [Act.put, nA, nB, nC])
            (refine dQ hS 22 rfl rfl ?_)
            (try simp only [Act.put, nA, nB, nC])
            (refine dQ hS 23 rfl rfl ?_)
            (try simp only [Act.put, nA, nB, nC])
            first | refine dM hS 24 rfl rfl rfl ?_ | refine dQ hS 24 rfl rfl ?_
            (try simp only [Act.put, nA, nB, nC])
            refine dr_one 25 (by kernel_rfl) rfl ?_
            refine wpList_skip rfl ?_
            (try simp only [Act.put, nA, nB, nC])
            refine dr_end hS ?_
            first | refine dP hS 26 rfl rfl ?_ | refine dQ hS 26 rfl rfl ?_
            (try simp only [Act.put, nA, nB, nC])
            refine dP hS 27 rfl rfl ?_
            (try simp only [Act.put, nA, nB, nC])
            refine dr_done (by kernel_rfl) ?_
            go_wp2_with (fail)
            go_roundw
            case measure => simp [intOf]; try omega
            exact ⟨j + 1, by omega, by go_num, HN, hS.re⟩
        · have HN : Hid ((p.arcs.take (j + 1)).any (fun a => decide (a.fr = r) && srcB p q a) = false) := Lib.hid (HTK.out.trans (by simp [h0]))
          have hf0 : ((ar.fr : Int) == (r : Int)) = false := by simp; omega
          clear h0 HTK HTR HSB
          go_upto_region 5 with (first | (refine oL ?_; (first | refine sL1 hS rfl rfl rfl ?_ | refine sL3 hS rfl rfl ?_)) | (refine oS ?_; (((refine sS4 hS rfl rfl rfl ?_)); clear hS; intro w hS)) | (((refine sN1 hS rfl ?_)); clear hS; (((fail_if_success guard_hyp g2); intro g2 w hS))))
          refine dr_start0 []  hS (by kernel_rfl) rfl ?_; clear hS; intro w hS
          refine dM hS 0 rfl rfl rfl ?_
          (try simp only [Act.put, nA, nB, nC])
          refine dM hS 1 rfl rfl rfl ?_
          (try simp only [Act.put, nA, nB, nC])
          refine dP hS 2 rfl rfl ?_
          (try simp only [Act.put, nA, nB, nC])
          refine dM hS 3 rfl rfl rfl ?_
          (try simp only [Act.put, nA, nB, nC])
          first | refine dP hS 4 rfl rfl ?_ | refine dQ hS 4 rfl rfl ?_
          (try simp only [Act.put, nA, nB, nC])
          (refine dL1 hS 5 rfl rfl rfl rfl ?_)
          (try simp only [Act.put, nA, nB, nC])
          first | refine dM hS 6 rfl rfl rfl ?_ | refine dQ hS 6 rfl rfl ?_
          (try simp only [Act.put, nA, nB, nC])
          first | refine dP hS 7 rfl rfl ?_ | refine dQ hS 7 rfl rfl ?_
          (try simp only [Act.put, nA, nB, nC])
          refine dP hS 8 rfl rfl ?_
          (try simp only [Act.put, nA, nB, nC])
          refine dM hS 9 rfl rfl rfl ?_
          (try simp only [Act.put, nA, nB, nC])
          first | refine dP hS 10 rfl rfl ?_ | refine dQ hS 10 rfl rfl ?_
          (try simp only [Act.put, nA, nB, nC])
          (refine dQ hS 11 rfl rfl ?_)
          (try simp only [Act.put, nA, nB, nC])
          first | refine dM hS 12 rfl rfl rfl ?_ | refine dQ hS 12 rfl rfl ?_
          (try simp only [Act.put, nA, nB, nC])
          first | refine dP hS 13 rfl rfl ?_ | refine dQ hS 13 rfl rfl ?_
          (try simp only [Act.put, nA, nB, nC])
          refine dP hS 14 rfl rfl ?_
          (try simp only [Act.put, nA, nB, nC])
          refine dM hS 15 rfl rfl rfl ?_
          (try simp only [Act.put, nA, nB, nC])
          first | refine dP hS 16 rfl rfl ?_ | refine dQ hS 16 rfl rfl ?_
          (try simp only [Act.put, nA, nB, nC])
          (refine dQ hS 17 rfl rfl ?_)
          (try simp only [Act.put, nA, nB, nC])
          first | refine dP hS 18 rfl rfl ?_ | refine dQ hS 18 rfl rfl ?_
          (try simp only [Act.put, nA, nB, nC])
          refine dP hS 19 rfl rfl ?_
          (try simp only [Act.put, nA, nB, nC])
          refine dM hS 20 rfl rfl rfl ?_
          (try simp only [Act.put, nA, nB, nC])
          first | refine dP hS 21 rfl rfl ?_ | refine dQ hS 21 rfl rfl ?_
          (try simp only [Act.put, nA, nB, nC])
          (refine dQ hS 22 rfl rfl ?_)
          (try simp only [Act.put, nA, nB, nC])
          (refine dQ hS 23 rfl rfl ?_)
          (try simp only [Act.put, nA, nB, nC])
          first | refine dM hS 24 rfl rfl rfl ?_ | refine dQ hS 24 rfl rfl ?_
          (try simp only [Act.put, nA, nB, nC])
          refine dr_one 25 (by kernel_rfl) rfl ?_
          refine wpList_skip rfl ?_
          (try simp only [Act.put, nA, nB, nC])
          refine dr_end hS ?_
          first | refine dP hS 26 rfl rfl ?_ | refine dQ hS 26 rfl rfl ?_
          (try simp only [Act.put, nA, nB, nC])
          refine dP hS 27 rfl rfl ?_
          (try simp only [Act.put, nA, nB, nC])
          refine dr_done (by kernel_rfl) ?_
          go_wp2_with (fail)
          go_roundw
          case measure => simp [intOf]; try omega
          exact ⟨j + 1, by omega, by go_num, HN, hS.re⟩
      · have hjl' : ¬ (j : Int) < p.arcs.length := by omega
        have HF := Lib.hid (show isSrc p r q = false by have := HA.out; rw [List.take_of_length_le (by omega)] at this; exact this)
        go_wp2_with (((refine oL ?_; ((refine sL1 hS rfl rfl rfl ?_)))))
        go_ret
        rw [HF.out]
        exact ⟨rfl, hS.toExt⟩
end Go.Proofs.Ytmjmdncdmmcmaaa
