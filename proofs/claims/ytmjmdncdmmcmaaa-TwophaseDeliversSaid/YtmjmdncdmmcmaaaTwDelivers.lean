/- TwophaseDelivers returns true for every input. No condition. -/
import Derived.Test.YtmjmdncdmmcmaaaTwDlA
import Derived.Test.YtmjmdncdmmcmaaaTwE
namespace Go.Proofs.Ytmjmdncdmmcmaaa
open Go.RowKit Tph
set_option linter.unusedVariables false
set_option linter.unusedSimpArgs false
set_option linter.unusedSectionVars false

section
open Go.ChangeShapes
theorem trodAll_five {H : Type} {enc : TypeId × Value → H} {P : Program} {w : World} {base} {spare} {held} {t0 t1 t2 t3 t4 : TypeId} {args : Array Value} {ds : List (DataW H)} {ps : List MemPlace} (h : DataW.TrodAll enc P w base spare held [t0, t1, t2, t3, t4] args.toList ds ps) :
    ∃ v0 v1 v2 v3 v4 d0 d1 d2 d3 d4 p0 p1 p2 p3 p4, args = #[v0, v1, v2, v3, v4] ∧ ds = [d0, d1, d2, d3, d4] ∧ ps = p0 ++ p1 ++ p2 ++ p3 ++ p4 ∧ DataW.Trod enc P w base spare held t0 v0 d0 p0 ∧ DataW.Trod enc P w base spare held t1 v1 d1 p1 ∧ DataW.Trod enc P w base spare held t2 v2 d2 p2 ∧ DataW.Trod enc P w base spare held t3 v3 d3 p3 ∧ DataW.Trod enc P w base spare held t4 v4 d4 p4 := by
  obtain ⟨v0, vs0, d0, ds0, p0, q0, hargs, rfl, rfl, hd0, r0⟩ := trodAll_cons h
  obtain ⟨v1, vs1, d1, ds1, p1, q1, rfl, rfl, rfl, hd1, r1⟩ := trodAll_cons r0
  obtain ⟨v2, vs2, d2, ds2, p2, q2, rfl, rfl, rfl, hd2, r2⟩ := trodAll_cons r1
  obtain ⟨v3, vs3, d3, ds3, p3, q3, rfl, rfl, rfl, hd3, r3⟩ := trodAll_cons r2
  obtain ⟨v4, vs4, d4, ds4, p4, q4, rfl, rfl, rfl, hd4, r4⟩ := trodAll_cons r3
  obtain ⟨rfl, rfl, rfl⟩ := trodAll_nil r4
  exact ⟨v0, v1, v2, v3, v4, d0, d1, d2, d3, d4, p0, p1, p2, p3, p4, by cases args; simp_all, rfl, by simp, hd0, hd1, hd2, hd3, hd4⟩
end
/-- old data -/
theorem RV.toM {w0 : World} {A : Option Addr} {vs : List Value} (h : RV (fun b => b < w0.heap.size) w0 A vs) : RV (fun k => True ∧ k < w0.heap.size) w0 A vs := h.into (fun k hk hl => ⟨⟨trivial, hk⟩, rfl⟩)
set_option maxRecDepth 100000 in
set_option maxHeartbeats 25600000 in
theorem twophaseDelivers_any (C : Option Addr) (f : Nat) (bs : List Int) (z0 : Int) (V : Option Addr) (g : Nat) (vs : List Int) (C2 : Option Addr) (f2 : Nat) (b2 : List Int) (z1 : Int) (w0 : World) (hbs : RV (fun b => b < w0.heap.size) w0 C (bytes bs)) (hf : bs.length ≤ f) (hf' : f ≤ 9223372036854775807) (hby : ∀ b ∈ bs, 0 ≤ b ∧ b ≤ 255) (hz0 : -9223372036854775808 ≤ z0 ∧ z0 ≤ 9223372036854775807) (hvs : RI (fun b => b < w0.heap.size) w0 V vs) (hg : vs.length ≤ g) (hg' : g ≤ 9223372036854775807) (hin : ∀ b ∈ vs, -9223372036854775808 ≤ b ∧ b ≤ 9223372036854775807) (hb2 : RV (fun b => b < w0.heap.size) w0 C2 (bytes b2)) (hf2 : b2.length ≤ f2) (hf2' : f2 ≤ 9223372036854775807) (hy2 : ∀ b ∈ b2, 0 ≤ b ∧ b ≤ 255) (hz1 : -9223372036854775808 ≤ z1 ∧ z1 ≤ 9223372036854775807) :
    Calls Try.prog 8 #[.slice C bs.length f, .int .i64 z0, .slice V vs.length g, .slice C2 b2.length f2, .int .i64 z1] w0 fun e w' => e = .returned (.bool true) ∧ Ext w0 w' := by
  have hS := St.startF w0 (fun _ => True)
  have HD := Lib.hid (And.intro (RV.toM hbs) (And.intro (RV.toM hvs) (RV.toM hb2)))
  have HY := Lib.hid (And.intro hby (And.intro hy2 hbs))
  clear hbs hvs hb2 hby hy2 hin
  by_cases h20 : 20 < vs.length
  · have d20 : decide ((20 : Int) < (vs.length : Int)) = true := decide_eq_true (by omega)
    have d20n : decide (20 < vs.length) = true := decide_eq_true h20
    go_enter Try.func8, Try.ntmps8
    go_wp2_with (((go_at_call 21; refine (awake24_any _).mono ?_; rintro e w ⟨rfl, hx1⟩; replace hS := hS.ext hx1; clear hx1)))
    go_ret
    exact ⟨rfl, hS.extF hS.frozInto⟩
  · have d20 : decide ((20 : Int) < (vs.length : Int)) = false := decide_eq_false (by omega)
    have d20n : decide (20 < vs.length) = false := decide_eq_false h20
    go_enter Try.func8, Try.ntmps8
    go_upto_region 5 with (first | (go_at_call 21; refine (awake24_any _).mono ?_; rintro e w ⟨rfl, hx1⟩; replace hS := hS.ext hx1; clear hx1) | (go_at_call 22; refine (draw24_any C f bs _ (HY.out.2.2.into (fun k hk hl => ⟨Nat.lt_of_lt_of_le hk hS.keep.size, (hS.frozInto k ⟨trivial, hk⟩ hl).2⟩)) hf hf' HY.out.1).mono ?_; rintro e w2 ⟨⟨A1, c1, A2, c2, A3, c3⟩, p, rfl, hsm, hpa, hx1⟩; simp only [PV.val]; obtain ⟨T, hS2, hi1, hi0⟩ := hS.grow hx1; clear hS; have hS := hS2; clear hS2; have HPA := Lib.hid (And.intro (hpa.into (fun k hk hl => hi1 k (.inr hk.1) hl)) hi0); have HG := Lib.hid hsm.good; have hn2 := hsm.good.n2; have hn5 := hsm.good.n5; clear hsm hpa hi1 hi0 hx1) | (go_at_call 12; refine (mod24_any z0 p.len.length _ _ rfl (by omega) (by omega)).mono ?_; rintro e w ⟨⟨r, rfl, hr⟩, hx1⟩; replace hS := hS.ext hx1; clear hx1) | (refine oL ?_; ((refine sL1 hS rfl rfl rfl ?_))) | (refine oS ?_; (((refine sS4 hS rfl rfl rfl ?_)); clear hS; intro w hS)) | (((refine sN1 hS rfl ?_)); clear hS; (((fail_if_success guard_hyp g1); intro g1 w hS))))
    clear d20 d20n
    refine lR ?_
    (refine ⟨?_⟩; (((refine sL2 hS rfl rfl rfl ?_))); refine WL.h ?_)
    (try simp only [Act.put, nA, nB, nC])
    refine lM rfl rfl ?_
    (try simp only [Act.put, nA, nB, nC])
    refine lM rfl rfl ?_
    (try simp only [Act.put, nA, nB, nC])
    (refine ⟨?_⟩; (refine st_call rfl (by kernel_rfl) rfl ?_; go_at_call 32; refine (begin_any A1 c1 A2 c2 A3 c3 p p.len.length r V vs.length g vs _ (HPA.out.1.into hS.frozInto) HG.out rfl hr ((HD.out.2.1.into HPA.out.2).into hS.frozInto) rfl (by omega)).mono ?_; rintro e w3 ⟨⟨B1, d1, B2, d2, B3, d3, U, uc, PA, pc, EA, ec, WA, wq, RA0, rc, CA, cc, DA, dc, FA, fc⟩, rfl, hx2, hxt⟩; obtain ⟨T2, hS2, hi1, hi0⟩ := hS.grow hxt; clear hS; have hS := hS2; clear hS2; have HX := Lib.hid (And.intro (hx2.into hi1) hi0); clear hx2 hi1 hi0 hxt; simp only [TX.val, TX.cells]); refine WL.h ?_)
    (try simp only [Act.put, nA, nB, nC])
    refine lM rfl rfl ?_
    (try simp only [Act.put, nA, nB, nC])
    refine lP rfl ?_
    (try simp only [Act.put, nA, nB, nC])
    refine lP rfl ?_
    (try simp only [Act.put, nA, nB, nC])
    (refine ⟨?_⟩; ((refine sN1 hS rfl ?_; clear hS; (((fail_if_success guard_hyp g2); intro g2 w hS)))); refine WL.h ?_)
    (try simp only [Act.put, nA, nB, nC])
    (refine ⟨?_⟩; ((((refine sS4 hS rfl rfl rfl ?_)); clear hS; intro w hS)); refine WL.h ?_)
    (try simp only [Act.put, nA, nB, nC])
    refine lA rfl rfl ?_
    (try simp only [Act.put, nA, nB, nC])
    refine lZ ?_
    go_upto_region 6 with (fail)
    refine lR ?_
    (refine ⟨?_⟩; (((refine sL2 hS rfl rfl rfl ?_))); refine WL.h ?_)
    (try simp only [Act.put, nA, nB, nC])
    refine lM rfl rfl ?_
    (try simp only [Act.put, nA, nB, nC])
    refine lM rfl rfl ?_
    (try simp only [Act.put, nA, nB, nC])
    (refine ⟨?_⟩; (refine st_call rfl (by kernel_rfl) rfl ?_; go_at_call 33; refine (rbegin_any A1 c1 A2 c2 A3 c3 p p.len.length r V vs.length g vs _ ((HPA.out.1.into HX.out.2).into hS.frozInto) HG.out rfl hr (((HD.out.2.1.into HPA.out.2).into HX.out.2).into hS.frozInto) rfl (by omega)).mono ?_; rintro e w4 ⟨⟨B1', d1', B2', d2', B3', d3', U', uc', PA', pc', EA', ec', WA', wq', RA0', rc', CA', cc', DA', dc', FA', fc'⟩, rfl, hx2, hxt⟩; obtain ⟨T3, hS2, hi1, hi0⟩ := hS.grow hxt; clear hS; have hS := hS2; clear hS2; have HX3 := Lib.hid (And.intro (hx2.into hi1) hi0); clear hx2 hi1 hi0 hxt; simp only [TX.val, TX.cells]); refine WL.h ?_)
    (try simp only [Act.put, nA, nB, nC])
    refine lM rfl rfl ?_
    (try simp only [Act.put, nA, nB, nC])
    refine lP rfl ?_
    (try simp only [Act.put, nA, nB, nC])
    refine lP rfl ?_
    (try simp only [Act.put, nA, nB, nC])
    (refine ⟨?_⟩; ((refine sN1 hS rfl ?_; clear hS; (((fail_if_success guard_hyp g3); intro g3 w hS)))); refine WL.h ?_)
    (try simp only [Act.put, nA, nB, nC])
    (refine ⟨?_⟩; ((((refine sS4 hS rfl rfl rfl ?_)); clear hS; intro w hS)); refine WL.h ?_)
    (try simp only [Act.put, nA, nB, nC])
    refine lA rfl rfl ?_
    (try simp only [Act.put, nA, nB, nC])
    refine lZ ?_
    have HI := Lib.hid (RunI.begin (us := vs) HG.out hr)
    rw [HI.out.rt] at hS ⊢
    generalize begT p r vs = t at *
    generalize hnf : t.fl.length = nf at *
    have HNF := Lib.hid hnf
    have HPL := Lib.hid (HD.out.2.2.into HPA.out.2)
    have HHH := Lib.hid (show DlvH w0 p r vs t T3 w4 ⟨B1, d1, B2, d2, B3, d3, U, uc, PA, pc, EA, ec, WA, wq, RA0, rc, CA, cc, DA, dc, FA, fc⟩ ⟨B1', d1', B2', d2', B3', d3', U', uc', PA', pc', EA', ec', WA', wq', RA0', rc', CA', cc', DA', dc', FA', fc'⟩ from ⟨⟨_, HI.out⟩, HX.out.1.into HX3.out.2, HX3.out.1, intoTr (intoTr HPA.out.2 HX.out.2) HX3.out.2⟩)
    have HOB := Lib.hid (And.intro HD.out.2.2 HY.out.2.1)
    clear hnf HX HX3 HI HPL HPA HD HY
    go_upto_region 7 with (fail)
    go_wp2_with (fail)
    go_loopw [17, 18, 19, 20, 21, 71, 82] (fun s17 s18 s19 s20 s21 s71 s82 wr => ∃ (i : Nat) (x y : TX) (t : TS) (nf : Nat) (T : Nat → Prop) (u : World), s17 = .int .i64 i ∧ Hid (DlvH w0 p r vs t T u x y ∧ t.fl.length = nf) ∧ St w0 (fun k => True ∧ k < w0.heap.size) [blk g3 (y.cells p r p.len.length nf) 55, blk g2 (x.cells p r p.len.length nf) 55, blk g1 [.slice A1 p.len.length c1, .slice A2 p.ck.length c2, .slice A3 p.arcs.length c3] 44, froz T u] wr) (fun s17 _ _ _ _ _ _ _ => 100 - (intOf s17).toNat)
    case atStart => exact ⟨0, ⟨B1, d1, B2, d2, B3, d3, U, uc, PA, pc, EA, ec, WA, wq, RA0, rc, CA, cc, DA, dc, FA, fc⟩, ⟨B1', d1', B2', d2', B3', d3', U', uc', PA', pc', EA', ec', WA', wq', RA0', rc', CA', cc', DA', dc', FA', fc'⟩, t, nf, T3, w4, rfl, Lib.hid ⟨HHH.out, HNF.out⟩, by simp only [TX.cells]; exact hS.re⟩
    case round =>
      clear hS HHH HNF
      obtain ⟨i, ⟨B1, d1, B2, d2, B3, d3, U, uc, PA, pc, EA, ec, WA, wq, RA0, rc, CA, cc, DA, dc, FA, fc⟩, ⟨B1', d1', B2', d2', B3', d3', U', uc', PA', pc', EA', ec', WA', wq', RA0', rc', CA', cc', DA', dc', FA', fc'⟩, t, nf, T, u, rfl, H0, hS⟩ := hrel
      simp only [TX.cells] at hS
      have H := Lib.hid H0.out.1
      have HNF := Lib.hid H0.out.2
      clear H0
      obtain ⟨jj, hjj⟩ := H.out.1
      have HJ := Lib.hid hjj
      clear hjj
      by_cases hi : i < b2.length
      · have hi' : (i : Int) < (b2.length : Int) := by omega
        by_cases hi1 : i < 100
        · have hi1' : (i : Int) < 100 := by omega
          obtain ⟨bb, ob, ee1, hb1, hc1⟩ := (HOB.out.1.into H.out.2.2.2) i (.int .u8 (nth b2 i)) (by simp [bytes, nth, hi])
          have HB := Lib.hid (HOB.out.2 (nth b2 i) (by rw [nth_eq hi]; exact List.getElem_mem hi))
          have hfc : FC T u bb (ob + i) (.int .u8 (nth b2 i)) := ⟨hb1, hc1⟩
          subst ee1
          clear hb1 hc1
          generalize nth b2 i = z at *
          obtain ⟨y, rfl⟩ : ∃ y : Nat, z = y := ⟨z.toNat, by have := HB.out; omega⟩
          have hy1 : y ≤ 255 := by have := HB.out; omega
          obtain ⟨k, hk⟩ : ∃ k : Nat, y % 4 = k := ⟨_, rfl⟩
          have HKK := Lib.hid (show (y : Int) % 4 = (k : Int) by omega)
          clear hk
          go_upto_region 10 with (fail)
          by_cases hkn : k < nf
          · obtain ⟨t2, ht2⟩ : ∃ t2, t.step (srcL p) k = t2 := ⟨_, rfl⟩
            obtain ⟨n2, hn2'⟩ : ∃ n2, t2.fl.length = n2 := ⟨_, rfl⟩
            have HT2 := Lib.hid (And.intro ht2 hn2')
            have HI := Lib.hid (HJ.out.step (k := k) (by rw [HNF.out]; exact hkn))
            rw [ht2] at HI
            clear ht2 hn2'
            try simp only [Act.put, nA, nB, nC]
            go_cut [18, 19] (fun s18 s19 wx => ∃ (g4 : Nat) (C1 : Option Addr) (e1 : Nat) (C2 : Option Addr) (e2 : Nat) (C3 : Option Addr) (e3 : Nat) (VV : Option Addr) (vc : Nat) (PB : Option Addr) (pb : Nat) (EB : Option Addr) (eb : Nat) (WB : Option Addr) (wb : Nat) (RB : Option Addr) (rb : Nat) (CB : Option Addr) (cb : Nat) (DB : Option Addr) (db : Nat) (FB : Option Addr) (fb : Nat) (T2 : Nat → Prop) (u2 : World), s18 = .pointer (some ⟨g4, 0, none⟩) ∧ s19 = .int .i64 0 ∧ Hid (TpAt T2 u2 ⟨C1, e1, C2, e2, C3, e3, VV, vc, PB, pb, EB, eb, WB, wb, RB, rb, CB, cb, DB, db, FB, fb⟩ p t2 ∧ Into T T2 u u2) ∧ St w0 (fun k => True ∧ k < w0.heap.size) [blk g4 [.slice C1 p.len.length e1, .slice C2 p.ck.length e2, .slice C3 p.arcs.length e3, .int .i64 (r : Int), .slice VV p.len.length vc, .slice PB p.len.length pb, .slice EB p.len.length eb, .slice WB p.len.length wb, .slice RB p.len.length rb, .slice CB p.len.length cb, .slice DB p.len.length db, .slice FB n2 fb] 55, blk g3 [.slice B1' p.len.length d1', .slice B2' p.ck.length d2', .slice B3' p.arcs.length d3', .int .i64 (r : Int), .slice U' p.len.length uc', .slice PA' p.len.length pc', .slice EA' p.len.length ec', .slice WA' p.len.length wq', .slice RA0' p.len.length rc', .slice CA' p.len.length cc', .slice DA' p.len.length dc', .slice FA' nf fc'] 55, blk g2 [.slice B1 p.len.length d1, .slice B2 p.ck.length d2, .slice B3 p.arcs.length d3, .int .i64 (r : Int), .slice U p.len.length uc, .slice PA p.len.length pc, .slice EA p.len.length ec, .slice WA p.len.length wq, .slice RA0 p.len.length rc, .slice CA p.len.length cc, .slice DA p.len.length dc, .slice FA nf fc] 55, blk g1 [.slice A1 p.len.length c1, .slice A2 p.ck.length c2, .slice A3 p.arcs.length c3] 44, froz T2 u2] wx)
            case first =>
              refine dr_start0 []  hS (by kernel_rfl) rfl ?_; clear hS; intro w hS
              (refine dL2 hS 0 rfl rfl rfl rfl ?_)
              (try simp only [Act.put, nA, nB, nC])
              refine dM hS 1 rfl rfl rfl ?_
              (try simp only [Act.put, nA, nB, nC])
              refine dM hS 2 rfl rfl rfl ?_
              (try simp only [Act.put, nA, nB, nC])
              refine dP hS 3 rfl rfl ?_
              (try simp only [Act.put, nA, nB, nC])
              (refine dL7 hS 4 rfl rfl rfl ?_)
              (try simp only [Act.put, nA, nB, nC])
              refine dP hS 5 rfl rfl ?_
              (try simp only [Act.put, nA, nB, nC])
              first | (refine dP hS 6 rfl rfl ?_; try rw [HKK.out]) | refine dP hS 6 rfl rfl ?_
              (try simp only [Act.put, nA, nB, nC])
              refine dr_two 7 11 (by kernel_rfl) rfl rfl ?_ ?_
              (refine st_call rfl (by kernel_rfl) rfl ?_; go_at_call 34; refine (okB2 (k := k) (x := ⟨B1, d1, B2, d2, B3, d3, U, uc, PA, pc, EA, ec, WA, wq, RA0, rc, CA, cc, DA, dc, FA, fc⟩) HJ.out (H.out.2.1.into hS.frozInto) HG.out.n5 HG.out rfl HNF.out hkn HT2.out.1 HT2.out.2).mono ?_; rintro e w2 ⟨⟨C1, e1, C2, e2, C3, e3, VV, vc, PB, pb, EB, eb, WB, wb, RB, rb, CB, cb, DB, db, FB, fb⟩, rfl, hx2, hxt⟩; obtain ⟨N2, hS1, hi1, hi0⟩ := hS.grow2 hxt; replace hS := hS1; clear hS1; have HS1 := Lib.hid (And.intro (hx2.into hi1) hi0); clear hx2 hi1 hi0 hxt; simp only [TX.val, TX.cells])
              (try simp only [Act.put, nA, nB, nC])
              refine dr_end hS ?_
              refine dM hS 8 rfl rfl rfl ?_
              (try simp only [Act.put, nA, nB, nC])
              refine dP hS 9 rfl rfl ?_
              (try simp only [Act.put, nA, nB, nC])
              refine dP hS 10 rfl rfl ?_
              (try simp only [Act.put, nA, nB, nC])
              refine dr_one 11 (by kernel_rfl) rfl ?_
              (refine sN1 hS rfl ?_; clear hS; first | ((fail_if_success guard_hyp g1); intro g1 w hS) | ((fail_if_success guard_hyp g2); intro g2 w hS) | ((fail_if_success guard_hyp g3); intro g3 w hS) | ((fail_if_success guard_hyp g4); intro g4 w hS) | ((fail_if_success guard_hyp g5); intro g5 w hS) | ((fail_if_success guard_hyp g6); intro g6 w hS) | ((fail_if_success guard_hyp g7); intro g7 w hS) | ((fail_if_success guard_hyp g8); intro g8 w hS) | ((fail_if_success guard_hyp g9); intro g9 w hS) | ((fail_if_success guard_hyp g10); intro g10 w hS) | fail)
              (try simp only [Act.put, nA, nB, nC])
              refine dr_end hS ?_
              refine dr_one 12 (by kernel_rfl) rfl ?_
              (((refine sS4 hS rfl rfl rfl ?_)); clear hS; intro w hS)
              (try simp only [Act.put, nA, nB, nC])
              refine dr_end hS ?_
              refine dA hS 13 rfl rfl rfl ?_
              (try simp only [Act.put, nA, nB, nC])
              refine dr_done (by kernel_rfl) ?_
              rotate_left
              (refine sN1 hS rfl ?_; clear hS; first | ((fail_if_success guard_hyp g1); intro g1 w hS) | ((fail_if_success guard_hyp g2); intro g2 w hS) | ((fail_if_success guard_hyp g3); intro g3 w hS) | ((fail_if_success guard_hyp g4); intro g4 w hS) | ((fail_if_success guard_hyp g5); intro g5 w hS) | ((fail_if_success guard_hyp g6); intro g6 w hS) | ((fail_if_success guard_hyp g7); intro g7 w hS) | ((fail_if_success guard_hyp g8); intro g8 w hS) | ((fail_if_success guard_hyp g9); intro g9 w hS) | ((fail_if_success guard_hyp g10); intro g10 w hS) | fail)
              (try simp only [Act.put, nA, nB, nC])
              refine dr_end hS ?_
              refine dr_one 7 (by kernel_rfl) rfl ?_
              (refine st_call rfl (by kernel_rfl) rfl ?_; go_at_call 34; refine (okB2 (k := k) (x := ⟨B1, d1, B2, d2, B3, d3, U, uc, PA, pc, EA, ec, WA, wq, RA0, rc, CA, cc, DA, dc, FA, fc⟩) HJ.out (H.out.2.1.into hS.frozInto) HG.out.n5 HG.out rfl HNF.out hkn HT2.out.1 HT2.out.2).mono ?_; rintro e w2 ⟨⟨C1, e1, C2, e2, C3, e3, VV, vc, PB, pb, EB, eb, WB, wb, RB, rb, CB, cb, DB, db, FB, fb⟩, rfl, hx2, hxt⟩; obtain ⟨N2, hS1, hi1, hi0⟩ := hS.grow2 hxt; replace hS := hS1; clear hS1; have HS1 := Lib.hid (And.intro (hx2.into hi1) hi0); clear hx2 hi1 hi0 hxt; simp only [TX.val, TX.cells])
              (try simp only [Act.put, nA, nB, nC])
              refine dr_end hS ?_
              refine dM hS 8 rfl rfl rfl ?_
              (try simp only [Act.put, nA, nB, nC])
              refine dP hS 9 rfl rfl ?_
              (try simp only [Act.put, nA, nB, nC])
              refine dP hS 10 rfl rfl ?_
              (try simp only [Act.put, nA, nB, nC])
              refine dr_one 12 (by kernel_rfl) rfl ?_
              (((refine sS4 hS rfl rfl rfl ?_)); clear hS; intro w hS)
              (try simp only [Act.put, nA, nB, nC])
              refine dr_end hS ?_
              refine dA hS 13 rfl rfl rfl ?_
              (try simp only [Act.put, nA, nB, nC])
              refine dr_done (by kernel_rfl) ?_
              rotate_left
              all_goals
                replace hS : St w0 (fun k => True ∧ k < w0.heap.size) [blk g4 [.slice C1 p.len.length e1, .slice C2 p.ck.length e2, .slice C3 p.arcs.length e3, .int .i64 (r : Int), .slice VV p.len.length vc, .slice PB p.len.length pb, .slice EB p.len.length eb, .slice WB p.len.length wb, .slice RB p.len.length rb, .slice CB p.len.length cb, .slice DB p.len.length db, .slice FB n2 fb] 55, blk g3 [.slice B1' p.len.length d1', .slice B2' p.ck.length d2', .slice B3' p.arcs.length d3', .int .i64 (r : Int), .slice U' p.len.length uc', .slice PA' p.len.length pc', .slice EA' p.len.length ec', .slice WA' p.len.length wq', .slice RA0' p.len.length rc', .slice CA' p.len.length cc', .slice DA' p.len.length dc', .slice FA' nf fc'] 55, blk g2 [.slice B1 p.len.length d1, .slice B2 p.ck.length d2, .slice B3 p.arcs.length d3, .int .i64 (r : Int), .slice U p.len.length uc, .slice PA p.len.length pc, .slice EA p.len.length ec, .slice WA p.len.length wq, .slice RA0 p.len.length rc, .slice CA p.len.length cc, .slice DA p.len.length dc, .slice FA nf fc] 55, blk g1 [.slice A1 p.len.length c1, .slice A2 p.ck.length c2, .slice A3 p.arcs.length c3] 44, froz N2 w2, froz T u] _ := hS.re
                obtain ⟨T2, hS2, hi2, hi3⟩ := hS.merge N2 w2 HS1.out.2
                have HX := Lib.hid (And.intro (HS1.out.1.into hi3) hi2)
                replace hS := hS2
                clear hS2 hi2 hi3 HS1
                go_wp2_with fail
                go_meet
                exact ⟨g4, C1, e1, C2, e2, C3, e3, VV, vc, PB, pb, EB, eb, WB, wb, RB, rb, CB, cb, DB, db, FB, fb, T2, _, rfl, rfl, HX, hS.re⟩
            case rest =>
            clear hS
            obtain ⟨g4, C1, e1, C2, e2, C3, e3, VV, vc, PB, pb, EB, eb, WB, wb, RB, rb, CB, cb, DB, db, FB, fb, T2, u2, rfl, rfl, HX, hS⟩ := hcut
            have hfc2 := FC.intoT hfc HX.out.2
            go_upto_region 11 with (fail)
            try simp only [Act.put, nA, nB, nC]
            go_cut [20, 21] (fun s20 s21 wx => ∃ (g5 : Nat) (C1' : Option Addr) (e1' : Nat) (C2' : Option Addr) (e2' : Nat) (C3' : Option Addr) (e3' : Nat) (VV' : Option Addr) (vc' : Nat) (PB' : Option Addr) (pb' : Nat) (EB' : Option Addr) (eb' : Nat) (WB' : Option Addr) (wb' : Nat) (RB' : Option Addr) (rb' : Nat) (CB' : Option Addr) (cb' : Nat) (DB' : Option Addr) (db' : Nat) (FB' : Option Addr) (fb' : Nat) (T5 : Nat → Prop) (u5 : World), s20 = .pointer (some ⟨g5, 0, none⟩) ∧ s21 = .int .i64 0 ∧ Hid (TpAt T5 u5 ⟨C1', e1', C2', e2', C3', e3', VV', vc', PB', pb', EB', eb', WB', wb', RB', rb', CB', cb', DB', db', FB', fb'⟩ p t2 ∧ Into T2 T5 u2 u5) ∧ St w0 (fun k => True ∧ k < w0.heap.size) [blk g5 [.slice C1' p.len.length e1', .slice C2' p.ck.length e2', .slice C3' p.arcs.length e3', .int .i64 (r : Int), .slice VV' p.len.length vc', .slice PB' p.len.length pb', .slice EB' p.len.length eb', .slice WB' p.len.length wb', .slice RB' p.len.length rb', .slice CB' p.len.length cb', .slice DB' p.len.length db', .slice FB' n2 fb'] 55, blk g4 [.slice C1 p.len.length e1, .slice C2 p.ck.length e2, .slice C3 p.arcs.length e3, .int .i64 (r : Int), .slice VV p.len.length vc, .slice PB p.len.length pb, .slice EB p.len.length eb, .slice WB p.len.length wb, .slice RB p.len.length rb, .slice CB p.len.length cb, .slice DB p.len.length db, .slice FB n2 fb] 55, blk g3 [.slice B1' p.len.length d1', .slice B2' p.ck.length d2', .slice B3' p.arcs.length d3', .int .i64 (r : Int), .slice U' p.len.length uc', .slice PA' p.len.length pc', .slice EA' p.len.length ec', .slice WA' p.len.length wq', .slice RA0' p.len.length rc', .slice CA' p.len.length cc', .slice DA' p.len.length dc', .slice FA' nf fc'] 55, blk g2 [.slice B1 p.len.length d1, .slice B2 p.ck.length d2, .slice B3 p.arcs.length d3, .int .i64 (r : Int), .slice U p.len.length uc, .slice PA p.len.length pc, .slice EA p.len.length ec, .slice WA p.len.length wq, .slice RA0 p.len.length rc, .slice CA p.len.length cc, .slice DA p.len.length dc, .slice FA nf fc] 55, blk g1 [.slice A1 p.len.length c1, .slice A2 p.ck.length c2, .slice A3 p.arcs.length c3] 44, froz T5 u5] wx)
            case first =>
              refine dr_start0 []  hS (by kernel_rfl) rfl ?_; clear hS; intro w hS
              (refine dL2 hS 0 rfl rfl rfl rfl ?_)
              (try simp only [Act.put, nA, nB, nC])
              refine dM hS 1 rfl rfl rfl ?_
              (try simp only [Act.put, nA, nB, nC])
              refine dM hS 2 rfl rfl rfl ?_
              (try simp only [Act.put, nA, nB, nC])
              refine dP hS 3 rfl rfl ?_
              (try simp only [Act.put, nA, nB, nC])
              (refine dL7 hS 4 rfl rfl rfl ?_)
              (try simp only [Act.put, nA, nB, nC])
              refine dP hS 5 rfl rfl ?_
              (try simp only [Act.put, nA, nB, nC])
              first | (refine dP hS 6 rfl rfl ?_; try rw [HKK.out]) | refine dP hS 6 rfl rfl ?_
              (try simp only [Act.put, nA, nB, nC])
              refine dr_two 7 11 (by kernel_rfl) rfl rfl ?_ ?_
              (refine st_call rfl (by kernel_rfl) rfl ?_; go_at_call 35; refine (okR2 (k := k) (x := ⟨B1', d1', B2', d2', B3', d3', U', uc', PA', pc', EA', ec', WA', wq', RA0', rc', CA', cc', DA', dc', FA', fc'⟩) HJ.out ((H.out.2.2.1.into HX.out.2).into hS.frozInto) HG.out.n5 HG.out rfl HNF.out hkn HT2.out.1 HT2.out.2).mono ?_; rintro e w5 ⟨⟨C1', e1', C2', e2', C3', e3', VV', vc', PB', pb', EB', eb', WB', wb', RB', rb', CB', cb', DB', db', FB', fb'⟩, rfl, hx2, hxt⟩; obtain ⟨N5, hS1, hi1, hi0⟩ := hS.grow2 hxt; replace hS := hS1; clear hS1; have HS1 := Lib.hid (And.intro (hx2.into hi1) hi0); clear hx2 hi1 hi0 hxt; simp only [TX.val, TX.cells])
              (try simp only [Act.put, nA, nB, nC])
              refine dr_end hS ?_
              refine dM hS 8 rfl rfl rfl ?_
              (try simp only [Act.put, nA, nB, nC])
              refine dP hS 9 rfl rfl ?_
              (try simp only [Act.put, nA, nB, nC])
              refine dP hS 10 rfl rfl ?_
              (try simp only [Act.put, nA, nB, nC])
              refine dr_one 11 (by kernel_rfl) rfl ?_
              (refine sN1 hS rfl ?_; clear hS; first | ((fail_if_success guard_hyp g1); intro g1 w hS) | ((fail_if_success guard_hyp g2); intro g2 w hS) | ((fail_if_success guard_hyp g3); intro g3 w hS) | ((fail_if_success guard_hyp g4); intro g4 w hS) | ((fail_if_success guard_hyp g5); intro g5 w hS) | ((fail_if_success guard_hyp g6); intro g6 w hS) | ((fail_if_success guard_hyp g7); intro g7 w hS) | ((fail_if_success guard_hyp g8); intro g8 w hS) | ((fail_if_success guard_hyp g9); intro g9 w hS) | ((fail_if_success guard_hyp g10); intro g10 w hS) | fail)
              (try simp only [Act.put, nA, nB, nC])
              refine dr_end hS ?_
              refine dr_one 12 (by kernel_rfl) rfl ?_
              (((refine sS4 hS rfl rfl rfl ?_)); clear hS; intro w hS)
              (try simp only [Act.put, nA, nB, nC])
              refine dr_end hS ?_
              refine dA hS 13 rfl rfl rfl ?_
              (try simp only [Act.put, nA, nB, nC])
              refine dr_done (by kernel_rfl) ?_
              rotate_left
              (refine sN1 hS rfl ?_; clear hS; first | ((fail_if_success guard_hyp g1); intro g1 w hS) | ((fail_if_success guard_hyp g2); intro g2 w hS) | ((fail_if_success guard_hyp g3); intro g3 w hS) | ((fail_if_success guard_hyp g4); intro g4 w hS) | ((fail_if_success guard_hyp g5); intro g5 w hS) | ((fail_if_success guard_hyp g6); intro g6 w hS) | ((fail_if_success guard_hyp g7); intro g7 w hS) | ((fail_if_success guard_hyp g8); intro g8 w hS) | ((fail_if_success guard_hyp g9); intro g9 w hS) | ((fail_if_success guard_hyp g10); intro g10 w hS) | fail)
              (try simp only [Act.put, nA, nB, nC])
              refine dr_end hS ?_
              refine dr_one 7 (by kernel_rfl) rfl ?_
              (refine st_call rfl (by kernel_rfl) rfl ?_; go_at_call 35; refine (okR2 (k := k) (x := ⟨B1', d1', B2', d2', B3', d3', U', uc', PA', pc', EA', ec', WA', wq', RA0', rc', CA', cc', DA', dc', FA', fc'⟩) HJ.out ((H.out.2.2.1.into HX.out.2).into hS.frozInto) HG.out.n5 HG.out rfl HNF.out hkn HT2.out.1 HT2.out.2).mono ?_; rintro e w5 ⟨⟨C1', e1', C2', e2', C3', e3', VV', vc', PB', pb', EB', eb', WB', wb', RB', rb', CB', cb', DB', db', FB', fb'⟩, rfl, hx2, hxt⟩; obtain ⟨N5, hS1, hi1, hi0⟩ := hS.grow2 hxt; replace hS := hS1; clear hS1; have HS1 := Lib.hid (And.intro (hx2.into hi1) hi0); clear hx2 hi1 hi0 hxt; simp only [TX.val, TX.cells])
              (try simp only [Act.put, nA, nB, nC])
              refine dr_end hS ?_
              refine dM hS 8 rfl rfl rfl ?_
              (try simp only [Act.put, nA, nB, nC])
              refine dP hS 9 rfl rfl ?_
              (try simp only [Act.put, nA, nB, nC])
              refine dP hS 10 rfl rfl ?_
              (try simp only [Act.put, nA, nB, nC])
              refine dr_one 12 (by kernel_rfl) rfl ?_
              (((refine sS4 hS rfl rfl rfl ?_)); clear hS; intro w hS)
              (try simp only [Act.put, nA, nB, nC])
              refine dr_end hS ?_
              refine dA hS 13 rfl rfl rfl ?_
              (try simp only [Act.put, nA, nB, nC])
              refine dr_done (by kernel_rfl) ?_
              rotate_left
              all_goals
                replace hS : St w0 (fun k => True ∧ k < w0.heap.size) [blk g5 [.slice C1' p.len.length e1', .slice C2' p.ck.length e2', .slice C3' p.arcs.length e3', .int .i64 (r : Int), .slice VV' p.len.length vc', .slice PB' p.len.length pb', .slice EB' p.len.length eb', .slice WB' p.len.length wb', .slice RB' p.len.length rb', .slice CB' p.len.length cb', .slice DB' p.len.length db', .slice FB' n2 fb'] 55, blk g4 [.slice C1 p.len.length e1, .slice C2 p.ck.length e2, .slice C3 p.arcs.length e3, .int .i64 (r : Int), .slice VV p.len.length vc, .slice PB p.len.length pb, .slice EB p.len.length eb, .slice WB p.len.length wb, .slice RB p.len.length rb, .slice CB p.len.length cb, .slice DB p.len.length db, .slice FB n2 fb] 55, blk g3 [.slice B1' p.len.length d1', .slice B2' p.ck.length d2', .slice B3' p.arcs.length d3', .int .i64 (r : Int), .slice U' p.len.length uc', .slice PA' p.len.length pc', .slice EA' p.len.length ec', .slice WA' p.len.length wq', .slice RA0' p.len.length rc', .slice CA' p.len.length cc', .slice DA' p.len.length dc', .slice FA' nf fc'] 55, blk g2 [.slice B1 p.len.length d1, .slice B2 p.ck.length d2, .slice B3 p.arcs.length d3, .int .i64 (r : Int), .slice U p.len.length uc, .slice PA p.len.length pc, .slice EA p.len.length ec, .slice WA p.len.length wq, .slice RA0 p.len.length rc, .slice CA p.len.length cc, .slice DA p.len.length dc, .slice FA nf fc] 55, blk g1 [.slice A1 p.len.length c1, .slice A2 p.ck.length c2, .slice A3 p.arcs.length c3] 44, froz N5 w5, froz T2 u2] _ := hS.re
                obtain ⟨T5, hS2, hi2, hi3⟩ := hS.merge N5 w5 HS1.out.2
                have HY5 := Lib.hid (And.intro (HS1.out.1.into hi3) hi2)
                replace hS := hS2
                clear hS2 hi2 hi3 HS1
                go_wp2_with fail
                go_meet
                exact ⟨g5, C1', e1', C2', e2', C3', e3', VV', vc', PB', pb', EB', eb', WB', wb', RB', rb', CB', cb', DB', db', FB', fb', T5, _, rfl, rfl, HY5, hS.re⟩
            case rest =>
            clear hS
            obtain ⟨g5, C1', e1', C2', e2', C3', e3', VV', vc', PB', pb', EB', eb', WB', wb', RB', rb', CB', cb', DB', db', FB', fb', T5, u5, rfl, rfl, HY5, hS⟩ := hcut
            go_upto_region 12 with (fail)
            refine lR ?_
            refine lM rfl rfl ?_
            (try simp only [Act.put, nA, nB, nC])
            refine lM rfl rfl ?_
            (try simp only [Act.put, nA, nB, nC])
            refine lP rfl ?_
            (try simp only [Act.put, nA, nB, nC])
            refine lM rfl rfl ?_
            (try simp only [Act.put, nA, nB, nC])
            ((refine ⟨?_⟩; (((refine sL2 hS rfl rfl rfl ?_))); refine WL.h ?_))
            (try simp only [Act.put, nA, nB, nC])
            ((refine ⟨?_⟩; (((refine sL2 hS rfl rfl rfl ?_))); refine WL.h ?_))
            (try simp only [Act.put, nA, nB, nC])
            ((refine ⟨?_⟩; (refine st_call rfl (by kernel_rfl) rfl ?_; go_at_call 36; refine (okS (x := ⟨C1, e1, C2, e2, C3, e3, VV, vc, PB, pb, EB, eb, WB, wb, RB, rb, CB, cb, DB, db, FB, fb⟩) (y := ⟨C1', e1', C2', e2', C3', e3', VV', vc', PB', pb', EB', eb', WB', wb', RB', rb', CB', cb', DB', db', FB', fb'⟩) HI.out ((HX.out.1.into HY5.out.2).into hS.frozInto) (HY5.out.1.into hS.frozInto) HG.out.n5 HG.out HT2.out.2).mono ?_; rintro e w ⟨rfl, hx1⟩; replace hS := hS.ext hx1; clear hx1); refine WL.h ?_))
            (try simp only [Act.put, nA, nB, nC])
            first | refine lQ rfl ?_ | refine lP rfl ?_ | fail
            (try simp only [Act.put, nA, nB, nC])
            refine lP rfl ?_
            (try simp only [Act.put, nA, nB, nC])
            refine lZ ?_
            replace hS : St w0 (fun k => True ∧ k < w0.heap.size) [blk g5 [.slice C1' p.len.length e1', .slice C2' p.ck.length e2', .slice C3' p.arcs.length e3', .int .i64 (r : Int), .slice VV' p.len.length vc', .slice PB' p.len.length pb', .slice EB' p.len.length eb', .slice WB' p.len.length wb', .slice RB' p.len.length rb', .slice CB' p.len.length cb', .slice DB' p.len.length db', .slice FB' n2 fb'] 55, blk g4 [.slice C1 p.len.length e1, .slice C2 p.ck.length e2, .slice C3 p.arcs.length e3, .int .i64 (r : Int), .slice VV p.len.length vc, .slice PB p.len.length pb, .slice EB p.len.length eb, .slice WB p.len.length wb, .slice RB p.len.length rb, .slice CB p.len.length cb, .slice DB p.len.length db, .slice FB n2 fb] 55, blk g3 [.slice B1' p.len.length d1', .slice B2' p.ck.length d2', .slice B3' p.arcs.length d3', .int .i64 (r : Int), .slice U' p.len.length uc', .slice PA' p.len.length pc', .slice EA' p.len.length ec', .slice WA' p.len.length wq', .slice RA0' p.len.length rc', .slice CA' p.len.length cc', .slice DA' p.len.length dc', .slice FA' nf fc'] 55, blk g2 [.slice B1 p.len.length d1, .slice B2 p.ck.length d2, .slice B3 p.arcs.length d3, .int .i64 (r : Int), .slice U p.len.length uc, .slice PA p.len.length pc, .slice EA p.len.length ec, .slice WA p.len.length wq, .slice RA0 p.len.length rc, .slice CA p.len.length cc, .slice DA p.len.length dc, .slice FA nf fc] 55, blk g1 [.slice A1 p.len.length c1, .slice A2 p.ck.length c2, .slice A3 p.arcs.length c3] 44, froz T5 u5] _ := hS.re
            go_upto_region 15 with (fail)
            refine dr_start2 [3] 2 2 hS (by kernel_rfl) rfl ?_; clear hS; intro w hS
            (refine dL2 hS 0 rfl rfl rfl rfl ?_)
            (try simp only [Act.put, nA, nB, nC])
            (refine dL2 hS 1 rfl rfl rfl rfl ?_)
            (try simp only [Act.put, nA, nB, nC])
            refine dr_one 2 (by kernel_rfl) rfl ?_
            (((refine sS4 hS rfl rfl rfl ?_)); clear hS; intro w hS)
            (try simp only [Act.put, nA, nB, nC])
            refine dr_end hS ?_
            refine dr_one 3 (by kernel_rfl) rfl ?_
            (((refine sS4 hS rfl rfl rfl ?_)); clear hS; intro w hS)
            (try simp only [Act.put, nA, nB, nC])
            refine dr_late (by kernel_rfl) ?_
            refine dr_done (by kernel_rfl) ?_
            all_goals
              go_wp2_with (fail)
              go_roundw
              case measure => simp [intOf]; try omega
              exact ⟨i + 1, ⟨C1, e1, C2, e2, C3, e3, VV, vc, PB, pb, EB, eb, WB, wb, RB, rb, CB, cb, DB, db, FB, fb⟩, ⟨C1', e1', C2', e2', C3', e3', VV', vc', PB', pb', EB', eb', WB', wb', RB', rb', CB', cb', DB', db', FB', fb'⟩, t2, n2, T5, u5, by go_num, Lib.hid ⟨⟨⟨_, HI.out⟩, HX.out.1.into HY5.out.2, HY5.out.1, intoTr (intoTr H.out.2.2.2 HX.out.2) HY5.out.2⟩, HT2.out.2⟩, by simp only [TX.cells]; exact hS.re⟩
          · try simp only [Act.put, nA, nB, nC]
            go_cut [18, 19] (fun s18 s19 wx => ∃ g4 : Nat, s18 = .pointer (some ⟨g4, 0, none⟩) ∧ s19 = .int .i64 11 ∧ St w0 (fun k => True ∧ k < w0.heap.size) [blk g4 tp0 55, blk g3 [.slice B1' p.len.length d1', .slice B2' p.ck.length d2', .slice B3' p.arcs.length d3', .int .i64 (r : Int), .slice U' p.len.length uc', .slice PA' p.len.length pc', .slice EA' p.len.length ec', .slice WA' p.len.length wq', .slice RA0' p.len.length rc', .slice CA' p.len.length cc', .slice DA' p.len.length dc', .slice FA' nf fc'] 55, blk g2 [.slice B1 p.len.length d1, .slice B2 p.ck.length d2, .slice B3 p.arcs.length d3, .int .i64 (r : Int), .slice U p.len.length uc, .slice PA p.len.length pc, .slice EA p.len.length ec, .slice WA p.len.length wq, .slice RA0 p.len.length rc, .slice CA p.len.length cc, .slice DA p.len.length dc, .slice FA nf fc] 55, blk g1 [.slice A1 p.len.length c1, .slice A2 p.ck.length c2, .slice A3 p.arcs.length c3] 44, froz T u] wx)
            case first =>
              refine dr_start0 []  hS (by kernel_rfl) rfl ?_; clear hS; intro w hS
              (refine dL2 hS 0 rfl rfl rfl rfl ?_)
              (try simp only [Act.put, nA, nB, nC])
              refine dM hS 1 rfl rfl rfl ?_
              (try simp only [Act.put, nA, nB, nC])
              refine dM hS 2 rfl rfl rfl ?_
              (try simp only [Act.put, nA, nB, nC])
              refine dP hS 3 rfl rfl ?_
              (try simp only [Act.put, nA, nB, nC])
              (refine dL7 hS 4 rfl rfl rfl ?_)
              (try simp only [Act.put, nA, nB, nC])
              refine dP hS 5 rfl rfl ?_
              (try simp only [Act.put, nA, nB, nC])
              first | (refine dP hS 6 rfl rfl ?_; try rw [HKK.out]) | refine dP hS 6 rfl rfl ?_
              (try simp only [Act.put, nA, nB, nC])
              refine dr_two 7 11 (by kernel_rfl) rfl rfl ?_ ?_
              (refine st_call rfl (by kernel_rfl) rfl ?_; go_at_call 34; refine (deliver0_any ⟨B1, d1, B2, d2, B3, d3, U, uc, PA, pc, EA, ec, WA, wq, RA0, rc, CA, cc, DA, dc, FA, fc⟩ p r p.len.length _ (k : Int) _ (.inr (by omega))).mono ?_; rintro e w ⟨rfl, hx1⟩; replace hS := hS.ext hx1; clear hx1)
              (try simp only [Act.put, nA, nB, nC])
              refine dr_end hS ?_
              refine dM hS 8 rfl rfl rfl ?_
              (try simp only [Act.put, nA, nB, nC])
              refine dP hS 9 rfl rfl ?_
              (try simp only [Act.put, nA, nB, nC])
              refine dP hS 10 rfl rfl ?_
              (try simp only [Act.put, nA, nB, nC])
              refine dr_one 11 (by kernel_rfl) rfl ?_
              (refine sN1 hS rfl ?_; clear hS; first | ((fail_if_success guard_hyp g1); intro g1 w hS) | ((fail_if_success guard_hyp g2); intro g2 w hS) | ((fail_if_success guard_hyp g3); intro g3 w hS) | ((fail_if_success guard_hyp g4); intro g4 w hS) | ((fail_if_success guard_hyp g5); intro g5 w hS) | ((fail_if_success guard_hyp g6); intro g6 w hS) | ((fail_if_success guard_hyp g7); intro g7 w hS) | ((fail_if_success guard_hyp g8); intro g8 w hS) | ((fail_if_success guard_hyp g9); intro g9 w hS) | ((fail_if_success guard_hyp g10); intro g10 w hS) | fail)
              (try simp only [Act.put, nA, nB, nC])
              refine dr_end hS ?_
              refine dr_one 12 (by kernel_rfl) rfl ?_
              (((refine sS4 hS rfl rfl rfl ?_)); clear hS; intro w hS)
              (try simp only [Act.put, nA, nB, nC])
              refine dr_end hS ?_
              refine dA hS 13 rfl rfl rfl ?_
              (try simp only [Act.put, nA, nB, nC])
              refine dr_done (by kernel_rfl) ?_
              rotate_left
              (refine sN1 hS rfl ?_; clear hS; first | ((fail_if_success guard_hyp g1); intro g1 w hS) | ((fail_if_success guard_hyp g2); intro g2 w hS) | ((fail_if_success guard_hyp g3); intro g3 w hS) | ((fail_if_success guard_hyp g4); intro g4 w hS) | ((fail_if_success guard_hyp g5); intro g5 w hS) | ((fail_if_success guard_hyp g6); intro g6 w hS) | ((fail_if_success guard_hyp g7); intro g7 w hS) | ((fail_if_success guard_hyp g8); intro g8 w hS) | ((fail_if_success guard_hyp g9); intro g9 w hS) | ((fail_if_success guard_hyp g10); intro g10 w hS) | fail)
              (try simp only [Act.put, nA, nB, nC])
              refine dr_end hS ?_
              refine dr_one 7 (by kernel_rfl) rfl ?_
              (refine st_call rfl (by kernel_rfl) rfl ?_; go_at_call 34; refine (deliver0_any ⟨B1, d1, B2, d2, B3, d3, U, uc, PA, pc, EA, ec, WA, wq, RA0, rc, CA, cc, DA, dc, FA, fc⟩ p r p.len.length _ (k : Int) _ (.inr (by omega))).mono ?_; rintro e w ⟨rfl, hx1⟩; replace hS := hS.ext hx1; clear hx1)
              (try simp only [Act.put, nA, nB, nC])
              refine dr_end hS ?_
              refine dM hS 8 rfl rfl rfl ?_
              (try simp only [Act.put, nA, nB, nC])
              refine dP hS 9 rfl rfl ?_
              (try simp only [Act.put, nA, nB, nC])
              refine dP hS 10 rfl rfl ?_
              (try simp only [Act.put, nA, nB, nC])
              refine dr_one 12 (by kernel_rfl) rfl ?_
              (((refine sS4 hS rfl rfl rfl ?_)); clear hS; intro w hS)
              (try simp only [Act.put, nA, nB, nC])
              refine dr_end hS ?_
              refine dA hS 13 rfl rfl rfl ?_
              (try simp only [Act.put, nA, nB, nC])
              refine dr_done (by kernel_rfl) ?_
              rotate_left
              all_goals
                go_wp2_with fail
                go_meet
                exact ⟨g4, rfl, rfl, hS.re⟩
            case rest =>
            clear hS
            obtain ⟨g4, rfl, rfl, hS⟩ := hcut
            go_upto_region 11 with (fail)
            try simp only [Act.put, nA, nB, nC]
            go_cut [20, 21] (fun s20 s21 wx => ∃ g5 : Nat, s20 = .pointer (some ⟨g5, 0, none⟩) ∧ s21 = .int .i64 11 ∧ St w0 (fun k => True ∧ k < w0.heap.size) [blk g5 tp0 55, blk g4 tp0 55, blk g3 [.slice B1' p.len.length d1', .slice B2' p.ck.length d2', .slice B3' p.arcs.length d3', .int .i64 (r : Int), .slice U' p.len.length uc', .slice PA' p.len.length pc', .slice EA' p.len.length ec', .slice WA' p.len.length wq', .slice RA0' p.len.length rc', .slice CA' p.len.length cc', .slice DA' p.len.length dc', .slice FA' nf fc'] 55, blk g2 [.slice B1 p.len.length d1, .slice B2 p.ck.length d2, .slice B3 p.arcs.length d3, .int .i64 (r : Int), .slice U p.len.length uc, .slice PA p.len.length pc, .slice EA p.len.length ec, .slice WA p.len.length wq, .slice RA0 p.len.length rc, .slice CA p.len.length cc, .slice DA p.len.length dc, .slice FA nf fc] 55, blk g1 [.slice A1 p.len.length c1, .slice A2 p.ck.length c2, .slice A3 p.arcs.length c3] 44, froz T u] wx)
            case first =>
              refine dr_start0 []  hS (by kernel_rfl) rfl ?_; clear hS; intro w hS
              (refine dL2 hS 0 rfl rfl rfl rfl ?_)
              (try simp only [Act.put, nA, nB, nC])
              refine dM hS 1 rfl rfl rfl ?_
              (try simp only [Act.put, nA, nB, nC])
              refine dM hS 2 rfl rfl rfl ?_
              (try simp only [Act.put, nA, nB, nC])
              refine dP hS 3 rfl rfl ?_
              (try simp only [Act.put, nA, nB, nC])
              (refine dL7 hS 4 rfl rfl rfl ?_)
              (try simp only [Act.put, nA, nB, nC])
              refine dP hS 5 rfl rfl ?_
              (try simp only [Act.put, nA, nB, nC])
              first | (refine dP hS 6 rfl rfl ?_; try rw [HKK.out]) | refine dP hS 6 rfl rfl ?_
              (try simp only [Act.put, nA, nB, nC])
              refine dr_two 7 11 (by kernel_rfl) rfl rfl ?_ ?_
              (refine st_call rfl (by kernel_rfl) rfl ?_; go_at_call 35; refine (rdeliver0_any ⟨B1', d1', B2', d2', B3', d3', U', uc', PA', pc', EA', ec', WA', wq', RA0', rc', CA', cc', DA', dc', FA', fc'⟩ p r p.len.length _ (k : Int) _ (.inr (by omega))).mono ?_; rintro e w ⟨rfl, hx1⟩; replace hS := hS.ext hx1; clear hx1)
              (try simp only [Act.put, nA, nB, nC])
              refine dr_end hS ?_
              refine dM hS 8 rfl rfl rfl ?_
              (try simp only [Act.put, nA, nB, nC])
              refine dP hS 9 rfl rfl ?_
              (try simp only [Act.put, nA, nB, nC])
              refine dP hS 10 rfl rfl ?_
              (try simp only [Act.put, nA, nB, nC])
              refine dr_one 11 (by kernel_rfl) rfl ?_
              (refine sN1 hS rfl ?_; clear hS; first | ((fail_if_success guard_hyp g1); intro g1 w hS) | ((fail_if_success guard_hyp g2); intro g2 w hS) | ((fail_if_success guard_hyp g3); intro g3 w hS) | ((fail_if_success guard_hyp g4); intro g4 w hS) | ((fail_if_success guard_hyp g5); intro g5 w hS) | ((fail_if_success guard_hyp g6); intro g6 w hS) | ((fail_if_success guard_hyp g7); intro g7 w hS) | ((fail_if_success guard_hyp g8); intro g8 w hS) | ((fail_if_success guard_hyp g9); intro g9 w hS) | ((fail_if_success guard_hyp g10); intro g10 w hS) | fail)
              (try simp only [Act.put, nA, nB, nC])
              refine dr_end hS ?_
              refine dr_one 12 (by kernel_rfl) rfl ?_
              (((refine sS4 hS rfl rfl rfl ?_)); clear hS; intro w hS)
              (try simp only [Act.put, nA, nB, nC])
              refine dr_end hS ?_
              refine dA hS 13 rfl rfl rfl ?_
              (try simp only [Act.put, nA, nB, nC])
              refine dr_done (by kernel_rfl) ?_
              rotate_left
              (refine sN1 hS rfl ?_; clear hS; first | ((fail_if_success guard_hyp g1); intro g1 w hS) | ((fail_if_success guard_hyp g2); intro g2 w hS) | ((fail_if_success guard_hyp g3); intro g3 w hS) | ((fail_if_success guard_hyp g4); intro g4 w hS) | ((fail_if_success guard_hyp g5); intro g5 w hS) | ((fail_if_success guard_hyp g6); intro g6 w hS) | ((fail_if_success guard_hyp g7); intro g7 w hS) | ((fail_if_success guard_hyp g8); intro g8 w hS) | ((fail_if_success guard_hyp g9); intro g9 w hS) | ((fail_if_success guard_hyp g10); intro g10 w hS) | fail)
              (try simp only [Act.put, nA, nB, nC])
              refine dr_end hS ?_
              refine dr_one 7 (by kernel_rfl) rfl ?_
              (refine st_call rfl (by kernel_rfl) rfl ?_; go_at_call 35; refine (rdeliver0_any ⟨B1', d1', B2', d2', B3', d3', U', uc', PA', pc', EA', ec', WA', wq', RA0', rc', CA', cc', DA', dc', FA', fc'⟩ p r p.len.length _ (k : Int) _ (.inr (by omega))).mono ?_; rintro e w ⟨rfl, hx1⟩; replace hS := hS.ext hx1; clear hx1)
              (try simp only [Act.put, nA, nB, nC])
              refine dr_end hS ?_
              refine dM hS 8 rfl rfl rfl ?_
              (try simp only [Act.put, nA, nB, nC])
              refine dP hS 9 rfl rfl ?_
              (try simp only [Act.put, nA, nB, nC])
              refine dP hS 10 rfl rfl ?_
              (try simp only [Act.put, nA, nB, nC])
              refine dr_one 12 (by kernel_rfl) rfl ?_
              (((refine sS4 hS rfl rfl rfl ?_)); clear hS; intro w hS)
              (try simp only [Act.put, nA, nB, nC])
              refine dr_end hS ?_
              refine dA hS 13 rfl rfl rfl ?_
              (try simp only [Act.put, nA, nB, nC])
              refine dr_done (by kernel_rfl) ?_
              rotate_left
              all_goals
                go_wp2_with fail
                go_meet
                exact ⟨g5, rfl, rfl, hS.re⟩
            case rest =>
            clear hS
            obtain ⟨g5, rfl, rfl, hS⟩ := hcut
            go_upto_region 12 with (fail)
            refine lR ?_
            refine lM rfl rfl ?_
            (try simp only [Act.put, nA, nB, nC])
            refine lM rfl rfl ?_
            (try simp only [Act.put, nA, nB, nC])
            refine lP rfl ?_
            (try simp only [Act.put, nA, nB, nC])
            refine lM rfl rfl ?_
            (try simp only [Act.put, nA, nB, nC])
            ((refine ⟨?_⟩; (((refine sL2 hS rfl rfl rfl ?_))); refine WL.h ?_))
            (try simp only [Act.put, nA, nB, nC])
            ((refine ⟨?_⟩; (((refine sL2 hS rfl rfl rfl ?_))); refine WL.h ?_))
            (try simp only [Act.put, nA, nB, nC])
            ((refine ⟨?_⟩; (refine st_call rfl (by kernel_rfl) rfl ?_; go_at_call 36; refine (rsame0 _).mono ?_; rintro e w ⟨rfl, hx1⟩; replace hS := hS.ext hx1; clear hx1); refine WL.h ?_))
            (try simp only [Act.put, nA, nB, nC])
            first | refine lQ rfl ?_ | refine lP rfl ?_ | fail
            (try simp only [Act.put, nA, nB, nC])
            refine lP rfl ?_
            (try simp only [Act.put, nA, nB, nC])
            refine lZ ?_
            go_wp2_with (fail)
            go_roundw
            case measure => simp [intOf]; try omega
            exact ⟨i + 1, ⟨B1, d1, B2, d2, B3, d3, U, uc, PA, pc, EA, ec, WA, wq, RA0, rc, CA, cc, DA, dc, FA, fc⟩, ⟨B1', d1', B2', d2', B3', d3', U', uc', PA', pc', EA', ec', WA', wq', RA0', rc', CA', cc', DA', dc', FA', fc'⟩, t, nf, T, u, by go_num, Lib.hid ⟨H.out, HNF.out⟩, by simp only [TX.cells]; exact hS.re⟩
        · have hi1' : ¬ (i : Int) < 100 := by omega
          go_upto_region 16 with (fail)
          by_cases hz : 0 ≤ z1 ∧ z1 < (nf : Int)
          · obtain ⟨k, hk⟩ : ∃ k : Nat, z1 = k := ⟨z1.toNat, by omega⟩
            subst hk
            have hkn : k < nf := by omega
            have hf0 : 0 < nf := by omega
            refine lR ?_
            (refine ⟨?_⟩; (((refine sL2 hS rfl rfl rfl ?_))); refine WL.h ?_)
            (try simp only [Act.put, nA, nB, nC])
            refine lM rfl rfl ?_
            (try simp only [Act.put, nA, nB, nC])
            (refine ⟨?_⟩; (refine st_call rfl (by kernel_rfl) rfl ?_; go_at_call 34; refine (okB (k := k) (x := ⟨B1, d1, B2, d2, B3, d3, U, uc, PA, pc, EA, ec, WA, wq, RA0, rc, CA, cc, DA, dc, FA, fc⟩) HJ.out (H.out.2.1.into hS.frozInto) HG.out.n5 HG.out rfl HNF.out hkn).mono ?_; rintro e w2 ⟨⟨C1, e1, C2, e2, C3, e3, VV, vc, PB, pb, EB, eb, WB, wb, RB, rb, CB, cb, DB, db, FB, fb⟩, rfl, hx2, hxt⟩; obtain ⟨T2, hS2, hi1, hi0⟩ := hS.grow hxt; clear hS; have hS := hS2; clear hS2; have HX := Lib.hid (And.intro (hx2.into hi1) hi0); clear hx2 hi1 hi0 hxt; simp only [TX.val, TX.cells]); refine WL.h ?_)
            (try simp only [Act.put, nA, nB, nC])
            refine lM rfl rfl ?_
            (try simp only [Act.put, nA, nB, nC])
            refine lP rfl ?_
            (try simp only [Act.put, nA, nB, nC])
            refine lP rfl ?_
            (try simp only [Act.put, nA, nB, nC])
            (refine ⟨?_⟩; ((refine sN1 hS rfl ?_; clear hS; (((fail_if_success guard_hyp g4); intro g4 w hS)))); refine WL.h ?_)
            (try simp only [Act.put, nA, nB, nC])
            (refine ⟨?_⟩; ((((refine sS4 hS rfl rfl rfl ?_)); clear hS; intro w hS)); refine WL.h ?_)
            (try simp only [Act.put, nA, nB, nC])
            refine lA rfl rfl ?_
            (try simp only [Act.put, nA, nB, nC])
            refine lZ ?_
            go_upto_region 17 with (fail)
            refine lR ?_
            (refine ⟨?_⟩; (((refine sL2 hS rfl rfl rfl ?_))); refine WL.h ?_)
            (try simp only [Act.put, nA, nB, nC])
            refine lM rfl rfl ?_
            (try simp only [Act.put, nA, nB, nC])
            (refine ⟨?_⟩; (refine st_call rfl (by kernel_rfl) rfl ?_; go_at_call 35; refine (okR (k := k) (x := ⟨B1', d1', B2', d2', B3', d3', U', uc', PA', pc', EA', ec', WA', wq', RA0', rc', CA', cc', DA', dc', FA', fc'⟩) HJ.out ((H.out.2.2.1.into HX.out.2).into hS.frozInto) HG.out.n5 HG.out rfl HNF.out hkn).mono ?_; rintro e w5 ⟨⟨C1', e1', C2', e2', C3', e3', VV', vc', PB', pb', EB', eb', WB', wb', RB', rb', CB', cb', DB', db', FB', fb'⟩, rfl, hx2, hxt⟩; obtain ⟨T5, hS2, hi1, hi0⟩ := hS.grow hxt; clear hS; have hS := hS2; clear hS2; have HY5 := Lib.hid (And.intro (hx2.into hi1) hi0); clear hx2 hi1 hi0 hxt; simp only [TX.val, TX.cells]); refine WL.h ?_)
            (try simp only [Act.put, nA, nB, nC])
            refine lM rfl rfl ?_
            (try simp only [Act.put, nA, nB, nC])
            refine lP rfl ?_
            (try simp only [Act.put, nA, nB, nC])
            refine lP rfl ?_
            (try simp only [Act.put, nA, nB, nC])
            (refine ⟨?_⟩; ((refine sN1 hS rfl ?_; clear hS; (((fail_if_success guard_hyp g5); intro g5 w hS)))); refine WL.h ?_)
            (try simp only [Act.put, nA, nB, nC])
            (refine ⟨?_⟩; ((((refine sS4 hS rfl rfl rfl ?_)); clear hS; intro w hS)); refine WL.h ?_)
            (try simp only [Act.put, nA, nB, nC])
            refine lA rfl rfl ?_
            (try simp only [Act.put, nA, nB, nC])
            refine lZ ?_
            have HI := Lib.hid (HJ.out.step (k := k) (by rw [HNF.out]; exact hkn))
            generalize t.step (srcL p) k = t2 at *
            go_upto_region 18 with (fail)
            refine lR ?_
            (refine ⟨?_⟩; (((refine sL2 hS rfl rfl rfl ?_))); refine WL.h ?_)
            (try simp only [Act.put, nA, nB, nC])
            (refine ⟨?_⟩; (refine st_call rfl (by kernel_rfl) rfl ?_; go_at_call 37; refine (result0_any ⟨B1, d1, B2, d2, B3, d3, U, uc, PA, pc, EA, ec, WA, wq, RA0, rc, CA, cc, DA, dc, FA, fc⟩ p r p.len.length nf _ hf0).mono ?_; rintro e w ⟨rfl, hx1⟩; replace hS := hS.ext hx1; clear hx1); refine WL.h ?_)
            (try simp only [Act.put, nA, nB, nC])
            refine lM rfl rfl ?_
            (try simp only [Act.put, nA, nB, nC])
            refine lP rfl ?_
            (try simp only [Act.put, nA, nB, nC])
            refine lP rfl ?_
            (try simp only [Act.put, nA, nB, nC])
            (refine ⟨?_⟩; ((refine sN1 hS rfl ?_; clear hS; (((fail_if_success guard_hyp g6); intro g6 w hS)))); refine WL.h ?_)
            (try simp only [Act.put, nA, nB, nC])
            (refine ⟨?_⟩; ((((refine sS4 hS rfl rfl rfl ?_)); clear hS; intro w hS)); refine WL.h ?_)
            (try simp only [Act.put, nA, nB, nC])
            refine lA rfl rfl ?_
            (try simp only [Act.put, nA, nB, nC])
            refine lZ ?_
            go_upto_region 19 with (fail)
            refine lR ?_
            (refine ⟨?_⟩; (((refine sL2 hS rfl rfl rfl ?_))); refine WL.h ?_)
            (try simp only [Act.put, nA, nB, nC])
            (refine ⟨?_⟩; (refine st_call rfl (by kernel_rfl) rfl ?_; go_at_call 38; refine (rresult0_any ⟨B1', d1', B2', d2', B3', d3', U', uc', PA', pc', EA', ec', WA', wq', RA0', rc', CA', cc', DA', dc', FA', fc'⟩ p r p.len.length nf _ hf0).mono ?_; rintro e w ⟨rfl, hx1⟩; replace hS := hS.ext hx1; clear hx1); refine WL.h ?_)
            (try simp only [Act.put, nA, nB, nC])
            refine lM rfl rfl ?_
            (try simp only [Act.put, nA, nB, nC])
            refine lP rfl ?_
            (try simp only [Act.put, nA, nB, nC])
            refine lP rfl ?_
            (try simp only [Act.put, nA, nB, nC])
            (refine ⟨?_⟩; ((refine sN1 hS rfl ?_; clear hS; (((fail_if_success guard_hyp g7); intro g7 w hS)))); refine WL.h ?_)
            (try simp only [Act.put, nA, nB, nC])
            (refine ⟨?_⟩; ((((refine sS4 hS rfl rfl rfl ?_)); clear hS; intro w hS)); refine WL.h ?_)
            (try simp only [Act.put, nA, nB, nC])
            refine lA rfl rfl ?_
            (try simp only [Act.put, nA, nB, nC])
            refine lZ ?_
            go_upto_region 20 with (fail)
            refine lR ?_
            refine lM rfl rfl ?_
            (try simp only [Act.put, nA, nB, nC])
            refine lM rfl rfl ?_
            (try simp only [Act.put, nA, nB, nC])
            refine lP rfl ?_
            (try simp only [Act.put, nA, nB, nC])
            refine lM rfl rfl ?_
            (try simp only [Act.put, nA, nB, nC])
            ((refine ⟨?_⟩; (((refine sL2 hS rfl rfl rfl ?_))); refine WL.h ?_))
            (try simp only [Act.put, nA, nB, nC])
            ((refine ⟨?_⟩; (((refine sL2 hS rfl rfl rfl ?_))); refine WL.h ?_))
            (try simp only [Act.put, nA, nB, nC])
            ((refine ⟨?_⟩; (refine st_call rfl (by kernel_rfl) rfl ?_; go_at_call 36; refine (okS (x := ⟨C1, e1, C2, e2, C3, e3, VV, vc, PB, pb, EB, eb, WB, wb, RB, rb, CB, cb, DB, db, FB, fb⟩) (y := ⟨C1', e1', C2', e2', C3', e3', VV', vc', PB', pb', EB', eb', WB', wb', RB', rb', CB', cb', DB', db', FB', fb'⟩) HI.out ((HX.out.1.into HY5.out.2).into hS.frozInto) (HY5.out.1.into hS.frozInto) HG.out.n5 HG.out rfl).mono ?_; rintro e w ⟨rfl, hx1⟩; replace hS := hS.ext hx1; clear hx1); refine WL.h ?_))
            (try simp only [Act.put, nA, nB, nC])
            refine lP rfl ?_
            (try simp only [Act.put, nA, nB, nC])
            refine lM rfl rfl ?_
            (try simp only [Act.put, nA, nB, nC])
            first | refine lQ rfl ?_ | refine lM rfl rfl ?_ | fail
            (try simp only [Act.put, nA, nB, nC])
            first | refine lQ rfl ?_ | refine lM rfl rfl ?_ | fail
            (try simp only [Act.put, nA, nB, nC])
            first | refine lQ rfl ?_ | refine lP rfl ?_ | fail
            (try simp only [Act.put, nA, nB, nC])
            refine lP rfl ?_
            (try simp only [Act.put, nA, nB, nC])
            refine lM rfl rfl ?_
            (try simp only [Act.put, nA, nB, nC])
            ((refine ⟨?_⟩; (((refine sL2 hS rfl rfl rfl ?_))); refine WL.h ?_))
            (try simp only [Act.put, nA, nB, nC])
            ((refine ⟨?_⟩; (((refine sL2 hS rfl rfl rfl ?_))); refine WL.h ?_))
            (try simp only [Act.put, nA, nB, nC])
            ((refine ⟨?_⟩; (refine st_call rfl (by kernel_rfl) rfl ?_; go_at_call 39; refine (psame0 _).mono ?_; rintro e w ⟨rfl, hx1⟩; replace hS := hS.ext hx1; clear hx1); refine WL.h ?_))
            (try simp only [Act.put, nA, nB, nC])
            refine lP rfl ?_
            (try simp only [Act.put, nA, nB, nC])
            refine lA rfl rfl ?_
            (try simp only [Act.put, nA, nB, nC])
            refine lZ ?_
            go_wp2_with (fail)
            go_ret
            exact ⟨rfl, hS.extF (intoTr (intoTr (intoTr H.out.2.2.2 HX.out.2) HY5.out.2) hS.ornF)⟩
          · have hz' : z1 < 0 ∨ (nf : Int) ≤ z1 := by omega
            by_cases hf0 : 0 < nf
            · refine lR ?_
              (refine ⟨?_⟩; (((refine sL2 hS rfl rfl rfl ?_))); refine WL.h ?_)
              (try simp only [Act.put, nA, nB, nC])
              refine lM rfl rfl ?_
              (try simp only [Act.put, nA, nB, nC])
              (refine ⟨?_⟩; (refine st_call rfl (by kernel_rfl) rfl ?_; go_at_call 34; refine (deliver0_any ⟨B1, d1, B2, d2, B3, d3, U, uc, PA, pc, EA, ec, WA, wq, RA0, rc, CA, cc, DA, dc, FA, fc⟩ p r p.len.length _ z1 _ hz').mono ?_; rintro e w ⟨rfl, hx1⟩; replace hS := hS.ext hx1; clear hx1); refine WL.h ?_)
              (try simp only [Act.put, nA, nB, nC])
              refine lM rfl rfl ?_
              (try simp only [Act.put, nA, nB, nC])
              refine lP rfl ?_
              (try simp only [Act.put, nA, nB, nC])
              refine lP rfl ?_
              (try simp only [Act.put, nA, nB, nC])
              (refine ⟨?_⟩; ((refine sN1 hS rfl ?_; clear hS; (((fail_if_success guard_hyp g4); intro g4 w hS)))); refine WL.h ?_)
              (try simp only [Act.put, nA, nB, nC])
              (refine ⟨?_⟩; ((((refine sS4 hS rfl rfl rfl ?_)); clear hS; intro w hS)); refine WL.h ?_)
              (try simp only [Act.put, nA, nB, nC])
              refine lA rfl rfl ?_
              (try simp only [Act.put, nA, nB, nC])
              refine lZ ?_
              go_upto_region 17 with (fail)
              refine lR ?_
              (refine ⟨?_⟩; (((refine sL2 hS rfl rfl rfl ?_))); refine WL.h ?_)
              (try simp only [Act.put, nA, nB, nC])
              refine lM rfl rfl ?_
              (try simp only [Act.put, nA, nB, nC])
              (refine ⟨?_⟩; (refine st_call rfl (by kernel_rfl) rfl ?_; go_at_call 35; refine (rdeliver0_any ⟨B1', d1', B2', d2', B3', d3', U', uc', PA', pc', EA', ec', WA', wq', RA0', rc', CA', cc', DA', dc', FA', fc'⟩ p r p.len.length _ z1 _ hz').mono ?_; rintro e w ⟨rfl, hx1⟩; replace hS := hS.ext hx1; clear hx1); refine WL.h ?_)
              (try simp only [Act.put, nA, nB, nC])
              refine lM rfl rfl ?_
              (try simp only [Act.put, nA, nB, nC])
              refine lP rfl ?_
              (try simp only [Act.put, nA, nB, nC])
              refine lP rfl ?_
              (try simp only [Act.put, nA, nB, nC])
              (refine ⟨?_⟩; ((refine sN1 hS rfl ?_; clear hS; (((fail_if_success guard_hyp g5); intro g5 w hS)))); refine WL.h ?_)
              (try simp only [Act.put, nA, nB, nC])
              (refine ⟨?_⟩; ((((refine sS4 hS rfl rfl rfl ?_)); clear hS; intro w hS)); refine WL.h ?_)
              (try simp only [Act.put, nA, nB, nC])
              refine lA rfl rfl ?_
              (try simp only [Act.put, nA, nB, nC])
              refine lZ ?_
              go_upto_region 18 with (fail)
              refine lR ?_
              (refine ⟨?_⟩; (((refine sL2 hS rfl rfl rfl ?_))); refine WL.h ?_)
              (try simp only [Act.put, nA, nB, nC])
              (refine ⟨?_⟩; (refine st_call rfl (by kernel_rfl) rfl ?_; go_at_call 37; refine (result0_any ⟨B1, d1, B2, d2, B3, d3, U, uc, PA, pc, EA, ec, WA, wq, RA0, rc, CA, cc, DA, dc, FA, fc⟩ p r p.len.length nf _ hf0).mono ?_; rintro e w ⟨rfl, hx1⟩; replace hS := hS.ext hx1; clear hx1); refine WL.h ?_)
              (try simp only [Act.put, nA, nB, nC])
              refine lM rfl rfl ?_
              (try simp only [Act.put, nA, nB, nC])
              refine lP rfl ?_
              (try simp only [Act.put, nA, nB, nC])
              refine lP rfl ?_
              (try simp only [Act.put, nA, nB, nC])
              (refine ⟨?_⟩; ((refine sN1 hS rfl ?_; clear hS; (((fail_if_success guard_hyp g6); intro g6 w hS)))); refine WL.h ?_)
              (try simp only [Act.put, nA, nB, nC])
              (refine ⟨?_⟩; ((((refine sS4 hS rfl rfl rfl ?_)); clear hS; intro w hS)); refine WL.h ?_)
              (try simp only [Act.put, nA, nB, nC])
              refine lA rfl rfl ?_
              (try simp only [Act.put, nA, nB, nC])
              refine lZ ?_
              go_upto_region 19 with (fail)
              refine lR ?_
              (refine ⟨?_⟩; (((refine sL2 hS rfl rfl rfl ?_))); refine WL.h ?_)
              (try simp only [Act.put, nA, nB, nC])
              (refine ⟨?_⟩; (refine st_call rfl (by kernel_rfl) rfl ?_; go_at_call 38; refine (rresult0_any ⟨B1', d1', B2', d2', B3', d3', U', uc', PA', pc', EA', ec', WA', wq', RA0', rc', CA', cc', DA', dc', FA', fc'⟩ p r p.len.length nf _ hf0).mono ?_; rintro e w ⟨rfl, hx1⟩; replace hS := hS.ext hx1; clear hx1); refine WL.h ?_)
              (try simp only [Act.put, nA, nB, nC])
              refine lM rfl rfl ?_
              (try simp only [Act.put, nA, nB, nC])
              refine lP rfl ?_
              (try simp only [Act.put, nA, nB, nC])
              refine lP rfl ?_
              (try simp only [Act.put, nA, nB, nC])
              (refine ⟨?_⟩; ((refine sN1 hS rfl ?_; clear hS; (((fail_if_success guard_hyp g7); intro g7 w hS)))); refine WL.h ?_)
              (try simp only [Act.put, nA, nB, nC])
              (refine ⟨?_⟩; ((((refine sS4 hS rfl rfl rfl ?_)); clear hS; intro w hS)); refine WL.h ?_)
              (try simp only [Act.put, nA, nB, nC])
              refine lA rfl rfl ?_
              (try simp only [Act.put, nA, nB, nC])
              refine lZ ?_
              go_upto_region 20 with (fail)
              refine lR ?_
              refine lM rfl rfl ?_
              (try simp only [Act.put, nA, nB, nC])
              refine lM rfl rfl ?_
              (try simp only [Act.put, nA, nB, nC])
              refine lP rfl ?_
              (try simp only [Act.put, nA, nB, nC])
              refine lM rfl rfl ?_
              (try simp only [Act.put, nA, nB, nC])
              ((refine ⟨?_⟩; (((refine sL2 hS rfl rfl rfl ?_))); refine WL.h ?_))
              (try simp only [Act.put, nA, nB, nC])
              ((refine ⟨?_⟩; (((refine sL2 hS rfl rfl rfl ?_))); refine WL.h ?_))
              (try simp only [Act.put, nA, nB, nC])
              ((refine ⟨?_⟩; (refine st_call rfl (by kernel_rfl) rfl ?_; go_at_call 36; refine (rsame0 _).mono ?_; rintro e w ⟨rfl, hx1⟩; replace hS := hS.ext hx1; clear hx1); refine WL.h ?_))
              (try simp only [Act.put, nA, nB, nC])
              refine lP rfl ?_
              (try simp only [Act.put, nA, nB, nC])
              refine lM rfl rfl ?_
              (try simp only [Act.put, nA, nB, nC])
              first | refine lQ rfl ?_ | refine lM rfl rfl ?_ | fail
              (try simp only [Act.put, nA, nB, nC])
              first | refine lQ rfl ?_ | refine lM rfl rfl ?_ | fail
              (try simp only [Act.put, nA, nB, nC])
              first | refine lQ rfl ?_ | refine lP rfl ?_ | fail
              (try simp only [Act.put, nA, nB, nC])
              refine lP rfl ?_
              (try simp only [Act.put, nA, nB, nC])
              refine lM rfl rfl ?_
              (try simp only [Act.put, nA, nB, nC])
              ((refine ⟨?_⟩; (((refine sL2 hS rfl rfl rfl ?_))); refine WL.h ?_))
              (try simp only [Act.put, nA, nB, nC])
              ((refine ⟨?_⟩; (((refine sL2 hS rfl rfl rfl ?_))); refine WL.h ?_))
              (try simp only [Act.put, nA, nB, nC])
              ((refine ⟨?_⟩; (refine st_call rfl (by kernel_rfl) rfl ?_; go_at_call 39; refine (psame0 _).mono ?_; rintro e w ⟨rfl, hx1⟩; replace hS := hS.ext hx1; clear hx1); refine WL.h ?_))
              (try simp only [Act.put, nA, nB, nC])
              refine lP rfl ?_
              (try simp only [Act.put, nA, nB, nC])
              refine lA rfl rfl ?_
              (try simp only [Act.put, nA, nB, nC])
              refine lZ ?_
              go_wp2_with (fail)
              go_ret
              exact ⟨rfl, hS.extF (intoTr H.out.2.2.2 hS.ornF)⟩
            · obtain rfl : nf = 0 := by omega
              have HTL := Lib.hid HJ.out.inv.l
              refine lR ?_
              (refine ⟨?_⟩; (((refine sL2 hS rfl rfl rfl ?_))); refine WL.h ?_)
              (try simp only [Act.put, nA, nB, nC])
              refine lM rfl rfl ?_
              (try simp only [Act.put, nA, nB, nC])
              (refine ⟨?_⟩; (refine st_call rfl (by kernel_rfl) rfl ?_; go_at_call 34; refine (deliver0_any ⟨B1, d1, B2, d2, B3, d3, U, uc, PA, pc, EA, ec, WA, wq, RA0, rc, CA, cc, DA, dc, FA, fc⟩ p r p.len.length _ z1 _ hz').mono ?_; rintro e w ⟨rfl, hx1⟩; replace hS := hS.ext hx1; clear hx1); refine WL.h ?_)
              (try simp only [Act.put, nA, nB, nC])
              refine lM rfl rfl ?_
              (try simp only [Act.put, nA, nB, nC])
              refine lP rfl ?_
              (try simp only [Act.put, nA, nB, nC])
              refine lP rfl ?_
              (try simp only [Act.put, nA, nB, nC])
              (refine ⟨?_⟩; ((refine sN1 hS rfl ?_; clear hS; (((fail_if_success guard_hyp g4); intro g4 w hS)))); refine WL.h ?_)
              (try simp only [Act.put, nA, nB, nC])
              (refine ⟨?_⟩; ((((refine sS4 hS rfl rfl rfl ?_)); clear hS; intro w hS)); refine WL.h ?_)
              (try simp only [Act.put, nA, nB, nC])
              refine lA rfl rfl ?_
              (try simp only [Act.put, nA, nB, nC])
              refine lZ ?_
              go_upto_region 17 with (fail)
              refine lR ?_
              (refine ⟨?_⟩; (((refine sL2 hS rfl rfl rfl ?_))); refine WL.h ?_)
              (try simp only [Act.put, nA, nB, nC])
              refine lM rfl rfl ?_
              (try simp only [Act.put, nA, nB, nC])
              (refine ⟨?_⟩; (refine st_call rfl (by kernel_rfl) rfl ?_; go_at_call 35; refine (rdeliver0_any ⟨B1', d1', B2', d2', B3', d3', U', uc', PA', pc', EA', ec', WA', wq', RA0', rc', CA', cc', DA', dc', FA', fc'⟩ p r p.len.length _ z1 _ hz').mono ?_; rintro e w ⟨rfl, hx1⟩; replace hS := hS.ext hx1; clear hx1); refine WL.h ?_)
              (try simp only [Act.put, nA, nB, nC])
              refine lM rfl rfl ?_
              (try simp only [Act.put, nA, nB, nC])
              refine lP rfl ?_
              (try simp only [Act.put, nA, nB, nC])
              refine lP rfl ?_
              (try simp only [Act.put, nA, nB, nC])
              (refine ⟨?_⟩; ((refine sN1 hS rfl ?_; clear hS; (((fail_if_success guard_hyp g5); intro g5 w hS)))); refine WL.h ?_)
              (try simp only [Act.put, nA, nB, nC])
              (refine ⟨?_⟩; ((((refine sS4 hS rfl rfl rfl ?_)); clear hS; intro w hS)); refine WL.h ?_)
              (try simp only [Act.put, nA, nB, nC])
              refine lA rfl rfl ?_
              (try simp only [Act.put, nA, nB, nC])
              refine lZ ?_
              go_upto_region 18 with (fail)
              refine lR ?_
              (refine ⟨?_⟩; (((refine sL2 hS rfl rfl rfl ?_))); refine WL.h ?_)
              (try simp only [Act.put, nA, nB, nC])
              (refine ⟨?_⟩; (refine st_call rfl (by kernel_rfl) rfl ?_; go_at_call 37; refine (result_any ⟨B1, d1, B2, d2, B3, d3, U, uc, PA, pc, EA, ec, WA, wq, RA0, rc, CA, cc, DA, dc, FA, fc⟩ p t r _ (H.out.2.1.into hS.frozInto) HG.out HTL.out.d).mono ?_; rintro e w6 ⟨⟨D1, f1, D2, f2, D3, f3⟩, rfl, hpx, hxt⟩; simp only [PV.val]; obtain ⟨T6, hS2, hi1, hi0⟩ := hS.grow hxt; clear hS; have hS := hS2; clear hS2; have HX6 := Lib.hid (And.intro (hpx.into hi1) hi0); clear hpx hi1 hi0 hxt); refine WL.h ?_)
              (try simp only [Act.put, nA, nB, nC])
              refine lM rfl rfl ?_
              (try simp only [Act.put, nA, nB, nC])
              refine lP rfl ?_
              (try simp only [Act.put, nA, nB, nC])
              refine lP rfl ?_
              (try simp only [Act.put, nA, nB, nC])
              (refine ⟨?_⟩; ((refine sN1 hS rfl ?_; clear hS; (((fail_if_success guard_hyp g6); intro g6 w hS)))); refine WL.h ?_)
              (try simp only [Act.put, nA, nB, nC])
              (refine ⟨?_⟩; ((((refine sS4 hS rfl rfl rfl ?_)); clear hS; intro w hS)); refine WL.h ?_)
              (try simp only [Act.put, nA, nB, nC])
              refine lA rfl rfl ?_
              (try simp only [Act.put, nA, nB, nC])
              refine lZ ?_
              go_upto_region 19 with (fail)
              refine lR ?_
              (refine ⟨?_⟩; (((refine sL2 hS rfl rfl rfl ?_))); refine WL.h ?_)
              (try simp only [Act.put, nA, nB, nC])
              (refine ⟨?_⟩; (refine st_call rfl (by kernel_rfl) rfl ?_; go_at_call 38; refine (rresult_any ⟨B1', d1', B2', d2', B3', d3', U', uc', PA', pc', EA', ec', WA', wq', RA0', rc', CA', cc', DA', dc', FA', fc'⟩ p t r _ ((H.out.2.2.1.into HX6.out.2).into hS.frozInto) HG.out HTL.out.d).mono ?_; rintro e w7 ⟨⟨E1, h1, E2, h2, E3, h3⟩, rfl, hpx, hxt⟩; simp only [PV.val]; obtain ⟨T7, hS2, hi1, hi0⟩ := hS.grow hxt; clear hS; have hS := hS2; clear hS2; have HX7 := Lib.hid (And.intro (hpx.into hi1) hi0); clear hpx hi1 hi0 hxt); refine WL.h ?_)
              (try simp only [Act.put, nA, nB, nC])
              refine lM rfl rfl ?_
              (try simp only [Act.put, nA, nB, nC])
              refine lP rfl ?_
              (try simp only [Act.put, nA, nB, nC])
              refine lP rfl ?_
              (try simp only [Act.put, nA, nB, nC])
              (refine ⟨?_⟩; ((refine sN1 hS rfl ?_; clear hS; (((fail_if_success guard_hyp g7); intro g7 w hS)))); refine WL.h ?_)
              (try simp only [Act.put, nA, nB, nC])
              (refine ⟨?_⟩; ((((refine sS4 hS rfl rfl rfl ?_)); clear hS; intro w hS)); refine WL.h ?_)
              (try simp only [Act.put, nA, nB, nC])
              refine lA rfl rfl ?_
              (try simp only [Act.put, nA, nB, nC])
              refine lZ ?_
              have HGX := Lib.hid (resP_good HG.out t.dec p.len.length (Nat.le_refl _))
              generalize resP p t.dec p.len.length = x at *
              go_upto_region 20 with (fail)
              refine lR ?_
              refine lM rfl rfl ?_
              (try simp only [Act.put, nA, nB, nC])
              refine lM rfl rfl ?_
              (try simp only [Act.put, nA, nB, nC])
              refine lP rfl ?_
              (try simp only [Act.put, nA, nB, nC])
              refine lM rfl rfl ?_
              (try simp only [Act.put, nA, nB, nC])
              ((refine ⟨?_⟩; (((refine sL2 hS rfl rfl rfl ?_))); refine WL.h ?_))
              (try simp only [Act.put, nA, nB, nC])
              ((refine ⟨?_⟩; (((refine sL2 hS rfl rfl rfl ?_))); refine WL.h ?_))
              (try simp only [Act.put, nA, nB, nC])
              ((refine ⟨?_⟩; (refine st_call rfl (by kernel_rfl) rfl ?_; go_at_call 36; refine (rsame0 _).mono ?_; rintro e w ⟨rfl, hx1⟩; replace hS := hS.ext hx1; clear hx1); refine WL.h ?_))
              (try simp only [Act.put, nA, nB, nC])
              refine lP rfl ?_
              (try simp only [Act.put, nA, nB, nC])
              refine lM rfl rfl ?_
              (try simp only [Act.put, nA, nB, nC])
              first | refine lQ rfl ?_ | refine lM rfl rfl ?_ | fail
              (try simp only [Act.put, nA, nB, nC])
              first | refine lQ rfl ?_ | refine lM rfl rfl ?_ | fail
              (try simp only [Act.put, nA, nB, nC])
              first | refine lQ rfl ?_ | refine lP rfl ?_ | fail
              (try simp only [Act.put, nA, nB, nC])
              refine lP rfl ?_
              (try simp only [Act.put, nA, nB, nC])
              refine lM rfl rfl ?_
              (try simp only [Act.put, nA, nB, nC])
              ((refine ⟨?_⟩; (((refine sL2 hS rfl rfl rfl ?_))); refine WL.h ?_))
              (try simp only [Act.put, nA, nB, nC])
              ((refine ⟨?_⟩; (((refine sL2 hS rfl rfl rfl ?_))); refine WL.h ?_))
              (try simp only [Act.put, nA, nB, nC])
              ((refine ⟨?_⟩; (refine st_call rfl (by kernel_rfl) rfl ?_; go_at_call 39; refine (rsame_good ((HX6.out.1.into HX7.out.2).into hS.frozInto) (HX7.out.1.into hS.frozInto) HGX.out).mono ?_; rintro e w ⟨rfl, hx1⟩; replace hS := hS.ext hx1; clear hx1); refine WL.h ?_))
              (try simp only [Act.put, nA, nB, nC])
              refine lP rfl ?_
              (try simp only [Act.put, nA, nB, nC])
              refine lA rfl rfl ?_
              (try simp only [Act.put, nA, nB, nC])
              refine lZ ?_
              go_wp2_with (fail)
              go_ret
              exact ⟨rfl, hS.extF (intoTr (intoTr (intoTr H.out.2.2.2 HX6.out.2) HX7.out.2) hS.ornF)⟩
      · have hi' : ¬ (i : Int) < (b2.length : Int) := by omega
        go_upto_region 16 with (fail)
        by_cases hz : 0 ≤ z1 ∧ z1 < (nf : Int)
        · obtain ⟨k, hk⟩ : ∃ k : Nat, z1 = k := ⟨z1.toNat, by omega⟩
          subst hk
          have hkn : k < nf := by omega
          have hf0 : 0 < nf := by omega
          refine lR ?_
          (refine ⟨?_⟩; (((refine sL2 hS rfl rfl rfl ?_))); refine WL.h ?_)
          (try simp only [Act.put, nA, nB, nC])
          refine lM rfl rfl ?_
          (try simp only [Act.put, nA, nB, nC])
          (refine ⟨?_⟩; (refine st_call rfl (by kernel_rfl) rfl ?_; go_at_call 34; refine (okB (k := k) (x := ⟨B1, d1, B2, d2, B3, d3, U, uc, PA, pc, EA, ec, WA, wq, RA0, rc, CA, cc, DA, dc, FA, fc⟩) HJ.out (H.out.2.1.into hS.frozInto) HG.out.n5 HG.out rfl HNF.out hkn).mono ?_; rintro e w2 ⟨⟨C1, e1, C2, e2, C3, e3, VV, vc, PB, pb, EB, eb, WB, wb, RB, rb, CB, cb, DB, db, FB, fb⟩, rfl, hx2, hxt⟩; obtain ⟨T2, hS2, hi1, hi0⟩ := hS.grow hxt; clear hS; have hS := hS2; clear hS2; have HX := Lib.hid (And.intro (hx2.into hi1) hi0); clear hx2 hi1 hi0 hxt; simp only [TX.val, TX.cells]); refine WL.h ?_)
          (try simp only [Act.put, nA, nB, nC])
          refine lM rfl rfl ?_
          (try simp only [Act.put, nA, nB, nC])
          refine lP rfl ?_
          (try simp only [Act.put, nA, nB, nC])
          refine lP rfl ?_
          (try simp only [Act.put, nA, nB, nC])
          (refine ⟨?_⟩; ((refine sN1 hS rfl ?_; clear hS; (((fail_if_success guard_hyp g4); intro g4 w hS)))); refine WL.h ?_)
          (try simp only [Act.put, nA, nB, nC])
          (refine ⟨?_⟩; ((((refine sS4 hS rfl rfl rfl ?_)); clear hS; intro w hS)); refine WL.h ?_)
          (try simp only [Act.put, nA, nB, nC])
          refine lA rfl rfl ?_
          (try simp only [Act.put, nA, nB, nC])
          refine lZ ?_
          go_upto_region 17 with (fail)
          refine lR ?_
          (refine ⟨?_⟩; (((refine sL2 hS rfl rfl rfl ?_))); refine WL.h ?_)
          (try simp only [Act.put, nA, nB, nC])
          refine lM rfl rfl ?_
          (try simp only [Act.put, nA, nB, nC])
          (refine ⟨?_⟩; (refine st_call rfl (by kernel_rfl) rfl ?_; go_at_call 35; refine (okR (k := k) (x := ⟨B1', d1', B2', d2', B3', d3', U', uc', PA', pc', EA', ec', WA', wq', RA0', rc', CA', cc', DA', dc', FA', fc'⟩) HJ.out ((H.out.2.2.1.into HX.out.2).into hS.frozInto) HG.out.n5 HG.out rfl HNF.out hkn).mono ?_; rintro e w5 ⟨⟨C1', e1', C2', e2', C3', e3', VV', vc', PB', pb', EB', eb', WB', wb', RB', rb', CB', cb', DB', db', FB', fb'⟩, rfl, hx2, hxt⟩; obtain ⟨T5, hS2, hi1, hi0⟩ := hS.grow hxt; clear hS; have hS := hS2; clear hS2; have HY5 := Lib.hid (And.intro (hx2.into hi1) hi0); clear hx2 hi1 hi0 hxt; simp only [TX.val, TX.cells]); refine WL.h ?_)
          (try simp only [Act.put, nA, nB, nC])
          refine lM rfl rfl ?_
          (try simp only [Act.put, nA, nB, nC])
          refine lP rfl ?_
          (try simp only [Act.put, nA, nB, nC])
          refine lP rfl ?_
          (try simp only [Act.put, nA, nB, nC])
          (refine ⟨?_⟩; ((refine sN1 hS rfl ?_; clear hS; (((fail_if_success guard_hyp g5); intro g5 w hS)))); refine WL.h ?_)
          (try simp only [Act.put, nA, nB, nC])
          (refine ⟨?_⟩; ((((refine sS4 hS rfl rfl rfl ?_)); clear hS; intro w hS)); refine WL.h ?_)
          (try simp only [Act.put, nA, nB, nC])
          refine lA rfl rfl ?_
          (try simp only [Act.put, nA, nB, nC])
          refine lZ ?_
          have HI := Lib.hid (HJ.out.step (k := k) (by rw [HNF.out]; exact hkn))
          generalize t.step (srcL p) k = t2 at *
          go_upto_region 18 with (fail)
          refine lR ?_
          (refine ⟨?_⟩; (((refine sL2 hS rfl rfl rfl ?_))); refine WL.h ?_)
          (try simp only [Act.put, nA, nB, nC])
          (refine ⟨?_⟩; (refine st_call rfl (by kernel_rfl) rfl ?_; go_at_call 37; refine (result0_any ⟨B1, d1, B2, d2, B3, d3, U, uc, PA, pc, EA, ec, WA, wq, RA0, rc, CA, cc, DA, dc, FA, fc⟩ p r p.len.length nf _ hf0).mono ?_; rintro e w ⟨rfl, hx1⟩; replace hS := hS.ext hx1; clear hx1); refine WL.h ?_)
          (try simp only [Act.put, nA, nB, nC])
          refine lM rfl rfl ?_
          (try simp only [Act.put, nA, nB, nC])
          refine lP rfl ?_
          (try simp only [Act.put, nA, nB, nC])
          refine lP rfl ?_
          (try simp only [Act.put, nA, nB, nC])
          (refine ⟨?_⟩; ((refine sN1 hS rfl ?_; clear hS; (((fail_if_success guard_hyp g6); intro g6 w hS)))); refine WL.h ?_)
          (try simp only [Act.put, nA, nB, nC])
          (refine ⟨?_⟩; ((((refine sS4 hS rfl rfl rfl ?_)); clear hS; intro w hS)); refine WL.h ?_)
          (try simp only [Act.put, nA, nB, nC])
          refine lA rfl rfl ?_
          (try simp only [Act.put, nA, nB, nC])
          refine lZ ?_
          go_upto_region 19 with (fail)
          refine lR ?_
          (refine ⟨?_⟩; (((refine sL2 hS rfl rfl rfl ?_))); refine WL.h ?_)
          (try simp only [Act.put, nA, nB, nC])
          (refine ⟨?_⟩; (refine st_call rfl (by kernel_rfl) rfl ?_; go_at_call 38; refine (rresult0_any ⟨B1', d1', B2', d2', B3', d3', U', uc', PA', pc', EA', ec', WA', wq', RA0', rc', CA', cc', DA', dc', FA', fc'⟩ p r p.len.length nf _ hf0).mono ?_; rintro e w ⟨rfl, hx1⟩; replace hS := hS.ext hx1; clear hx1); refine WL.h ?_)
          (try simp only [Act.put, nA, nB, nC])
          refine lM rfl rfl ?_
          (try simp only [Act.put, nA, nB, nC])
          refine lP rfl ?_
          (try simp only [Act.put, nA, nB, nC])
          refine lP rfl ?_
          (try simp only [Act.put, nA, nB, nC])
          (refine ⟨?_⟩; ((refine sN1 hS rfl ?_; clear hS; (((fail_if_success guard_hyp g7); intro g7 w hS)))); refine WL.h ?_)
          (try simp only [Act.put, nA, nB, nC])
          (refine ⟨?_⟩; ((((refine sS4 hS rfl rfl rfl ?_)); clear hS; intro w hS)); refine WL.h ?_)
          (try simp only [Act.put, nA, nB, nC])
          refine lA rfl rfl ?_
          (try simp only [Act.put, nA, nB, nC])
          refine lZ ?_
          go_upto_region 20 with (fail)
          refine lR ?_
          refine lM rfl rfl ?_
          (try simp only [Act.put, nA, nB, nC])
          refine lM rfl rfl ?_
          (try simp only [Act.put, nA, nB, nC])
          refine lP rfl ?_
          (try simp only [Act.put, nA, nB, nC])
          refine lM rfl rfl ?_
          (try simp only [Act.put, nA, nB, nC])
          ((refine ⟨?_⟩; (((refine sL2 hS rfl rfl rfl ?_))); refine WL.h ?_))
          (try simp only [Act.put, nA, nB, nC])
          ((refine ⟨?_⟩; (((refine sL2 hS rfl rfl rfl ?_))); refine WL.h ?_))
          (try simp only [Act.put, nA, nB, nC])
          ((refine ⟨?_⟩; (refine st_call rfl (by kernel_rfl) rfl ?_; go_at_call 36; refine (okS (x := ⟨C1, e1, C2, e2, C3, e3, VV, vc, PB, pb, EB, eb, WB, wb, RB, rb, CB, cb, DB, db, FB, fb⟩) (y := ⟨C1', e1', C2', e2', C3', e3', VV', vc', PB', pb', EB', eb', WB', wb', RB', rb', CB', cb', DB', db', FB', fb'⟩) HI.out ((HX.out.1.into HY5.out.2).into hS.frozInto) (HY5.out.1.into hS.frozInto) HG.out.n5 HG.out rfl).mono ?_; rintro e w ⟨rfl, hx1⟩; replace hS := hS.ext hx1; clear hx1); refine WL.h ?_))
          (try simp only [Act.put, nA, nB, nC])
          refine lP rfl ?_
          (try simp only [Act.put, nA, nB, nC])
          refine lM rfl rfl ?_
          (try simp only [Act.put, nA, nB, nC])
          first | refine lQ rfl ?_ | refine lM rfl rfl ?_ | fail
          (try simp only [Act.put, nA, nB, nC])
          first | refine lQ rfl ?_ | refine lM rfl rfl ?_ | fail
          (try simp only [Act.put, nA, nB, nC])
          first | refine lQ rfl ?_ | refine lP rfl ?_ | fail
          (try simp only [Act.put, nA, nB, nC])
          refine lP rfl ?_
          (try simp only [Act.put, nA, nB, nC])
          refine lM rfl rfl ?_
          (try simp only [Act.put, nA, nB, nC])
          ((refine ⟨?_⟩; (((refine sL2 hS rfl rfl rfl ?_))); refine WL.h ?_))
          (try simp only [Act.put, nA, nB, nC])
          ((refine ⟨?_⟩; (((refine sL2 hS rfl rfl rfl ?_))); refine WL.h ?_))
          (try simp only [Act.put, nA, nB, nC])
          ((refine ⟨?_⟩; (refine st_call rfl (by kernel_rfl) rfl ?_; go_at_call 39; refine (psame0 _).mono ?_; rintro e w ⟨rfl, hx1⟩; replace hS := hS.ext hx1; clear hx1); refine WL.h ?_))
          (try simp only [Act.put, nA, nB, nC])
          refine lP rfl ?_
          (try simp only [Act.put, nA, nB, nC])
          refine lA rfl rfl ?_
          (try simp only [Act.put, nA, nB, nC])
          refine lZ ?_
          go_wp2_with (fail)
          go_ret
          exact ⟨rfl, hS.extF (intoTr (intoTr (intoTr H.out.2.2.2 HX.out.2) HY5.out.2) hS.ornF)⟩
        · have hz' : z1 < 0 ∨ (nf : Int) ≤ z1 := by omega
          by_cases hf0 : 0 < nf
          · refine lR ?_
            (refine ⟨?_⟩; (((refine sL2 hS rfl rfl rfl ?_))); refine WL.h ?_)
            (try simp only [Act.put, nA, nB, nC])
            refine lM rfl rfl ?_
            (try simp only [Act.put, nA, nB, nC])
            (refine ⟨?_⟩; (refine st_call rfl (by kernel_rfl) rfl ?_; go_at_call 34; refine (deliver0_any ⟨B1, d1, B2, d2, B3, d3, U, uc, PA, pc, EA, ec, WA, wq, RA0, rc, CA, cc, DA, dc, FA, fc⟩ p r p.len.length _ z1 _ hz').mono ?_; rintro e w ⟨rfl, hx1⟩; replace hS := hS.ext hx1; clear hx1); refine WL.h ?_)
            (try simp only [Act.put, nA, nB, nC])
            refine lM rfl rfl ?_
            (try simp only [Act.put, nA, nB, nC])
            refine lP rfl ?_
            (try simp only [Act.put, nA, nB, nC])
            refine lP rfl ?_
            (try simp only [Act.put, nA, nB, nC])
            (refine ⟨?_⟩; ((refine sN1 hS rfl ?_; clear hS; (((fail_if_success guard_hyp g4); intro g4 w hS)))); refine WL.h ?_)
            (try simp only [Act.put, nA, nB, nC])
            (refine ⟨?_⟩; ((((refine sS4 hS rfl rfl rfl ?_)); clear hS; intro w hS)); refine WL.h ?_)
            (try simp only [Act.put, nA, nB, nC])
            refine lA rfl rfl ?_
            (try simp only [Act.put, nA, nB, nC])
            refine lZ ?_
            go_upto_region 17 with (fail)
            refine lR ?_
            (refine ⟨?_⟩; (((refine sL2 hS rfl rfl rfl ?_))); refine WL.h ?_)
            (try simp only [Act.put, nA, nB, nC])
            refine lM rfl rfl ?_
            (try simp only [Act.put, nA, nB, nC])
            (refine ⟨?_⟩; (refine st_call rfl (by kernel_rfl) rfl ?_; go_at_call 35; refine (rdeliver0_any ⟨B1', d1', B2', d2', B3', d3', U', uc', PA', pc', EA', ec', WA', wq', RA0', rc', CA', cc', DA', dc', FA', fc'⟩ p r p.len.length _ z1 _ hz').mono ?_; rintro e w ⟨rfl, hx1⟩; replace hS := hS.ext hx1; clear hx1); refine WL.h ?_)
            (try simp only [Act.put, nA, nB, nC])
            refine lM rfl rfl ?_
            (try simp only [Act.put, nA, nB, nC])
            refine lP rfl ?_
            (try simp only [Act.put, nA, nB, nC])
            refine lP rfl ?_
            (try simp only [Act.put, nA, nB, nC])
            (refine ⟨?_⟩; ((refine sN1 hS rfl ?_; clear hS; (((fail_if_success guard_hyp g5); intro g5 w hS)))); refine WL.h ?_)
            (try simp only [Act.put, nA, nB, nC])
            (refine ⟨?_⟩; ((((refine sS4 hS rfl rfl rfl ?_)); clear hS; intro w hS)); refine WL.h ?_)
            (try simp only [Act.put, nA, nB, nC])
            refine lA rfl rfl ?_
            (try simp only [Act.put, nA, nB, nC])
            refine lZ ?_
            go_upto_region 18 with (fail)
            refine lR ?_
            (refine ⟨?_⟩; (((refine sL2 hS rfl rfl rfl ?_))); refine WL.h ?_)
            (try simp only [Act.put, nA, nB, nC])
            (refine ⟨?_⟩; (refine st_call rfl (by kernel_rfl) rfl ?_; go_at_call 37; refine (result0_any ⟨B1, d1, B2, d2, B3, d3, U, uc, PA, pc, EA, ec, WA, wq, RA0, rc, CA, cc, DA, dc, FA, fc⟩ p r p.len.length nf _ hf0).mono ?_; rintro e w ⟨rfl, hx1⟩; replace hS := hS.ext hx1; clear hx1); refine WL.h ?_)
            (try simp only [Act.put, nA, nB, nC])
            refine lM rfl rfl ?_
            (try simp only [Act.put, nA, nB, nC])
            refine lP rfl ?_
            (try simp only [Act.put, nA, nB, nC])
            refine lP rfl ?_
            (try simp only [Act.put, nA, nB, nC])
            (refine ⟨?_⟩; ((refine sN1 hS rfl ?_; clear hS; (((fail_if_success guard_hyp g6); intro g6 w hS)))); refine WL.h ?_)
            (try simp only [Act.put, nA, nB, nC])
            (refine ⟨?_⟩; ((((refine sS4 hS rfl rfl rfl ?_)); clear hS; intro w hS)); refine WL.h ?_)
            (try simp only [Act.put, nA, nB, nC])
            refine lA rfl rfl ?_
            (try simp only [Act.put, nA, nB, nC])
            refine lZ ?_
            go_upto_region 19 with (fail)
            refine lR ?_
            (refine ⟨?_⟩; (((refine sL2 hS rfl rfl rfl ?_))); refine WL.h ?_)
            (try simp only [Act.put, nA, nB, nC])
            (refine ⟨?_⟩; (refine st_call rfl (by kernel_rfl) rfl ?_; go_at_call 38; refine (rresult0_any ⟨B1', d1', B2', d2', B3', d3', U', uc', PA', pc', EA', ec', WA', wq', RA0', rc', CA', cc', DA', dc', FA', fc'⟩ p r p.len.length nf _ hf0).mono ?_; rintro e w ⟨rfl, hx1⟩; replace hS := hS.ext hx1; clear hx1); refine WL.h ?_)
            (try simp only [Act.put, nA, nB, nC])
            refine lM rfl rfl ?_
            (try simp only [Act.put, nA, nB, nC])
            refine lP rfl ?_
            (try simp only [Act.put, nA, nB, nC])
            refine lP rfl ?_
            (try simp only [Act.put, nA, nB, nC])
            (refine ⟨?_⟩; ((refine sN1 hS rfl ?_; clear hS; (((fail_if_success guard_hyp g7); intro g7 w hS)))); refine WL.h ?_)
            (try simp only [Act.put, nA, nB, nC])
            (refine ⟨?_⟩; ((((refine sS4 hS rfl rfl rfl ?_)); clear hS; intro w hS)); refine WL.h ?_)
            (try simp only [Act.put, nA, nB, nC])
            refine lA rfl rfl ?_
            (try simp only [Act.put, nA, nB, nC])
            refine lZ ?_
            go_upto_region 20 with (fail)
            refine lR ?_
            refine lM rfl rfl ?_
            (try simp only [Act.put, nA, nB, nC])
            refine lM rfl rfl ?_
            (try simp only [Act.put, nA, nB, nC])
            refine lP rfl ?_
            (try simp only [Act.put, nA, nB, nC])
            refine lM rfl rfl ?_
            (try simp only [Act.put, nA, nB, nC])
            ((refine ⟨?_⟩; (((refine sL2 hS rfl rfl rfl ?_))); refine WL.h ?_))
            (try simp only [Act.put, nA, nB, nC])
            ((refine ⟨?_⟩; (((refine sL2 hS rfl rfl rfl ?_))); refine WL.h ?_))
            (try simp only [Act.put, nA, nB, nC])
            ((refine ⟨?_⟩; (refine st_call rfl (by kernel_rfl) rfl ?_; go_at_call 36; refine (rsame0 _).mono ?_; rintro e w ⟨rfl, hx1⟩; replace hS := hS.ext hx1; clear hx1); refine WL.h ?_))
            (try simp only [Act.put, nA, nB, nC])
            refine lP rfl ?_
            (try simp only [Act.put, nA, nB, nC])
            refine lM rfl rfl ?_
            (try simp only [Act.put, nA, nB, nC])
            first | refine lQ rfl ?_ | refine lM rfl rfl ?_ | fail
            (try simp only [Act.put, nA, nB, nC])
            first | refine lQ rfl ?_ | refine lM rfl rfl ?_ | fail
            (try simp only [Act.put, nA, nB, nC])
            first | refine lQ rfl ?_ | refine lP rfl ?_ | fail
            (try simp only [Act.put, nA, nB, nC])
            refine lP rfl ?_
            (try simp only [Act.put, nA, nB, nC])
            refine lM rfl rfl ?_
            (try simp only [Act.put, nA, nB, nC])
            ((refine ⟨?_⟩; (((refine sL2 hS rfl rfl rfl ?_))); refine WL.h ?_))
            (try simp only [Act.put, nA, nB, nC])
            ((refine ⟨?_⟩; (((refine sL2 hS rfl rfl rfl ?_))); refine WL.h ?_))
            (try simp only [Act.put, nA, nB, nC])
            ((refine ⟨?_⟩; (refine st_call rfl (by kernel_rfl) rfl ?_; go_at_call 39; refine (psame0 _).mono ?_; rintro e w ⟨rfl, hx1⟩; replace hS := hS.ext hx1; clear hx1); refine WL.h ?_))
            (try simp only [Act.put, nA, nB, nC])
            refine lP rfl ?_
            (try simp only [Act.put, nA, nB, nC])
            refine lA rfl rfl ?_
            (try simp only [Act.put, nA, nB, nC])
            refine lZ ?_
            go_wp2_with (fail)
            go_ret
            exact ⟨rfl, hS.extF (intoTr H.out.2.2.2 hS.ornF)⟩
          · obtain rfl : nf = 0 := by omega
            have HTL := Lib.hid HJ.out.inv.l
            refine lR ?_
            (refine ⟨?_⟩; (((refine sL2 hS rfl rfl rfl ?_))); refine WL.h ?_)
            (try simp only [Act.put, nA, nB, nC])
            refine lM rfl rfl ?_
            (try simp only [Act.put, nA, nB, nC])
            (refine ⟨?_⟩; (refine st_call rfl (by kernel_rfl) rfl ?_; go_at_call 34; refine (deliver0_any ⟨B1, d1, B2, d2, B3, d3, U, uc, PA, pc, EA, ec, WA, wq, RA0, rc, CA, cc, DA, dc, FA, fc⟩ p r p.len.length _ z1 _ hz').mono ?_; rintro e w ⟨rfl, hx1⟩; replace hS := hS.ext hx1; clear hx1); refine WL.h ?_)
            (try simp only [Act.put, nA, nB, nC])
            refine lM rfl rfl ?_
            (try simp only [Act.put, nA, nB, nC])
            refine lP rfl ?_
            (try simp only [Act.put, nA, nB, nC])
            refine lP rfl ?_
            (try simp only [Act.put, nA, nB, nC])
            (refine ⟨?_⟩; ((refine sN1 hS rfl ?_; clear hS; (((fail_if_success guard_hyp g4); intro g4 w hS)))); refine WL.h ?_)
            (try simp only [Act.put, nA, nB, nC])
            (refine ⟨?_⟩; ((((refine sS4 hS rfl rfl rfl ?_)); clear hS; intro w hS)); refine WL.h ?_)
            (try simp only [Act.put, nA, nB, nC])
            refine lA rfl rfl ?_
            (try simp only [Act.put, nA, nB, nC])
            refine lZ ?_
            go_upto_region 17 with (fail)
            refine lR ?_
            (refine ⟨?_⟩; (((refine sL2 hS rfl rfl rfl ?_))); refine WL.h ?_)
            (try simp only [Act.put, nA, nB, nC])
            refine lM rfl rfl ?_
            (try simp only [Act.put, nA, nB, nC])
            (refine ⟨?_⟩; (refine st_call rfl (by kernel_rfl) rfl ?_; go_at_call 35; refine (rdeliver0_any ⟨B1', d1', B2', d2', B3', d3', U', uc', PA', pc', EA', ec', WA', wq', RA0', rc', CA', cc', DA', dc', FA', fc'⟩ p r p.len.length _ z1 _ hz').mono ?_; rintro e w ⟨rfl, hx1⟩; replace hS := hS.ext hx1; clear hx1); refine WL.h ?_)
            (try simp only [Act.put, nA, nB, nC])
            refine lM rfl rfl ?_
            (try simp only [Act.put, nA, nB, nC])
            refine lP rfl ?_
            (try simp only [Act.put, nA, nB, nC])
            refine lP rfl ?_
            (try simp only [Act.put, nA, nB, nC])
            (refine ⟨?_⟩; ((refine sN1 hS rfl ?_; clear hS; (((fail_if_success guard_hyp g5); intro g5 w hS)))); refine WL.h ?_)
            (try simp only [Act.put, nA, nB, nC])
            (refine ⟨?_⟩; ((((refine sS4 hS rfl rfl rfl ?_)); clear hS; intro w hS)); refine WL.h ?_)
            (try simp only [Act.put, nA, nB, nC])
            refine lA rfl rfl ?_
            (try simp only [Act.put, nA, nB, nC])
            refine lZ ?_
            go_upto_region 18 with (fail)
            refine lR ?_
            (refine ⟨?_⟩; (((refine sL2 hS rfl rfl rfl ?_))); refine WL.h ?_)
            (try simp only [Act.put, nA, nB, nC])
            (refine ⟨?_⟩; (refine st_call rfl (by kernel_rfl) rfl ?_; go_at_call 37; refine (result_any ⟨B1, d1, B2, d2, B3, d3, U, uc, PA, pc, EA, ec, WA, wq, RA0, rc, CA, cc, DA, dc, FA, fc⟩ p t r _ (H.out.2.1.into hS.frozInto) HG.out HTL.out.d).mono ?_; rintro e w6 ⟨⟨D1, f1, D2, f2, D3, f3⟩, rfl, hpx, hxt⟩; simp only [PV.val]; obtain ⟨T6, hS2, hi1, hi0⟩ := hS.grow hxt; clear hS; have hS := hS2; clear hS2; have HX6 := Lib.hid (And.intro (hpx.into hi1) hi0); clear hpx hi1 hi0 hxt); refine WL.h ?_)
            (try simp only [Act.put, nA, nB, nC])
            refine lM rfl rfl ?_
            (try simp only [Act.put, nA, nB, nC])
            refine lP rfl ?_
            (try simp only [Act.put, nA, nB, nC])
            refine lP rfl ?_
            (try simp only [Act.put, nA, nB, nC])
            (refine ⟨?_⟩; ((refine sN1 hS rfl ?_; clear hS; (((fail_if_success guard_hyp g6); intro g6 w hS)))); refine WL.h ?_)
            (try simp only [Act.put, nA, nB, nC])
            (refine ⟨?_⟩; ((((refine sS4 hS rfl rfl rfl ?_)); clear hS; intro w hS)); refine WL.h ?_)
            (try simp only [Act.put, nA, nB, nC])
            refine lA rfl rfl ?_
            (try simp only [Act.put, nA, nB, nC])
            refine lZ ?_
            go_upto_region 19 with (fail)
            refine lR ?_
            (refine ⟨?_⟩; (((refine sL2 hS rfl rfl rfl ?_))); refine WL.h ?_)
            (try simp only [Act.put, nA, nB, nC])
            (refine ⟨?_⟩; (refine st_call rfl (by kernel_rfl) rfl ?_; go_at_call 38; refine (rresult_any ⟨B1', d1', B2', d2', B3', d3', U', uc', PA', pc', EA', ec', WA', wq', RA0', rc', CA', cc', DA', dc', FA', fc'⟩ p t r _ ((H.out.2.2.1.into HX6.out.2).into hS.frozInto) HG.out HTL.out.d).mono ?_; rintro e w7 ⟨⟨E1, h1, E2, h2, E3, h3⟩, rfl, hpx, hxt⟩; simp only [PV.val]; obtain ⟨T7, hS2, hi1, hi0⟩ := hS.grow hxt; clear hS; have hS := hS2; clear hS2; have HX7 := Lib.hid (And.intro (hpx.into hi1) hi0); clear hpx hi1 hi0 hxt); refine WL.h ?_)
            (try simp only [Act.put, nA, nB, nC])
            refine lM rfl rfl ?_
            (try simp only [Act.put, nA, nB, nC])
            refine lP rfl ?_
            (try simp only [Act.put, nA, nB, nC])
            refine lP rfl ?_
            (try simp only [Act.put, nA, nB, nC])
            (refine ⟨?_⟩; ((refine sN1 hS rfl ?_; clear hS; (((fail_if_success guard_hyp g7); intro g7 w hS)))); refine WL.h ?_)
            (try simp only [Act.put, nA, nB, nC])
            (refine ⟨?_⟩; ((((refine sS4 hS rfl rfl rfl ?_)); clear hS; intro w hS)); refine WL.h ?_)
            (try simp only [Act.put, nA, nB, nC])
            refine lA rfl rfl ?_
            (try simp only [Act.put, nA, nB, nC])
            refine lZ ?_
            have HGX := Lib.hid (resP_good HG.out t.dec p.len.length (Nat.le_refl _))
            generalize resP p t.dec p.len.length = x at *
            go_upto_region 20 with (fail)
            refine lR ?_
            refine lM rfl rfl ?_
            (try simp only [Act.put, nA, nB, nC])
            refine lM rfl rfl ?_
            (try simp only [Act.put, nA, nB, nC])
            refine lP rfl ?_
            (try simp only [Act.put, nA, nB, nC])
            refine lM rfl rfl ?_
            (try simp only [Act.put, nA, nB, nC])
            ((refine ⟨?_⟩; (((refine sL2 hS rfl rfl rfl ?_))); refine WL.h ?_))
            (try simp only [Act.put, nA, nB, nC])
            ((refine ⟨?_⟩; (((refine sL2 hS rfl rfl rfl ?_))); refine WL.h ?_))
            (try simp only [Act.put, nA, nB, nC])
            ((refine ⟨?_⟩; (refine st_call rfl (by kernel_rfl) rfl ?_; go_at_call 36; refine (rsame0 _).mono ?_; rintro e w ⟨rfl, hx1⟩; replace hS := hS.ext hx1; clear hx1); refine WL.h ?_))
            (try simp only [Act.put, nA, nB, nC])
            refine lP rfl ?_
            (try simp only [Act.put, nA, nB, nC])
            refine lM rfl rfl ?_
            (try simp only [Act.put, nA, nB, nC])
            first | refine lQ rfl ?_ | refine lM rfl rfl ?_ | fail
            (try simp only [Act.put, nA, nB, nC])
            first | refine lQ rfl ?_ | refine lM rfl rfl ?_ | fail
            (try simp only [Act.put, nA, nB, nC])
            first | refine lQ rfl ?_ | refine lP rfl ?_ | fail
            (try simp only [Act.put, nA, nB, nC])
            refine lP rfl ?_
            (try simp only [Act.put, nA, nB, nC])
            refine lM rfl rfl ?_
            (try simp only [Act.put, nA, nB, nC])
            ((refine ⟨?_⟩; (((refine sL2 hS rfl rfl rfl ?_))); refine WL.h ?_))
            (try simp only [Act.put, nA, nB, nC])
            ((refine ⟨?_⟩; (((refine sL2 hS rfl rfl rfl ?_))); refine WL.h ?_))
            (try simp only [Act.put, nA, nB, nC])
            ((refine ⟨?_⟩; (refine st_call rfl (by kernel_rfl) rfl ?_; go_at_call 39; refine (rsame_good ((HX6.out.1.into HX7.out.2).into hS.frozInto) (HX7.out.1.into hS.frozInto) HGX.out).mono ?_; rintro e w ⟨rfl, hx1⟩; replace hS := hS.ext hx1; clear hx1); refine WL.h ?_))
            (try simp only [Act.put, nA, nB, nC])
            refine lP rfl ?_
            (try simp only [Act.put, nA, nB, nC])
            refine lA rfl rfl ?_
            (try simp only [Act.put, nA, nB, nC])
            refine lZ ?_
            go_wp2_with (fail)
            go_ret
            exact ⟨rfl, hS.extF (intoTr (intoTr (intoTr H.out.2.2.2 HX6.out.2) HX7.out.2) hS.ornF)⟩
open Go.ChangeShapes Go.WideShapes Go.ChangeAt
set_option maxRecDepth 100000 in
theorem lifted_TwophaseDelivers (os : Os) (started : os.Started) (H : Type) (enc : TypeId × Value → H) :
    ReturnsInHanded {} Try.checked os 8 .any (Rows.twophaseDeliversSpec.pre6 enc Try.prog Try.f8 Rows.twophaseDeliversRow.domain false) (Rows.twophaseDeliversSpec.post enc Try.prog Try.f8 false true false false) := by
  refine law_lifted (C := Try.checked) (s := Rows.twophaseDeliversSpec) (tb := 4) (by kernel_rfl) started (by kernel_rfl) Try.func8
      (ChangeSpec.witness6 (enc := enc) (C := Try.checked) false ⟨#[], #[.slice none 0 0, .int .i64 0, .slice none 0 0, .slice none 0 0, .int .i64 0], []⟩ 8 (by kernel_rfl) (by kernel_rfl) (by kernel_rfl) (by kernel_rfl))
      (by kernel_rfl) rfl rfl Try.underlying4 (read_of (by kernel_rfl)) ?_ ?_
  · intro ds hl
    match ds, hl with
    | [d0, d1, d2, d3, d4], _ => exact ⟨rfl, rfl, rfl⟩
  · intro W base args ds p hval0 hA0
    have hval : ∀ (j : Nat) t v, Try.f8.params[j]? = some t → args[j]? = some v → Value.okWide Try.prog W .any base t v := hval0
    have hA : DataW.TrodAll enc Try.prog W 0 (fun _ => true) true Try.f8.params.toList args.toList ds p := hA0
    clear hA0 hval0
    rw [Try.params8] at hA hval
    obtain ⟨v0, v1, v2, v3, v4, d0, d1, d2, d3, d4, p0, p1, p2, p3, p4, rfl, rfl, rfl, h0, h1, h2, h3, h4⟩ := trodAll_five hA
    obtain ⟨A0, c0, xs0, rfl, hri0, hc0, hd0, hwf0⟩ := open_nums Try.underlying31 Try.underlying5 (by kernel_rfl) (hval 0 _ v0 rfl rfl) h0
    obtain ⟨x1, rfl, _, _, hz1⟩ := open_int Try.underlying3 (hval 1 _ v1 rfl rfl) h1
    obtain ⟨A2, c2, xs2, rfl, hri2, hc2, hd2, hwf2⟩ := open_nums Try.underlying25 Try.underlying3 (by kernel_rfl) (hval 2 _ v2 rfl rfl) h2
    obtain ⟨A3, c3, xs3, rfl, hri3, hc3, hd3, hwf3⟩ := open_nums Try.underlying31 Try.underlying5 (by kernel_rfl) (hval 3 _ v3 rfl rfl) h3
    obtain ⟨x4, rfl, _, _, hz4⟩ := open_int Try.underlying3 (hval 4 _ v4 rfl rfl) h4
    exact twophaseDelivers_any A0 c0 xs0 x1 A2 c2 xs2 A3 c3 xs3 x4 W hri0 hc0 hd0 (fun b hb => u8_bd (hwf0 b hb)) (i64_bd hz1) hri2 hc2 hd2 (fun b hb => i64_bd (hwf2 b hb)) hri3 hc3 hd3 (fun b hb => u8_bd (hwf3 b hb)) (i64_bd hz4)
/-- TwophaseDelivers returns true for every input, and leaves its arguments as they were. -/
theorem proved_TwophaseDelivers : Rows.TwophaseDeliversSaid :=
  OpenClaim.holds_of_wide 8 Try.f8 rfl rfl rfl rfl rfl rfl rfl ⟨rfl, rfl, rfl, rfl, rfl⟩ rfl rfl rfl rfl rfl (by kernel_rfl) Try.func8 (by kernel_rfl)
    (of_decide_eq_true (by kernel_rfl)) (by unfold Func.isWrapper; rw [if_neg (by decide +kernel)]; exact ⟨rfl, rfl⟩)
    (fun os started H enc _ => lifted_TwophaseDelivers os started H enc)
end Go.Proofs.Ytmjmdncdmmcmaaa
