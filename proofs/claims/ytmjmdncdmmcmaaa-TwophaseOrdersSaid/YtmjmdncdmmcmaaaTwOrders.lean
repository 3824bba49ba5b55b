/- TwophaseOrders returns true for every input. No condition. -/
import Derived.Test.YtmjmdncdmmcmaaaTwE
import Derived.Test.YtmjmdncdmmcmaaaTwY
import Derived.Test.YtmjmdncdmmcmaaaSameI
namespace Go.Proofs.Ytmjmdncdmmcmaaa
open Go.RowKit Tph
set_option linter.unusedVariables false
set_option linter.unusedSimpArgs false
set_option linter.unusedSectionVars false

section
open Go.ChangeShapes
theorem trodAll_five {H : Type} {enc : TypeId × Value → H} {P : Program} {w : World} {base} {spare} {held} {t0 t1 t2 t3 t4 : TypeId} {args : Array Value} {ds : List (DataW H)} {ps : List MemPlace} (h : DataW.TrodAll enc P w base spare held [t0, t1, t2, t3, t4] args.toList ds ps) :
    ∃ v0 v1 v2 v3 v4 d0 d1 d2 d3 d4 p0 p1 p2 p3 p4, args = #[v0, v1, v2, v3, v4] ∧ ds = [d0, d1, d2, d3, d4] ∧ ps = p0 ++ p1 ++ p2 ++ p3 ++ p4 ∧ DataW.Trod enc P w base spare held t0 v0 d0 p0 ∧ DataW.Trod enc P w base spare held t1 v1 d1 p1 ∧ DataW.Trod enc P w base spare held t2 v2 d2 p2 ∧ DataW.Trod enc P w base spare held t3 v3 d3 p3 ∧ DataW.Trod enc P w base spare held t4 v4 d4 p4 := by
  obtain ⟨v0, vs0, d0, ds0, p0, q0, hargs, rfl, rfl, hd0, r0⟩ := trodAll_cons h
  obtain ⟨v1, vs1, d1, ds1, p1, q1, rfl, rfl, rfl, hd1, r1⟩ := trodAll_cons r0
  obtain ⟨v2, vs2, d2, ds2, p2, q2, rfl, rfl, rfl, hd2, r2⟩ := trodAll_cons r1
  obtain ⟨v3, vs3, d3, ds3, p3, q3, rfl, rfl, rfl, hd3, r3⟩ := trodAll_cons r2
  obtain ⟨v4, vs4, d4, ds4, p4, q4, rfl, rfl, rfl, hd4, r4⟩ := trodAll_cons r3
  obtain ⟨rfl, rfl, rfl⟩ := trodAll_nil r4
  exact ⟨v0, v1, v2, v3, v4, d0, d1, d2, d3, d4, p0, p1, p2, p3, p4, by cases args; simp_all, rfl, by simp, hd0, hd1, hd2, hd3, hd4⟩
end
/-- old data -/
theorem RV.toM {w0 : World} {A : Option Addr} {vs : List Value} (h : RV (fun b => b < w0.heap.size) w0 A vs) : RV (fun k => True ∧ k < w0.heap.size) w0 A vs := h.into (fun k hk hl => ⟨⟨trivial, hk⟩, rfl⟩)
set_option maxRecDepth 100000 in
set_option maxHeartbeats 12800000 in
theorem twophaseOrders_any (C : Option Addr) (f : Nat) (bs : List Int) (z0 : Int) (V : Option Addr) (g : Nat) (vs : List Int) (C2 : Option Addr) (f2 : Nat) (b2 : List Int) (C3 : Option Addr) (f3 : Nat) (b3 : List Int) (w0 : World) (hbs : RV (fun b => b < w0.heap.size) w0 C (bytes bs)) (hf : bs.length ≤ f) (hf' : f ≤ 9223372036854775807) (hby : ∀ b ∈ bs, 0 ≤ b ∧ b ≤ 255) (hz0 : -9223372036854775808 ≤ z0 ∧ z0 ≤ 9223372036854775807) (hvs : RI (fun b => b < w0.heap.size) w0 V vs) (hg : vs.length ≤ g) (hg' : g ≤ 9223372036854775807) (hin : ∀ b ∈ vs, -9223372036854775808 ≤ b ∧ b ≤ 9223372036854775807) (hb2 : RV (fun b => b < w0.heap.size) w0 C2 (bytes b2)) (hf2 : b2.length ≤ f2) (hf2' : f2 ≤ 9223372036854775807) (hy2 : ∀ b ∈ b2, 0 ≤ b ∧ b ≤ 255) (hb3 : RV (fun b => b < w0.heap.size) w0 C3 (bytes b3)) (hf3 : b3.length ≤ f3) (hf3' : f3 ≤ 9223372036854775807) (hy3 : ∀ b ∈ b3, 0 ≤ b ∧ b ≤ 255) :
    Calls Try.prog 7 #[.slice C bs.length f, .int .i64 z0, .slice V vs.length g, .slice C2 b2.length f2, .slice C3 b3.length f3] w0 fun e w' => e = .returned (.bool true) ∧ Ext w0 w' := by
  have hS := St.startF w0 (fun _ => True)
  have HD := Lib.hid (And.intro (RV.toM hbs) (And.intro (RV.toM hvs) (And.intro (RV.toM hb2) (RV.toM hb3))))
  have HY := Lib.hid (And.intro hby (And.intro hy2 (And.intro hy3 hbs)))
  clear hbs hvs hb2 hb3 hby hy2 hy3 hin
  by_cases h20 : 20 < vs.length
  · have d20 : decide ((20 : Int) < (vs.length : Int)) = true := decide_eq_true (by omega)
    have d20n : decide (20 < vs.length) = true := decide_eq_true h20
    go_enter Try.func7, Try.ntmps7
    go_wp2_with (first | (go_at_call 21; refine (awake24_any _).mono ?_; rintro e w ⟨rfl, hx1⟩; replace hS := hS.ext hx1; clear hx1) | (refine oL ?_; (first | refine sL1 hS rfl rfl rfl ?_ | refine sL2 hS rfl rfl rfl ?_ | refine sL3 hS rfl rfl ?_ | refine sL4 hS rfl rfl ?_ | refine sL5 hS rfl rfl ?_ | refine sL6 hS rfl rfl ?_ | refine sL7 hS rfl rfl ?_)) | (refine oS ?_; ((first | refine sS1 hS rfl rfl rfl ?_ | refine sS2 hS rfl rfl rfl ?_ | refine sS3 hS rfl rfl rfl ?_ | refine sS4 hS rfl rfl rfl ?_ | refine sS5 hS rfl rfl rfl ?_); clear hS; intro w hS)) | ((first | refine sN1 hS rfl ?_); clear hS; first | ((fail_if_success guard_hyp g1); intro g1 w hS) | ((fail_if_success guard_hyp g2); intro g2 w hS) | ((fail_if_success guard_hyp g3); intro g3 w hS) | ((fail_if_success guard_hyp g4); intro g4 w hS) | fail) | fail)
    go_ret
    exact ⟨rfl, hS.extF hS.frozInto⟩
  · have d20 : decide ((20 : Int) < (vs.length : Int)) = false := decide_eq_false (by omega)
    have d20n : decide (20 < vs.length) = false := decide_eq_false h20
    go_enter Try.func7, Try.ntmps7
    go_upto_region 5 with (first | (go_at_call 21; refine (awake24_any _).mono ?_; rintro e w ⟨rfl, hx1⟩; replace hS := hS.ext hx1; clear hx1) | (go_at_call 22; refine (draw24_any C f bs _ (HY.out.2.2.2.into (fun k hk hl => ⟨Nat.lt_of_lt_of_le hk hS.keep.size, (hS.frozInto k ⟨trivial, hk⟩ hl).2⟩)) hf hf' HY.out.1).mono ?_; rintro e w2 ⟨⟨A1, c1, A2, c2, A3, c3⟩, p, rfl, hsm, hpa, hx1⟩; simp only [PV.val]; obtain ⟨T, hS2, hi1, hi0⟩ := hS.grow hx1; clear hS; have hS := hS2; clear hS2; have HPA := Lib.hid (And.intro (hpa.into (fun k hk hl => hi1 k (.inr hk.1) hl)) hi0); have HG := Lib.hid hsm.good; have hn2 := hsm.good.n2; have hn5 := hsm.good.n5; clear hsm hpa hi1 hi0 hx1) | (go_at_call 12; refine (mod24_any z0 p.len.length _ _ rfl (by omega) (by omega)).mono ?_; rintro e w ⟨⟨r, rfl, hr⟩, hx1⟩; replace hS := hS.ext hx1; clear hx1) | (refine oL ?_; (first | refine sL1 hS rfl rfl rfl ?_ | refine sL2 hS rfl rfl rfl ?_ | refine sL3 hS rfl rfl ?_ | refine sL4 hS rfl rfl ?_ | refine sL5 hS rfl rfl ?_ | refine sL6 hS rfl rfl ?_ | refine sL7 hS rfl rfl ?_)) | (refine oS ?_; ((first | refine sS1 hS rfl rfl rfl ?_ | refine sS2 hS rfl rfl rfl ?_ | refine sS3 hS rfl rfl rfl ?_ | refine sS4 hS rfl rfl rfl ?_ | refine sS5 hS rfl rfl rfl ?_); clear hS; intro w hS)) | ((first | refine sN1 hS rfl ?_); clear hS; first | ((fail_if_success guard_hyp g1); intro g1 w hS) | ((fail_if_success guard_hyp g2); intro g2 w hS) | ((fail_if_success guard_hyp g3); intro g3 w hS) | ((fail_if_success guard_hyp g4); intro g4 w hS) | fail) | fail)
    clear d20 d20n
    refine lR ?_
    (refine ⟨?_⟩; ((first | refine sL1 hS rfl rfl rfl ?_ | refine sL2 hS rfl rfl rfl ?_ | refine sL3 hS rfl rfl ?_ | refine sL4 hS rfl rfl ?_ | refine sL5 hS rfl rfl ?_ | refine sL6 hS rfl rfl ?_ | refine sL7 hS rfl rfl ?_)); refine WL.h ?_)
    (try simp only [Act.put, nA, nB, nC])
    refine lM rfl rfl ?_
    (try simp only [Act.put, nA, nB, nC])
    refine lM rfl rfl ?_
    (try simp only [Act.put, nA, nB, nC])
    refine lM rfl rfl ?_
    (try simp only [Act.put, nA, nB, nC])
    (refine ⟨?_⟩; (refine st_call rfl (by kernel_rfl) rfl ?_; go_at_call 30; refine (run_any A1 c1 A2 c2 A3 c3 p r V vs.length g vs C2 b2.length f2 b2 _ (HPA.out.1.into hS.frozInto) HG.out hr ((HD.out.2.1.into HPA.out.2).into hS.frozInto) rfl (by omega) ((HD.out.2.2.1.into HPA.out.2).into hS.frozInto) rfl HY.out.2.1).mono ?_; rintro e w3 ⟨⟨B1, d1, B2, d2, B3, d3, U, uc, PA, pc, EA, ec, WA, wc, RA0, rc, CA, cc, DA, dc, FA, fc⟩, t1, rfl, hx2, hxt, he1⟩; obtain ⟨T2, hS2, hi1, hi0⟩ := hS.grow hxt; clear hS; have hS := hS2; clear hS2; have HE1 := Lib.hid (And.intro he1 (hx2.dec.into hi1)); have HI0 := Lib.hid hi0; clear he1 hx2 hi1 hi0 hxt; simp only [TX.val, TX.cells]); refine WL.h ?_)
    (try simp only [Act.put, nA, nB, nC])
    refine lM rfl rfl ?_
    (try simp only [Act.put, nA, nB, nC])
    refine lP rfl ?_
    (try simp only [Act.put, nA, nB, nC])
    refine lP rfl ?_
    (try simp only [Act.put, nA, nB, nC])
    (refine ⟨?_⟩; ((refine sN1 hS rfl ?_; clear hS; first | ((fail_if_success guard_hyp g1); intro g1 w hS) | ((fail_if_success guard_hyp g2); intro g2 w hS) | ((fail_if_success guard_hyp g3); intro g3 w hS) | ((fail_if_success guard_hyp g4); intro g4 w hS) | fail)); refine WL.h ?_)
    (try simp only [Act.put, nA, nB, nC])
    (refine ⟨?_⟩; (((first | refine sS1 hS rfl rfl rfl ?_ | refine sS2 hS rfl rfl rfl ?_ | refine sS3 hS rfl rfl rfl ?_ | refine sS4 hS rfl rfl rfl ?_ | refine sS5 hS rfl rfl rfl ?_); clear hS; intro w hS)); refine WL.h ?_)
    (try simp only [Act.put, nA, nB, nC])
    refine lA rfl rfl ?_
    (try simp only [Act.put, nA, nB, nC])
    refine lZ ?_
    go_upto_region 6 with (first | (refine oL ?_; (first | refine sL1 hS rfl rfl rfl ?_ | refine sL2 hS rfl rfl rfl ?_ | refine sL3 hS rfl rfl ?_ | refine sL4 hS rfl rfl ?_ | refine sL5 hS rfl rfl ?_ | refine sL6 hS rfl rfl ?_ | refine sL7 hS rfl rfl ?_)) | (refine oS ?_; ((first | refine sS1 hS rfl rfl rfl ?_ | refine sS2 hS rfl rfl rfl ?_ | refine sS3 hS rfl rfl rfl ?_ | refine sS4 hS rfl rfl rfl ?_ | refine sS5 hS rfl rfl rfl ?_); clear hS; intro w hS)) | ((first | refine sN1 hS rfl ?_); clear hS; first | ((fail_if_success guard_hyp g1); intro g1 w hS) | ((fail_if_success guard_hyp g2); intro g2 w hS) | ((fail_if_success guard_hyp g3); intro g3 w hS) | ((fail_if_success guard_hyp g4); intro g4 w hS) | fail) | fail)
    refine lR ?_
    (refine ⟨?_⟩; ((first | refine sL1 hS rfl rfl rfl ?_ | refine sL2 hS rfl rfl rfl ?_ | refine sL3 hS rfl rfl ?_ | refine sL4 hS rfl rfl ?_ | refine sL5 hS rfl rfl ?_ | refine sL6 hS rfl rfl ?_ | refine sL7 hS rfl rfl ?_)); refine WL.h ?_)
    (try simp only [Act.put, nA, nB, nC])
    refine lM rfl rfl ?_
    (try simp only [Act.put, nA, nB, nC])
    refine lM rfl rfl ?_
    (try simp only [Act.put, nA, nB, nC])
    refine lM rfl rfl ?_
    (try simp only [Act.put, nA, nB, nC])
    (refine ⟨?_⟩; (refine st_call rfl (by kernel_rfl) rfl ?_; go_at_call 30; refine (run_any A1 c1 A2 c2 A3 c3 p r V vs.length g vs C3 b3.length f3 b3 _ ((HPA.out.1.into HI0.out).into hS.frozInto) HG.out hr (((HD.out.2.1.into HPA.out.2).into HI0.out).into hS.frozInto) rfl (by omega) (((HD.out.2.2.2.into HPA.out.2).into HI0.out).into hS.frozInto) rfl HY.out.2.2.1).mono ?_; rintro e w3 ⟨⟨B1', d1', B2', d2', B3', d3', U', uc', PA', pc', EA', ec', WA', wc', RA0', rc', CA', cc', DA', dc', FA', fc'⟩, t2, rfl, hx2, hxt, he1⟩; obtain ⟨T3, hS2, hi1, hi0⟩ := hS.grow hxt; clear hS; have hS := hS2; clear hS2; have HE2 := Lib.hid (And.intro he1 (hx2.dec.into hi1)); have HI1 := Lib.hid hi0; clear he1 hx2 hi1 hi0 hxt; simp only [TX.val, TX.cells]); refine WL.h ?_)
    (try simp only [Act.put, nA, nB, nC])
    refine lM rfl rfl ?_
    (try simp only [Act.put, nA, nB, nC])
    refine lP rfl ?_
    (try simp only [Act.put, nA, nB, nC])
    refine lP rfl ?_
    (try simp only [Act.put, nA, nB, nC])
    (refine ⟨?_⟩; ((refine sN1 hS rfl ?_; clear hS; first | ((fail_if_success guard_hyp g1); intro g1 w hS) | ((fail_if_success guard_hyp g2); intro g2 w hS) | ((fail_if_success guard_hyp g3); intro g3 w hS) | ((fail_if_success guard_hyp g4); intro g4 w hS) | fail)); refine WL.h ?_)
    (try simp only [Act.put, nA, nB, nC])
    (refine ⟨?_⟩; (((first | refine sS1 hS rfl rfl rfl ?_ | refine sS2 hS rfl rfl rfl ?_ | refine sS3 hS rfl rfl rfl ?_ | refine sS4 hS rfl rfl rfl ?_ | refine sS5 hS rfl rfl rfl ?_); clear hS; intro w hS)); refine WL.h ?_)
    (try simp only [Act.put, nA, nB, nC])
    refine lA rfl rfl ?_
    (try simp only [Act.put, nA, nB, nC])
    refine lZ ?_
    have HSD := Lib.hid (show t2.dec = t1.dec from HE2.out.1.same HE1.out.1)
    have HLN := Lib.hid (show t1.dec.length = p.len.length from HE1.out.1.l.d)
    have HLN2 := Lib.hid (show t2.dec.length = p.len.length from HE2.out.1.l.d)
    go_wp2_with (first | (go_at_call 31; refine (sameI_m HLN.out (show t1.dec.length = p.len.length from HLN.out) HSD.out ((HE1.out.2.into HI1.out).into hS.frozInto) (HE2.out.2.into hS.frozInto) (by omega)).mono ?_; rintro e w ⟨rfl, hx1⟩; replace hS := hS.ext hx1; clear hx1) | (refine oL ?_; (first | refine sL1 hS rfl rfl rfl ?_ | refine sL2 hS rfl rfl rfl ?_ | refine sL3 hS rfl rfl ?_ | refine sL4 hS rfl rfl ?_ | refine sL5 hS rfl rfl ?_ | refine sL6 hS rfl rfl ?_ | refine sL7 hS rfl rfl ?_)) | (refine oS ?_; ((first | refine sS1 hS rfl rfl rfl ?_ | refine sS2 hS rfl rfl rfl ?_ | refine sS3 hS rfl rfl rfl ?_ | refine sS4 hS rfl rfl rfl ?_ | refine sS5 hS rfl rfl rfl ?_); clear hS; intro w hS)) | ((first | refine sN1 hS rfl ?_); clear hS; first | ((fail_if_success guard_hyp g1); intro g1 w hS) | ((fail_if_success guard_hyp g2); intro g2 w hS) | ((fail_if_success guard_hyp g3); intro g3 w hS) | ((fail_if_success guard_hyp g4); intro g4 w hS) | fail) | fail)
    go_ret
    exact ⟨rfl, hS.extF (intoTr (intoTr HPA.out.2 (intoTr HI0.out HI1.out)) hS.ornF)⟩
open Go.ChangeShapes Go.WideShapes Go.ChangeAt
set_option maxRecDepth 100000 in
theorem lifted_TwophaseOrders (os : Os) (started : os.Started) (H : Type) (enc : TypeId × Value → H) :
    ReturnsInHanded {} Try.checked os 7 .any (Rows.twophaseOrdersSpec.pre6 enc Try.prog Try.f7 Rows.twophaseOrdersRow.domain false) (Rows.twophaseOrdersSpec.post enc Try.prog Try.f7 false true false false) := by
  refine law_lifted (C := Try.checked) (s := Rows.twophaseOrdersSpec) (tb := 4) (by kernel_rfl) started (by kernel_rfl) Try.func7
      (ChangeSpec.witness6 (enc := enc) (C := Try.checked) false ⟨#[], #[.slice none 0 0, .int .i64 0, .slice none 0 0, .slice none 0 0, .slice none 0 0], []⟩ 8 (by kernel_rfl) (by kernel_rfl) (by kernel_rfl) (by kernel_rfl))
      (by kernel_rfl) rfl rfl Try.underlying4 (read_of (by kernel_rfl)) ?_ ?_
  · intro ds hl
    match ds, hl with
    | [d0, d1, d2, d3, d4], _ => exact ⟨rfl, rfl, rfl⟩
  · intro W base args ds p hval0 hA0
    have hval : ∀ (j : Nat) t v, Try.f7.params[j]? = some t → args[j]? = some v → Value.okWide Try.prog W .any base t v := hval0
    have hA : DataW.TrodAll enc Try.prog W 0 (fun _ => true) true Try.f7.params.toList args.toList ds p := hA0
    clear hA0 hval0
    rw [Try.params7] at hA hval
    obtain ⟨v0, v1, v2, v3, v4, d0, d1, d2, d3, d4, p0, p1, p2, p3, p4, rfl, rfl, rfl, h0, h1, h2, h3, h4⟩ := trodAll_five hA
    obtain ⟨A0, c0, xs0, rfl, hri0, hc0, hd0, hwf0⟩ := open_nums Try.underlying31 Try.underlying5 (by kernel_rfl) (hval 0 _ v0 rfl rfl) h0
    obtain ⟨x1, rfl, _, _, hz1⟩ := open_int Try.underlying3 (hval 1 _ v1 rfl rfl) h1
    obtain ⟨A2, c2, xs2, rfl, hri2, hc2, hd2, hwf2⟩ := open_nums Try.underlying25 Try.underlying3 (by kernel_rfl) (hval 2 _ v2 rfl rfl) h2
    obtain ⟨A3, c3, xs3, rfl, hri3, hc3, hd3, hwf3⟩ := open_nums Try.underlying31 Try.underlying5 (by kernel_rfl) (hval 3 _ v3 rfl rfl) h3
    obtain ⟨A4, c4, xs4, rfl, hri4, hc4, hd4, hwf4⟩ := open_nums Try.underlying31 Try.underlying5 (by kernel_rfl) (hval 4 _ v4 rfl rfl) h4
    exact twophaseOrders_any A0 c0 xs0 x1 A2 c2 xs2 A3 c3 xs3 A4 c4 xs4 W hri0 hc0 hd0 (fun b hb => u8_bd (hwf0 b hb)) (i64_bd hz1) hri2 hc2 hd2 (fun b hb => i64_bd (hwf2 b hb)) hri3 hc3 hd3 (fun b hb => u8_bd (hwf3 b hb)) hri4 hc4 hd4 (fun b hb => u8_bd (hwf4 b hb))
/-- TwophaseOrders returns true for every input, and leaves its arguments as they were. -/
theorem proved_TwophaseOrders : Rows.TwophaseOrdersSaid :=
  OpenClaim.holds_of_wide 7 Try.f7 rfl rfl rfl rfl rfl rfl rfl ⟨rfl, rfl, rfl, rfl, rfl⟩ rfl rfl rfl rfl rfl (by kernel_rfl) Try.func7 (by kernel_rfl)
    (of_decide_eq_true (by kernel_rfl)) (by unfold Func.isWrapper; rw [if_neg (by decide +kernel)]; exact ⟨rfl, rfl⟩)
    (fun os started H enc _ => lifted_TwophaseOrders os started H enc)
end Go.Proofs.Ytmjmdncdmmcmaaa
