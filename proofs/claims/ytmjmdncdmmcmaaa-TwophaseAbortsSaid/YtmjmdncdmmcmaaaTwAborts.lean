/- TwophaseAborts returns true for every input. No condition. -/
import Derived.Test.YtmjmdncdmmcmaaaTwAbP
import Derived.Test.YtmjmdncdmmcmaaaTwE
import Derived.Test.YtmjmdncdmmcmaaaTwY
import Derived.Test.YtmjmdncdmmcmaaaRTwG
namespace Go.Proofs.Ytmjmdncdmmcmaaa
open Go.RowKit Tph
set_option linter.unusedVariables false
set_option linter.unusedSimpArgs false
set_option linter.unusedSectionVars false

/-- old data -/
theorem RV.toM {w0 : World} {A : Option Addr} {vs : List Value} (h : RV (fun b => b < w0.heap.size) w0 A vs) : RV (fun k => True ∧ k < w0.heap.size) w0 A vs := h.into (fun k hk hl => ⟨⟨trivial, hk⟩, rfl⟩)
theorem ri_nil {S : Nat → Prop} {w : World} : RI S w none [] := fun j u hu => by simp [ints] at hu
theorem tent_fc {T : Nat → Prop} {u : World} {A : Option Addr} {l : List Bool} (h : RV T u A (bools l)) {k : Nat} (hk : k < l.length) : ∃ b o, A = some ⟨b, o, none⟩ ∧ FC T u b (o + k) (.bool (opOf l k)) := by
  obtain ⟨b, o, e, h1, h2⟩ := h k (.bool (opOf l k)) (opOf_at hk)
  exact ⟨b, o, e, h1, h2⟩
set_option maxRecDepth 100000 in
set_option maxHeartbeats 12800000 in
theorem twophaseAborts_any (C : Option Addr) (f : Nat) (bs : List Int) (z0 : Int) (a1 : Nat) (C2 : Option Addr) (f2 : Nat) (b2 : List Int) (w0 : World) (hbs : RV (fun b => b < w0.heap.size) w0 C (bytes bs)) (hf : bs.length ≤ f) (hf' : f ≤ 9223372036854775807) (hby : ∀ b ∈ bs, 0 ≤ b ∧ b ≤ 255) (hz0 : -9223372036854775808 ≤ z0 ∧ z0 ≤ 9223372036854775807) (ha1 : a1 ≤ 255) (hb2 : RV (fun b => b < w0.heap.size) w0 C2 (bytes b2)) (hf2 : b2.length ≤ f2) (hf2' : f2 ≤ 9223372036854775807) (hy2 : ∀ b ∈ b2, 0 ≤ b ∧ b ≤ 255) :
    Calls Try.prog 9 #[.slice C bs.length f, .int .i64 z0, .int .u8 (a1 : Int), .slice C2 b2.length f2] w0 fun e w' => e = .returned (.bool true) ∧ Ext w0 w' := by
  have hS := St.startF w0 (fun _ => True)
  have HD := Lib.hid (And.intro (RV.toM hbs) (RV.toM hb2))
  have HY := Lib.hid (And.intro hby (And.intro hy2 hbs))
  clear hbs hb2 hby hy2
  go_enter Try.func9, Try.ntmps9
  go_upto_region 5 with (first | (go_at_call 21; refine (awake24_any _).mono ?_; rintro e w ⟨rfl, hx1⟩; replace hS := hS.ext hx1; clear hx1) | (go_at_call 22; refine (draw24_any C f bs _ (HY.out.2.2.into (fun k hk hl => ⟨Nat.lt_of_lt_of_le hk hS.keep.size, (hS.frozInto k ⟨trivial, hk⟩ hl).2⟩)) hf hf' HY.out.1).mono ?_; rintro e w2 ⟨⟨A1, c1, A2, c2, A3, c3⟩, p, rfl, hsm, hpa, hx1⟩; simp only [PV.val]; obtain ⟨T, hS2, hi1, hi0⟩ := hS.grow hx1; clear hS; have hS := hS2; clear hS2; have HPA := Lib.hid (And.intro (hpa.into (fun k hk hl => hi1 k (.inr hk.1) hl)) hi0); have HG := Lib.hid hsm.good; have hn2 := hsm.good.n2; have hn5 := hsm.good.n5; clear hsm hpa hi1 hi0 hx1) | (go_at_call 12; refine (mod24_any z0 p.len.length _ _ rfl (by omega) (by omega)).mono ?_; rintro e w ⟨⟨r, rfl, hr⟩, hx1⟩; replace hS := hS.ext hx1; clear hx1) | (refine oL ?_; (first | refine sL1 hS rfl rfl rfl ?_ | refine sL2 hS rfl rfl rfl ?_ | refine sL3 hS rfl rfl ?_ | refine sL4 hS rfl rfl ?_ | refine sL5 hS rfl rfl ?_ | refine sL6 hS rfl rfl ?_ | refine sL7 hS rfl rfl ?_)) | (refine oS ?_; ((first | refine sS1 hS rfl rfl rfl ?_ | refine sS2 hS rfl rfl rfl ?_ | refine sS3 hS rfl rfl rfl ?_ | refine sS4 hS rfl rfl rfl ?_ | refine sS5 hS rfl rfl rfl ?_); clear hS; intro w hS)) | ((first | refine sN1 hS rfl ?_ | (refine oC ?_; first | refine sC0 hS rfl ?_ | refine sC1 hS rfl rfl ?_ | refine sC2 hS rfl rfl ?_ | refine sC3 hS rfl rfl rfl ?_ | refine sC4 hS rfl rfl rfl ?_)); clear hS; first | ((fail_if_success guard_hyp g1); intro g1 w hS) | ((fail_if_success guard_hyp g2); intro g2 w hS) | ((fail_if_success guard_hyp g3); intro g3 w hS) | ((fail_if_success guard_hyp g4); intro g4 w hS) | ((fail_if_success guard_hyp g5); intro g5 w hS) | fail) | fail)
  refine lR ?_
  (refine ⟨?_⟩; ((first | refine sL1 hS rfl rfl rfl ?_ | refine sL2 hS rfl rfl rfl ?_ | refine sL3 hS rfl rfl ?_ | refine sL4 hS rfl rfl ?_ | refine sL5 hS rfl rfl ?_ | refine sL6 hS rfl rfl ?_ | refine sL7 hS rfl rfl ?_)); refine WL.h ?_)
  (try simp only [Act.put, nA, nB, nC])
  refine lM rfl rfl ?_
  (try simp only [Act.put, nA, nB, nC])
  (refine ⟨?_⟩; (refine st_call rfl (by kernel_rfl) rfl ?_; go_at_call 40; refine (rleast_any A1 c1 A2 c2 A3 c3 p r _ (HPA.out.1.into hS.frozInto) HG.out hr).mono ?_; rintro e w ⟨l, hm, L, cL, rfl, ho, hx1⟩; replace hS := hS.addRow ho hx1; clear ho hx1; have HM := Lib.hid hm; clear hm); refine WL.h ?_)
  (try simp only [Act.put, nA, nB, nC])
  refine lA rfl rfl ?_
  (try simp only [Act.put, nA, nB, nC])
  refine lZ ?_
  have hlp : 0 < l.length := List.length_pos_of_mem ((HM.out.mem r).2 .here)
  have hln : ¬ l.length = 0 := by omega
  have hkl : a1 % l.length < l.length := Nat.mod_lt _ hlp
  have hrow : (ints (nats l))[a1 % l.length]? = some (.int .i64 ((l[a1 % l.length] : Nat) : Int)) := by rw [ints_get (by simp [nats]; exact hkl)]; simp [nats]
  have HUR := Lib.hid ((HM.out.mem l[a1 % l.length]).1 (List.getElem_mem hkl))
  have HUL := Lib.hid (show l[a1 % l.length] < p.len.length from HUR.out.closed (P := fun z => z < p.len.length) hr (fun z _ y hy => (srcL_mem.1 hy).1))
  generalize l[a1 % l.length] = u at *
  obtain ⟨k, hk⟩ : ∃ k, a1 % l.length = k := ⟨_, rfl⟩
  have hkk : (a1 : Int) % (l.length : Int) = (k : Int) := by rw [← Int.natCast_emod, hk]
  rw [hk] at hrow hkl
  have hkl' : (k : Int) < (l.length : Int) := by omega
  clear hk
  obtain ⟨gL, rfl⟩ := hS.rowSome L hlp
  go_upto_region 6 with (first | (refine oL ?_; (first | refine sL1 hS rfl rfl rfl ?_ | refine sL2 hS rfl rfl rfl ?_ | refine sL3 hS rfl rfl ?_ | refine sL4 hS rfl rfl ?_ | refine sL5 hS rfl rfl ?_ | refine sL6 hS rfl rfl ?_ | refine sL7 hS rfl rfl ?_)) | (refine oS ?_; ((first | refine sS1 hS rfl rfl rfl ?_ | refine sS2 hS rfl rfl rfl ?_ | refine sS3 hS rfl rfl rfl ?_ | refine sS4 hS rfl rfl rfl ?_ | refine sS5 hS rfl rfl rfl ?_); clear hS; intro w hS)) | ((first | refine sN1 hS rfl ?_ | (refine oC ?_; first | refine sC0 hS rfl ?_ | refine sC1 hS rfl rfl ?_ | refine sC2 hS rfl rfl ?_ | refine sC3 hS rfl rfl rfl ?_ | refine sC4 hS rfl rfl rfl ?_)); clear hS; first | ((fail_if_success guard_hyp g1); intro g1 w hS) | ((fail_if_success guard_hyp g2); intro g2 w hS) | ((fail_if_success guard_hyp g3); intro g3 w hS) | ((fail_if_success guard_hyp g4); intro g4 w hS) | ((fail_if_success guard_hyp g5); intro g5 w hS) | fail) | fail)
  refine lR ?_
  refine lM rfl rfl ?_
  (try simp only [Act.put, nA, nB, nC])
  refine lM rfl rfl ?_
  (try simp only [Act.put, nA, nB, nC])
  refine lP rfl ?_
  (try simp only [Act.put, nA, nB, nC])
  refine lM rfl rfl ?_
  (try simp only [Act.put, nA, nB, nC])
  refine lP rfl ?_
  (try simp only [Act.put, nA, nB, nC])
  refine lP rfl ?_
  (try simp only [Act.put, nA, nB, nC])
  refine lP rfl ?_
  (try simp only [Act.put, nA, nB, nC])
  (refine ⟨?_⟩; ((first | refine sL1 hS rfl rfl rfl ?_ | refine sL2 hS rfl rfl rfl ?_ | refine sL3 hS rfl rfl ?_ | refine sL4 hS rfl rfl ?_ | refine sL5 hS rfl rfl ?_ | refine sL6 hS rfl rfl ?_ | refine sL7 hS rfl rfl ?_)); refine WL.h ?_)
  (try simp only [Act.put, nA, nB, nC])
  refine lA rfl rfl ?_
  (try simp only [Act.put, nA, nB, nC])
  refine lZ ?_
  go_upto_region 7 with (first | (refine oL ?_; (first | refine sL1 hS rfl rfl rfl ?_ | refine sL2 hS rfl rfl rfl ?_ | refine sL3 hS rfl rfl ?_ | refine sL4 hS rfl rfl ?_ | refine sL5 hS rfl rfl ?_ | refine sL6 hS rfl rfl ?_ | refine sL7 hS rfl rfl ?_)) | (refine oS ?_; ((first | refine sS1 hS rfl rfl rfl ?_ | refine sS2 hS rfl rfl rfl ?_ | refine sS3 hS rfl rfl rfl ?_ | refine sS4 hS rfl rfl rfl ?_ | refine sS5 hS rfl rfl rfl ?_); clear hS; intro w hS)) | ((first | refine sN1 hS rfl ?_ | (refine oC ?_; first | refine sC0 hS rfl ?_ | refine sC1 hS rfl rfl ?_ | refine sC2 hS rfl rfl ?_ | refine sC3 hS rfl rfl rfl ?_ | refine sC4 hS rfl rfl rfl ?_)); clear hS; first | ((fail_if_success guard_hyp g1); intro g1 w hS) | ((fail_if_success guard_hyp g2); intro g2 w hS) | ((fail_if_success guard_hyp g3); intro g3 w hS) | ((fail_if_success guard_hyp g4); intro g4 w hS) | ((fail_if_success guard_hyp g5); intro g5 w hS) | fail) | fail)
  refine lR ?_
  (refine ⟨?_⟩; ((first | refine sL1 hS rfl rfl rfl ?_ | refine sL2 hS rfl rfl rfl ?_ | refine sL3 hS rfl rfl ?_ | refine sL4 hS rfl rfl ?_ | refine sL5 hS rfl rfl ?_ | refine sL6 hS rfl rfl ?_ | refine sL7 hS rfl rfl ?_)); refine WL.h ?_)
  (try simp only [Act.put, nA, nB, nC])
  refine lM rfl rfl ?_
  (try simp only [Act.put, nA, nB, nC])
  refine lM rfl rfl ?_
  (try simp only [Act.put, nA, nB, nC])
  (refine ⟨?_⟩; (((first | refine sC0 hS rfl ?_ | refine sC1 hS rfl rfl ?_ | refine sC2 hS rfl rfl ?_ | refine sC3 hS rfl rfl rfl ?_ | refine sC4 hS rfl rfl rfl ?_); clear hS; first | ((fail_if_success guard_hyp g1); intro g1 w hS) | ((fail_if_success guard_hyp g2); intro g2 w hS) | ((fail_if_success guard_hyp g3); intro g3 w hS) | ((fail_if_success guard_hyp g4); intro g4 w hS) | ((fail_if_success guard_hyp g5); intro g5 w hS) | fail)); refine WL.h ?_)
  (try simp only [Act.put, nA, nB, nC])
  refine lM rfl rfl ?_
  (try simp only [Act.put, nA, nB, nC])
  (refine ⟨?_⟩; (refine st_call rfl (by kernel_rfl) rfl ?_; go_at_call 30; have hb : St w0 _ (row (.slice (some ⟨g2, 0, none⟩) 1 1) 3 1 1 (ints [(u : Int)]) :: _) _ := hS.blkRw (g := g2) (n := 1) (sz := 1) (by rfl) (by omega); obtain ⟨T1, hS1, hi, hrv⟩ := hb.freezeV; clear hb hS; have hS := hS1; clear hS1; have HI := Lib.hid (And.intro hi hrv); clear hi hrv; refine (run_any A1 c1 A2 c2 A3 c3 p r (some ⟨g2, 0, none⟩) 1 1 [(u : Int)] C2 b2.length f2 b2 _ (HPA.out.1.into HI.out.1) HG.out hr HI.out.2 rfl (by omega) ((HD.out.2.into HPA.out.2).into HI.out.1) rfl HY.out.2.1).mono ?_; rintro e w3 ⟨⟨B1, d1, B2, d2, B3, d3, U, uc, PA, pc, EA, ec, WA, wc, RA0, rc, CA, cc, DA, dc, FA, fc⟩, t, rfl, hx2, hxt, he1⟩; obtain ⟨T2, hS2, hi1, hi0⟩ := hS.grow hxt; clear hS; have hS := hS2; clear hS2; have HE := Lib.hid (And.intro he1 (hx2.into hi1)); have HI0 := Lib.hid hi0; clear he1 hx2 hi1 hi0 hxt; simp only [TX.val, TX.cells]); refine WL.h ?_)
  (try simp only [Act.put, nA, nB, nC])
  refine lM rfl rfl ?_
  (try simp only [Act.put, nA, nB, nC])
  refine lP rfl ?_
  (try simp only [Act.put, nA, nB, nC])
  refine lP rfl ?_
  (try simp only [Act.put, nA, nB, nC])
  (refine ⟨?_⟩; ((refine sN1 hS rfl ?_; clear hS; first | ((fail_if_success guard_hyp g1); intro g1 w hS) | ((fail_if_success guard_hyp g2); intro g2 w hS) | ((fail_if_success guard_hyp g3); intro g3 w hS) | ((fail_if_success guard_hyp g4); intro g4 w hS) | ((fail_if_success guard_hyp g5); intro g5 w hS) | fail)); refine WL.h ?_)
  (try simp only [Act.put, nA, nB, nC])
  (refine ⟨?_⟩; (((first | refine sS1 hS rfl rfl rfl ?_ | refine sS2 hS rfl rfl rfl ?_ | refine sS3 hS rfl rfl rfl ?_ | refine sS4 hS rfl rfl rfl ?_ | refine sS5 hS rfl rfl rfl ?_); clear hS; intro w hS)); refine WL.h ?_)
  (try simp only [Act.put, nA, nB, nC])
  refine lA rfl rfl ?_
  (try simp only [Act.put, nA, nB, nC])
  refine lZ ?_
  have HDC := Lib.hid (ab_dec HE.out.1 HUL.out HUR.out)
  clear hkk
  go_wp2_with (first | (refine oL ?_; (first | refine sL1 hS rfl rfl rfl ?_ | refine sL2 hS rfl rfl rfl ?_ | refine sL3 hS rfl rfl ?_ | refine sL4 hS rfl rfl ?_ | refine sL5 hS rfl rfl ?_ | refine sL6 hS rfl rfl ?_ | refine sL7 hS rfl rfl ?_)) | (refine oS ?_; ((first | refine sS1 hS rfl rfl rfl ?_ | refine sS2 hS rfl rfl rfl ?_ | refine sS3 hS rfl rfl rfl ?_ | refine sS4 hS rfl rfl rfl ?_ | refine sS5 hS rfl rfl rfl ?_); clear hS; intro w hS)) | ((first | refine sN1 hS rfl ?_ | (refine oC ?_; first | refine sC0 hS rfl ?_ | refine sC1 hS rfl rfl ?_ | refine sC2 hS rfl rfl ?_ | refine sC3 hS rfl rfl rfl ?_ | refine sC4 hS rfl rfl rfl ?_)); clear hS; first | ((fail_if_success guard_hyp g1); intro g1 w hS) | ((fail_if_success guard_hyp g2); intro g2 w hS) | ((fail_if_success guard_hyp g3); intro g3 w hS) | ((fail_if_success guard_hyp g4); intro g4 w hS) | ((fail_if_success guard_hyp g5); intro g5 w hS) | fail) | fail)
  go_loopw [8, 15] (fun s8 s15 wr => ∃ q : Nat, q ≤ p.len.length ∧ s15 = .int .i64 q ∧ St w0 (fun k => True ∧ k < w0.heap.size) [row (.slice (some ⟨gL, 0, none⟩) l.length cL) 3 1 l.length (ints (nats l)), blk g3 [.slice B1 p.len.length d1, .slice B2 p.ck.length d2, .slice B3 p.arcs.length d3, .int .i64 (r : Int), .slice U p.len.length uc, .slice PA p.len.length pc, .slice EA p.len.length ec, .slice WA p.len.length wc, .slice RA0 p.len.length rc, .slice CA p.len.length cc, .slice DA p.len.length dc, .slice FA 0 fc] 55, blk g1 [.slice A1 p.len.length c1, .slice A2 p.ck.length c2, .slice A3 p.arcs.length c3] 44, froz T2 w3] wr) (fun _ s15 _ => p.len.length - (intOf s15).toNat)
  case atStart => exact ⟨0, by omega, rfl, hS.re⟩
  case round =>
    clear hS
    obtain ⟨q, hq, rfl, hS⟩ := hrel
    by_cases hlt : q < p.len.length
    · have hlt' : (q : Int) < p.len.length := by omega
      have HDEC := Lib.hid (show RI T2 w3 DA t.dec from HE.out.2.dec)
      have HTEN := Lib.hid (show RV T2 w3 EA (bools t.tent) from HE.out.2.tent)
      obtain ⟨bD, oD, hDA, hfc⟩ := HDEC.out.fc (k := q) (by rw [HE.out.1.l.d]; exact hlt)
      obtain ⟨bE, oE, hEA, hfc2⟩ := tent_fc HTEN.out (k := q) (by rw [HE.out.1.l.te]; exact hlt)
      rw [HE.out.1.tent q] at hfc2
      have e1 : (nth t.dec q == 1) = false := by simp [HDC.out.1 q]
      have e2 : q = r → (nth t.dec q != 2) = false := fun h => by rw [h, HDC.out.2]; rfl
      clear HDEC HTEN
      subst hDA hEA
      generalize nth t.dec q = z at *
      by_cases hqr : q = r
      · have e3 : ((q : Int) == (r : Int)) = true := by simp [hqr]
        have e4 := e2 hqr
        clear e2 hqr
        go_upto_region 13 with (first | (refine oL ?_; (first | refine sL1 hS rfl rfl rfl ?_ | refine sL2 hS rfl rfl rfl ?_ | refine sL3 hS rfl rfl ?_ | refine sL4 hS rfl rfl ?_ | refine sL5 hS rfl rfl ?_ | refine sL6 hS rfl rfl ?_ | refine sL7 hS rfl rfl ?_)) | (refine oS ?_; ((first | refine sS1 hS rfl rfl rfl ?_ | refine sS2 hS rfl rfl rfl ?_ | refine sS3 hS rfl rfl rfl ?_ | refine sS4 hS rfl rfl rfl ?_ | refine sS5 hS rfl rfl rfl ?_); clear hS; intro w hS)) | ((first | refine sN1 hS rfl ?_ | (refine oC ?_; first | refine sC0 hS rfl ?_ | refine sC1 hS rfl rfl ?_ | refine sC2 hS rfl rfl ?_ | refine sC3 hS rfl rfl rfl ?_ | refine sC4 hS rfl rfl rfl ?_)); clear hS; first | ((fail_if_success guard_hyp g1); intro g1 w hS) | ((fail_if_success guard_hyp g2); intro g2 w hS) | ((fail_if_success guard_hyp g3); intro g3 w hS) | ((fail_if_success guard_hyp g4); intro g4 w hS) | ((fail_if_success guard_hyp g5); intro g5 w hS) | fail) | fail)
        refine lR ?_
        refine lP rfl ?_
        (try simp only [Act.put, nA, nB, nC])
        (refine ⟨?_⟩; ((first | refine sL1 hS rfl rfl rfl ?_ | refine sL2 hS rfl rfl rfl ?_ | refine sL3 hS rfl rfl ?_ | refine sL4 hS rfl rfl ?_ | refine sL5 hS rfl rfl ?_ | refine sL6 hS rfl rfl ?_ | refine sL7 hS rfl rfl ?_)); refine WL.h ?_)
        (try simp only [Act.put, nA, nB, nC])
        refine lM rfl rfl ?_
        (try simp only [Act.put, nA, nB, nC])
        refine lP rfl ?_
        (try simp only [Act.put, nA, nB, nC])
        (refine ⟨?_⟩; ((first | refine sL1 hS rfl rfl rfl ?_ | refine sL2 hS rfl rfl rfl ?_ | refine sL3 hS rfl rfl ?_ | refine sL4 hS rfl rfl ?_ | refine sL5 hS rfl rfl ?_ | refine sL6 hS rfl rfl ?_ | refine sL7 hS rfl rfl ?_)); refine WL.h ?_)
        (try simp only [Act.put, nA, nB, nC])
        refine lP rfl ?_
        (try simp only [Act.put, nA, nB, nC])
        refine lM rfl rfl ?_
        (try simp only [Act.put, nA, nB, nC])
        first | refine lQ rfl ?_ | refine lP rfl ?_ | fail
        (try simp only [Act.put, nA, nB, nC])
        first | refine lQ rfl ?_ | (refine ⟨?_⟩; ((first | refine sL1 hS rfl rfl rfl ?_ | refine sL2 hS rfl rfl rfl ?_ | refine sL3 hS rfl rfl ?_ | refine sL4 hS rfl rfl ?_ | refine sL5 hS rfl rfl ?_ | refine sL6 hS rfl rfl ?_ | refine sL7 hS rfl rfl ?_)); refine WL.h ?_) | fail
        (try simp only [Act.put, nA, nB, nC])
        first | refine lQ rfl ?_ | refine lM rfl rfl ?_ | fail
        (try simp only [Act.put, nA, nB, nC])
        first | refine lQ rfl ?_ | refine lP rfl ?_ | fail
        (try simp only [Act.put, nA, nB, nC])
        first | refine lQ rfl ?_ | (refine ⟨?_⟩; ((first | refine sL1 hS rfl rfl rfl ?_ | refine sL2 hS rfl rfl rfl ?_ | refine sL3 hS rfl rfl ?_ | refine sL4 hS rfl rfl ?_ | refine sL5 hS rfl rfl ?_ | refine sL6 hS rfl rfl ?_ | refine sL7 hS rfl rfl ?_)); refine WL.h ?_) | fail
        (try simp only [Act.put, nA, nB, nC])
        refine lP rfl ?_
        (try simp only [Act.put, nA, nB, nC])
        refine lM rfl rfl ?_
        (try simp only [Act.put, nA, nB, nC])
        first | refine lQ rfl ?_ | refine lM rfl rfl ?_ | fail
        (try simp only [Act.put, nA, nB, nC])
        first | refine lQ rfl ?_ | refine lM rfl rfl ?_ | fail
        (try simp only [Act.put, nA, nB, nC])
        first | refine lQ rfl ?_ | refine lP rfl ?_ | fail
        (try simp only [Act.put, nA, nB, nC])
        first | refine lQ rfl ?_ | refine lM rfl rfl ?_ | fail
        (try simp only [Act.put, nA, nB, nC])
        first | refine lQ rfl ?_ | refine lP rfl ?_ | fail
        (try simp only [Act.put, nA, nB, nC])
        first | refine lQ rfl ?_ | (refine ⟨?_⟩; ((first | refine sL1 hS rfl rfl rfl ?_ | refine sL2 hS rfl rfl rfl ?_ | refine sL3 hS rfl rfl ?_ | refine sL4 hS rfl rfl ?_ | refine sL5 hS rfl rfl ?_ | refine sL6 hS rfl rfl ?_ | refine sL7 hS rfl rfl ?_)); refine WL.h ?_) | fail
        (try simp only [Act.put, nA, nB, nC])
        first | refine lQ rfl ?_ | refine lM rfl rfl ?_ | fail
        (try simp only [Act.put, nA, nB, nC])
        first | refine lQ rfl ?_ | refine lP rfl ?_ | fail
        (try simp only [Act.put, nA, nB, nC])
        first | refine lQ rfl ?_ | (refine ⟨?_⟩; ((first | refine sL1 hS rfl rfl rfl ?_ | refine sL2 hS rfl rfl rfl ?_ | refine sL3 hS rfl rfl ?_ | refine sL4 hS rfl rfl ?_ | refine sL5 hS rfl rfl ?_ | refine sL6 hS rfl rfl ?_ | refine sL7 hS rfl rfl ?_)); refine WL.h ?_) | fail
        (try simp only [Act.put, nA, nB, nC])
        first | refine lQ rfl ?_ | refine lP rfl ?_ | fail
        (try simp only [Act.put, nA, nB, nC])
        first | refine lQ rfl ?_ | refine lP rfl ?_ | fail
        (try simp only [Act.put, nA, nB, nC])
        refine lP rfl ?_
        (try simp only [Act.put, nA, nB, nC])
        refine lZ ?_
        go_wp2_with (first | (refine oL ?_; (first | refine sL1 hS rfl rfl rfl ?_ | refine sL2 hS rfl rfl rfl ?_ | refine sL3 hS rfl rfl ?_ | refine sL4 hS rfl rfl ?_ | refine sL5 hS rfl rfl ?_ | refine sL6 hS rfl rfl ?_ | refine sL7 hS rfl rfl ?_)) | (refine oS ?_; ((first | refine sS1 hS rfl rfl rfl ?_ | refine sS2 hS rfl rfl rfl ?_ | refine sS3 hS rfl rfl rfl ?_ | refine sS4 hS rfl rfl rfl ?_ | refine sS5 hS rfl rfl rfl ?_); clear hS; intro w hS)) | ((first | refine sN1 hS rfl ?_ | (refine oC ?_; first | refine sC0 hS rfl ?_ | refine sC1 hS rfl rfl ?_ | refine sC2 hS rfl rfl ?_ | refine sC3 hS rfl rfl rfl ?_ | refine sC4 hS rfl rfl rfl ?_)); clear hS; first | ((fail_if_success guard_hyp g1); intro g1 w hS) | ((fail_if_success guard_hyp g2); intro g2 w hS) | ((fail_if_success guard_hyp g3); intro g3 w hS) | ((fail_if_success guard_hyp g4); intro g4 w hS) | ((fail_if_success guard_hyp g5); intro g5 w hS) | fail) | fail)
        go_roundw
        case measure => simp [intOf]; try omega
        exact ⟨q + 1, by omega, by go_num, hS⟩
      · have e3 : ((q : Int) == (r : Int)) = false := by simp; omega
        clear e2 hqr
        go_upto_region 13 with (first | (refine oL ?_; (first | refine sL1 hS rfl rfl rfl ?_ | refine sL2 hS rfl rfl rfl ?_ | refine sL3 hS rfl rfl ?_ | refine sL4 hS rfl rfl ?_ | refine sL5 hS rfl rfl ?_ | refine sL6 hS rfl rfl ?_ | refine sL7 hS rfl rfl ?_)) | (refine oS ?_; ((first | refine sS1 hS rfl rfl rfl ?_ | refine sS2 hS rfl rfl rfl ?_ | refine sS3 hS rfl rfl rfl ?_ | refine sS4 hS rfl rfl rfl ?_ | refine sS5 hS rfl rfl rfl ?_); clear hS; intro w hS)) | ((first | refine sN1 hS rfl ?_ | (refine oC ?_; first | refine sC0 hS rfl ?_ | refine sC1 hS rfl rfl ?_ | refine sC2 hS rfl rfl ?_ | refine sC3 hS rfl rfl rfl ?_ | refine sC4 hS rfl rfl rfl ?_)); clear hS; first | ((fail_if_success guard_hyp g1); intro g1 w hS) | ((fail_if_success guard_hyp g2); intro g2 w hS) | ((fail_if_success guard_hyp g3); intro g3 w hS) | ((fail_if_success guard_hyp g4); intro g4 w hS) | ((fail_if_success guard_hyp g5); intro g5 w hS) | fail) | fail)
        refine lR ?_
        refine lP rfl ?_
        (try simp only [Act.put, nA, nB, nC])
        (refine ⟨?_⟩; ((first | refine sL1 hS rfl rfl rfl ?_ | refine sL2 hS rfl rfl rfl ?_ | refine sL3 hS rfl rfl ?_ | refine sL4 hS rfl rfl ?_ | refine sL5 hS rfl rfl ?_ | refine sL6 hS rfl rfl ?_ | refine sL7 hS rfl rfl ?_)); refine WL.h ?_)
        (try simp only [Act.put, nA, nB, nC])
        refine lM rfl rfl ?_
        (try simp only [Act.put, nA, nB, nC])
        refine lP rfl ?_
        (try simp only [Act.put, nA, nB, nC])
        (refine ⟨?_⟩; ((first | refine sL1 hS rfl rfl rfl ?_ | refine sL2 hS rfl rfl rfl ?_ | refine sL3 hS rfl rfl ?_ | refine sL4 hS rfl rfl ?_ | refine sL5 hS rfl rfl ?_ | refine sL6 hS rfl rfl ?_ | refine sL7 hS rfl rfl ?_)); refine WL.h ?_)
        (try simp only [Act.put, nA, nB, nC])
        refine lP rfl ?_
        (try simp only [Act.put, nA, nB, nC])
        refine lM rfl rfl ?_
        (try simp only [Act.put, nA, nB, nC])
        first | refine lQ rfl ?_ | refine lP rfl ?_ | fail
        (try simp only [Act.put, nA, nB, nC])
        first | refine lQ rfl ?_ | (refine ⟨?_⟩; ((first | refine sL1 hS rfl rfl rfl ?_ | refine sL2 hS rfl rfl rfl ?_ | refine sL3 hS rfl rfl ?_ | refine sL4 hS rfl rfl ?_ | refine sL5 hS rfl rfl ?_ | refine sL6 hS rfl rfl ?_ | refine sL7 hS rfl rfl ?_)); refine WL.h ?_) | fail
        (try simp only [Act.put, nA, nB, nC])
        first | refine lQ rfl ?_ | refine lM rfl rfl ?_ | fail
        (try simp only [Act.put, nA, nB, nC])
        first | refine lQ rfl ?_ | refine lP rfl ?_ | fail
        (try simp only [Act.put, nA, nB, nC])
        first | refine lQ rfl ?_ | (refine ⟨?_⟩; ((first | refine sL1 hS rfl rfl rfl ?_ | refine sL2 hS rfl rfl rfl ?_ | refine sL3 hS rfl rfl ?_ | refine sL4 hS rfl rfl ?_ | refine sL5 hS rfl rfl ?_ | refine sL6 hS rfl rfl ?_ | refine sL7 hS rfl rfl ?_)); refine WL.h ?_) | fail
        (try simp only [Act.put, nA, nB, nC])
        refine lP rfl ?_
        (try simp only [Act.put, nA, nB, nC])
        refine lM rfl rfl ?_
        (try simp only [Act.put, nA, nB, nC])
        first | refine lQ rfl ?_ | refine lM rfl rfl ?_ | fail
        (try simp only [Act.put, nA, nB, nC])
        first | refine lQ rfl ?_ | refine lM rfl rfl ?_ | fail
        (try simp only [Act.put, nA, nB, nC])
        first | refine lQ rfl ?_ | refine lP rfl ?_ | fail
        (try simp only [Act.put, nA, nB, nC])
        first | refine lQ rfl ?_ | refine lM rfl rfl ?_ | fail
        (try simp only [Act.put, nA, nB, nC])
        first | refine lQ rfl ?_ | refine lP rfl ?_ | fail
        (try simp only [Act.put, nA, nB, nC])
        first | refine lQ rfl ?_ | (refine ⟨?_⟩; ((first | refine sL1 hS rfl rfl rfl ?_ | refine sL2 hS rfl rfl rfl ?_ | refine sL3 hS rfl rfl ?_ | refine sL4 hS rfl rfl ?_ | refine sL5 hS rfl rfl ?_ | refine sL6 hS rfl rfl ?_ | refine sL7 hS rfl rfl ?_)); refine WL.h ?_) | fail
        (try simp only [Act.put, nA, nB, nC])
        first | refine lQ rfl ?_ | refine lM rfl rfl ?_ | fail
        (try simp only [Act.put, nA, nB, nC])
        first | refine lQ rfl ?_ | refine lP rfl ?_ | fail
        (try simp only [Act.put, nA, nB, nC])
        first | refine lQ rfl ?_ | (refine ⟨?_⟩; ((first | refine sL1 hS rfl rfl rfl ?_ | refine sL2 hS rfl rfl rfl ?_ | refine sL3 hS rfl rfl ?_ | refine sL4 hS rfl rfl ?_ | refine sL5 hS rfl rfl ?_ | refine sL6 hS rfl rfl ?_ | refine sL7 hS rfl rfl ?_)); refine WL.h ?_) | fail
        (try simp only [Act.put, nA, nB, nC])
        first | refine lQ rfl ?_ | refine lP rfl ?_ | fail
        (try simp only [Act.put, nA, nB, nC])
        first | refine lQ rfl ?_ | refine lP rfl ?_ | fail
        (try simp only [Act.put, nA, nB, nC])
        refine lP rfl ?_
        (try simp only [Act.put, nA, nB, nC])
        refine lZ ?_
        go_wp2_with (first | (refine oL ?_; (first | refine sL1 hS rfl rfl rfl ?_ | refine sL2 hS rfl rfl rfl ?_ | refine sL3 hS rfl rfl ?_ | refine sL4 hS rfl rfl ?_ | refine sL5 hS rfl rfl ?_ | refine sL6 hS rfl rfl ?_ | refine sL7 hS rfl rfl ?_)) | (refine oS ?_; ((first | refine sS1 hS rfl rfl rfl ?_ | refine sS2 hS rfl rfl rfl ?_ | refine sS3 hS rfl rfl rfl ?_ | refine sS4 hS rfl rfl rfl ?_ | refine sS5 hS rfl rfl rfl ?_); clear hS; intro w hS)) | ((first | refine sN1 hS rfl ?_ | (refine oC ?_; first | refine sC0 hS rfl ?_ | refine sC1 hS rfl rfl ?_ | refine sC2 hS rfl rfl ?_ | refine sC3 hS rfl rfl rfl ?_ | refine sC4 hS rfl rfl rfl ?_)); clear hS; first | ((fail_if_success guard_hyp g1); intro g1 w hS) | ((fail_if_success guard_hyp g2); intro g2 w hS) | ((fail_if_success guard_hyp g3); intro g3 w hS) | ((fail_if_success guard_hyp g4); intro g4 w hS) | ((fail_if_success guard_hyp g5); intro g5 w hS) | fail) | fail)
        go_roundw
        case measure => simp [intOf]; try omega
        exact ⟨q + 1, by omega, by go_num, hS⟩
    · have hlt' : ¬ (q : Int) < p.len.length := by omega
      go_upto_region 15 with (first | (refine oL ?_; (first | refine sL1 hS rfl rfl rfl ?_ | refine sL2 hS rfl rfl rfl ?_ | refine sL3 hS rfl rfl ?_ | refine sL4 hS rfl rfl ?_ | refine sL5 hS rfl rfl ?_ | refine sL6 hS rfl rfl ?_ | refine sL7 hS rfl rfl ?_)) | (refine oS ?_; ((first | refine sS1 hS rfl rfl rfl ?_ | refine sS2 hS rfl rfl rfl ?_ | refine sS3 hS rfl rfl rfl ?_ | refine sS4 hS rfl rfl rfl ?_ | refine sS5 hS rfl rfl rfl ?_); clear hS; intro w hS)) | ((first | refine sN1 hS rfl ?_ | (refine oC ?_; first | refine sC0 hS rfl ?_ | refine sC1 hS rfl rfl ?_ | refine sC2 hS rfl rfl ?_ | refine sC3 hS rfl rfl rfl ?_ | refine sC4 hS rfl rfl rfl ?_)); clear hS; first | ((fail_if_success guard_hyp g1); intro g1 w hS) | ((fail_if_success guard_hyp g2); intro g2 w hS) | ((fail_if_success guard_hyp g3); intro g3 w hS) | ((fail_if_success guard_hyp g4); intro g4 w hS) | ((fail_if_success guard_hyp g5); intro g5 w hS) | fail) | fail)
      refine lR ?_
      (refine ⟨?_⟩; ((first | refine sL1 hS rfl rfl rfl ?_ | refine sL2 hS rfl rfl rfl ?_ | refine sL3 hS rfl rfl ?_ | refine sL4 hS rfl rfl ?_ | refine sL5 hS rfl rfl ?_ | refine sL6 hS rfl rfl ?_ | refine sL7 hS rfl rfl ?_)); refine WL.h ?_)
      (try simp only [Act.put, nA, nB, nC])
      (refine ⟨?_⟩; (refine st_call rfl (by kernel_rfl) rfl ?_; go_at_call 37; refine (result_any ⟨B1, d1, B2, d2, B3, d3, U, uc, PA, pc, EA, ec, WA, wc, RA0, rc, CA, cc, DA, dc, FA, fc⟩ p t r _ (HE.out.2.into hS.frozInto) HG.out HE.out.1.l.d).mono ?_; rw [resP_same HDC.out.1]; rintro e w4 ⟨⟨D1, f1, D2, f2, D3, f3⟩, rfl, hpx, hxt⟩; simp only [PV.val]; obtain ⟨T3, hS2, hi1, hi0⟩ := hS.grow hxt; clear hS; have hS := hS2; clear hS2; have HX := Lib.hid (hpx.into hi1); have HI3 := Lib.hid hi0; clear hpx hi1 hi0 hxt); refine WL.h ?_)
      (try simp only [Act.put, nA, nB, nC])
      refine lM rfl rfl ?_
      (try simp only [Act.put, nA, nB, nC])
      refine lP rfl ?_
      (try simp only [Act.put, nA, nB, nC])
      refine lP rfl ?_
      (try simp only [Act.put, nA, nB, nC])
      (refine ⟨?_⟩; ((refine sN1 hS rfl ?_; clear hS; first | ((fail_if_success guard_hyp g1); intro g1 w hS) | ((fail_if_success guard_hyp g2); intro g2 w hS) | ((fail_if_success guard_hyp g3); intro g3 w hS) | ((fail_if_success guard_hyp g4); intro g4 w hS) | ((fail_if_success guard_hyp g5); intro g5 w hS) | fail)); refine WL.h ?_)
      (try simp only [Act.put, nA, nB, nC])
      (refine ⟨?_⟩; (((first | refine sS1 hS rfl rfl rfl ?_ | refine sS2 hS rfl rfl rfl ?_ | refine sS3 hS rfl rfl rfl ?_ | refine sS4 hS rfl rfl rfl ?_ | refine sS5 hS rfl rfl rfl ?_); clear hS; intro w hS)); refine WL.h ?_)
      (try simp only [Act.put, nA, nB, nC])
      refine lA rfl rfl ?_
      (try simp only [Act.put, nA, nB, nC])
      refine lZ ?_
      have HP3 := Lib.hid (((HPA.out.1.into HI.out.1).into HI0.out).into HI3.out)
      have HM3 := Lib.hid (intoTr (intoTr (intoTr HPA.out.2 HI.out.1) HI0.out) HI3.out)
      clear hlt hlt' hq
      go_upto_region 16 with (first | (refine oL ?_; (first | refine sL1 hS rfl rfl rfl ?_ | refine sL2 hS rfl rfl rfl ?_ | refine sL3 hS rfl rfl ?_ | refine sL4 hS rfl rfl ?_ | refine sL5 hS rfl rfl ?_ | refine sL6 hS rfl rfl ?_ | refine sL7 hS rfl rfl ?_)) | (refine oS ?_; ((first | refine sS1 hS rfl rfl rfl ?_ | refine sS2 hS rfl rfl rfl ?_ | refine sS3 hS rfl rfl rfl ?_ | refine sS4 hS rfl rfl rfl ?_ | refine sS5 hS rfl rfl rfl ?_); clear hS; intro w hS)) | ((first | refine sN1 hS rfl ?_ | (refine oC ?_; first | refine sC0 hS rfl ?_ | refine sC1 hS rfl rfl ?_ | refine sC2 hS rfl rfl ?_ | refine sC3 hS rfl rfl rfl ?_ | refine sC4 hS rfl rfl rfl ?_)); clear hS; first | ((fail_if_success guard_hyp g1); intro g1 w hS) | ((fail_if_success guard_hyp g2); intro g2 w hS) | ((fail_if_success guard_hyp g3); intro g3 w hS) | ((fail_if_success guard_hyp g4); intro g4 w hS) | ((fail_if_success guard_hyp g5); intro g5 w hS) | fail) | fail)
      refine lR ?_
      refine lM rfl rfl ?_
      (try simp only [Act.put, nA, nB, nC])
      refine lM rfl rfl ?_
      (try simp only [Act.put, nA, nB, nC])
      first | refine lQ rfl ?_ | (refine ⟨?_⟩; ((first | refine sL1 hS rfl rfl rfl ?_ | refine sL2 hS rfl rfl rfl ?_ | refine sL3 hS rfl rfl ?_ | refine sL4 hS rfl rfl ?_ | refine sL5 hS rfl rfl ?_ | refine sL6 hS rfl rfl ?_ | refine sL7 hS rfl rfl ?_)); refine WL.h ?_) | fail
      (try simp only [Act.put, nA, nB, nC])
      first | refine lQ rfl ?_ | (refine ⟨?_⟩; ((first | refine sL1 hS rfl rfl rfl ?_ | refine sL2 hS rfl rfl rfl ?_ | refine sL3 hS rfl rfl ?_ | refine sL4 hS rfl rfl ?_ | refine sL5 hS rfl rfl ?_ | refine sL6 hS rfl rfl ?_ | refine sL7 hS rfl rfl ?_)); refine WL.h ?_) | fail
      (try simp only [Act.put, nA, nB, nC])
      first | refine lQ rfl ?_ | (refine ⟨?_⟩; (refine st_call rfl (by kernel_rfl) rfl ?_; go_at_call 39; refine (rsame_good (HX.out.into hS.frozInto) (HP3.out.into hS.frozInto) HG.out).mono ?_; rintro e w ⟨rfl, hx1⟩; replace hS := hS.ext hx1; clear hx1); refine WL.h ?_) | fail
      (try simp only [Act.put, nA, nB, nC])
      refine lP rfl ?_
      (try simp only [Act.put, nA, nB, nC])
      refine lA rfl rfl ?_
      (try simp only [Act.put, nA, nB, nC])
      refine lZ ?_
      go_wp2_with (first | (refine oL ?_; (first | refine sL1 hS rfl rfl rfl ?_ | refine sL2 hS rfl rfl rfl ?_ | refine sL3 hS rfl rfl ?_ | refine sL4 hS rfl rfl ?_ | refine sL5 hS rfl rfl ?_ | refine sL6 hS rfl rfl ?_ | refine sL7 hS rfl rfl ?_)) | (refine oS ?_; ((first | refine sS1 hS rfl rfl rfl ?_ | refine sS2 hS rfl rfl rfl ?_ | refine sS3 hS rfl rfl rfl ?_ | refine sS4 hS rfl rfl rfl ?_ | refine sS5 hS rfl rfl rfl ?_); clear hS; intro w hS)) | ((first | refine sN1 hS rfl ?_ | (refine oC ?_; first | refine sC0 hS rfl ?_ | refine sC1 hS rfl rfl ?_ | refine sC2 hS rfl rfl ?_ | refine sC3 hS rfl rfl rfl ?_ | refine sC4 hS rfl rfl rfl ?_)); clear hS; first | ((fail_if_success guard_hyp g1); intro g1 w hS) | ((fail_if_success guard_hyp g2); intro g2 w hS) | ((fail_if_success guard_hyp g3); intro g3 w hS) | ((fail_if_success guard_hyp g4); intro g4 w hS) | ((fail_if_success guard_hyp g5); intro g5 w hS) | fail) | fail)
      go_ret
      exact ⟨rfl, hS.extF (intoTr HM3.out hS.ornF)⟩
open Go.ChangeShapes Go.WideShapes Go.ChangeAt
set_option maxRecDepth 100000 in
theorem lifted_TwophaseAborts (os : Os) (started : os.Started) (H : Type) (enc : TypeId × Value → H) :
    ReturnsInHanded {} Try.checked os 9 .any (Rows.twophaseAbortsSpec.pre6 enc Try.prog Try.f9 Rows.twophaseAbortsRow.domain false) (Rows.twophaseAbortsSpec.post enc Try.prog Try.f9 false true false false) := by
  refine law_lifted (C := Try.checked) (s := Rows.twophaseAbortsSpec) (tb := 4) (by kernel_rfl) started (by kernel_rfl) Try.func9
      (ChangeSpec.witness6 (enc := enc) (C := Try.checked) false ⟨#[], #[.slice none 0 0, .int .i64 0, .int .u8 0, .slice none 0 0], []⟩ 8 (by kernel_rfl) (by kernel_rfl) (by kernel_rfl) (by kernel_rfl))
      (by kernel_rfl) rfl rfl Try.underlying4 (read_of (by kernel_rfl)) ?_ ?_
  · intro ds hl
    match ds, hl with
    | [d0, d1, d2, d3], _ => exact ⟨rfl, rfl, rfl⟩
  · intro W base args ds p hval0 hA0
    have hval : ∀ (j : Nat) t v, Try.f9.params[j]? = some t → args[j]? = some v → Value.okWide Try.prog W .any base t v := hval0
    have hA : DataW.TrodAll enc Try.prog W 0 (fun _ => true) true Try.f9.params.toList args.toList ds p := hA0
    clear hA0 hval0
    rw [Try.params9] at hA hval
    obtain ⟨v0, v1, v2, v3, d0, d1, d2, d3, p0, p1, p2, p3, rfl, rfl, rfl, h0, h1, h2, h3⟩ := trodAll_four hA
    obtain ⟨A0, c0, xs0, rfl, hri0, hc0, hd0, hwf0⟩ := open_nums Try.underlying31 Try.underlying5 (by kernel_rfl) (hval 0 _ v0 rfl rfl) h0
    obtain ⟨x1, rfl, _, _, hz1⟩ := open_int Try.underlying3 (hval 1 _ v1 rfl rfl) h1
    obtain ⟨x2, rfl, _, _, hz2⟩ := open_int Try.underlying5 (hval 2 _ v2 rfl rfl) h2
    have hb2 := u8_bd hz2
    obtain ⟨z2, rfl⟩ : ∃ zn : Nat, x2 = zn := ⟨x2.toNat, by omega⟩
    obtain ⟨A3, c3, xs3, rfl, hri3, hc3, hd3, hwf3⟩ := open_nums Try.underlying31 Try.underlying5 (by kernel_rfl) (hval 3 _ v3 rfl rfl) h3
    exact twophaseAborts_any A0 c0 xs0 x1 z2 A3 c3 xs3 W hri0 hc0 hd0 (fun b hb => u8_bd (hwf0 b hb)) (i64_bd hz1) (by omega) hri3 hc3 hd3 (fun b hb => u8_bd (hwf3 b hb))
/-- TwophaseAborts returns true for every input, and leaves its arguments as they were. -/
theorem proved_TwophaseAborts : Rows.TwophaseAbortsSaid :=
  OpenClaim.holds_of_wide 9 Try.f9 rfl rfl rfl rfl rfl rfl rfl ⟨rfl, rfl, rfl, rfl, rfl⟩ rfl rfl rfl rfl rfl (by kernel_rfl) Try.func9 (by kernel_rfl)
    (of_decide_eq_true (by kernel_rfl)) (by unfold Func.isWrapper; rw [if_neg (by decide +kernel)]; exact ⟨rfl, rfl⟩)
    (fun os started H enc _ => lifted_TwophaseAborts os started H enc)
end Go.Proofs.Ytmjmdncdmmcmaaa
