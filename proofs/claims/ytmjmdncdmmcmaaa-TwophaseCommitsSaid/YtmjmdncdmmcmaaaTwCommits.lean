/- TwophaseCommits returns true for every input. No condition. -/
import Derived.Test.YtmjmdncdmmcmaaaTwCoP
import Derived.Test.YtmjmdncdmmcmaaaTwY
import Derived.Test.YtmjmdncdmmcmaaaRChk
namespace Go.Proofs.Ytmjmdncdmmcmaaa
open Go.RowKit Tph
set_option linter.unusedVariables false
set_option linter.unusedSimpArgs false
set_option linter.unusedSectionVars false

/-- old data -/
theorem RV.toM {w0 : World} {A : Option Addr} {vs : List Value} (h : RV (fun b => b < w0.heap.size) w0 A vs) : RV (fun k => True ∧ k < w0.heap.size) w0 A vs := h.into (fun k hk hl => ⟨⟨trivial, hk⟩, rfl⟩)
theorem ri_nil {S : Nat → Prop} {w : World} : RI S w none [] := fun j u hu => by simp [ints] at hu
theorem tent_fc {T : Nat → Prop} {u : World} {A : Option Addr} {l : List Bool} (h : RV T u A (bools l)) {k : Nat} (hk : k < l.length) : ∃ b o, A = some ⟨b, o, none⟩ ∧ FC T u b (o + k) (.bool (opOf l k)) := by
  obtain ⟨b, o, e, h1, h2⟩ := h k (.bool (opOf l k)) (opOf_at hk)
  exact ⟨b, o, e, h1, h2⟩
set_option maxRecDepth 100000 in
set_option maxHeartbeats 12800000 in
theorem twophaseCommits_any (C : Option Addr) (f : Nat) (bs : List Int) (z0 : Int) (C2 : Option Addr) (f2 : Nat) (b2 : List Int) (w0 : World) (hbs : RV (fun b => b < w0.heap.size) w0 C (bytes bs)) (hf : bs.length ≤ f) (hf' : f ≤ 9223372036854775807) (hby : ∀ b ∈ bs, 0 ≤ b ∧ b ≤ 255) (hz0 : -9223372036854775808 ≤ z0 ∧ z0 ≤ 9223372036854775807) (hb2 : RV (fun b => b < w0.heap.size) w0 C2 (bytes b2)) (hf2 : b2.length ≤ f2) (hf2' : f2 ≤ 9223372036854775807) (hy2 : ∀ b ∈ b2, 0 ≤ b ∧ b ≤ 255) :
    Calls Try.prog 10 #[.slice C bs.length f, .int .i64 z0, .slice C2 b2.length f2] w0 fun e w' => e = .returned (.bool true) ∧ Ext w0 w' := by
  have hS := St.startF w0 (fun _ => True)
  have HD := Lib.hid (And.intro (RV.toM hbs) (RV.toM hb2))
  have HY := Lib.hid (And.intro hby (And.intro hy2 hbs))
  clear hbs hb2 hby hy2
  go_enter Try.func10, Try.ntmps10
  go_upto_region 5 with (first | (go_at_call 21; refine (awake24_any _).mono ?_; rintro e w ⟨rfl, hx1⟩; replace hS := hS.ext hx1; clear hx1) | (go_at_call 22; refine (draw24_any C f bs _ (HY.out.2.2.into (fun k hk hl => ⟨Nat.lt_of_lt_of_le hk hS.keep.size, (hS.frozInto k ⟨trivial, hk⟩ hl).2⟩)) hf hf' HY.out.1).mono ?_; rintro e w2 ⟨⟨A1, c1, A2, c2, A3, c3⟩, p, rfl, hsm, hpa, hx1⟩; simp only [PV.val]; obtain ⟨T, hS2, hi1, hi0⟩ := hS.grow hx1; clear hS; have hS := hS2; clear hS2; have HPA := Lib.hid (And.intro (hpa.into (fun k hk hl => hi1 k (.inr hk.1) hl)) hi0); have HG := Lib.hid hsm.good; have hn2 := hsm.good.n2; have hn5 := hsm.good.n5; clear hsm hpa hi1 hi0 hx1) | (go_at_call 12; refine (mod24_any z0 p.len.length _ _ rfl (by omega) (by omega)).mono ?_; rintro e w ⟨⟨r, rfl, hr⟩, hx1⟩; replace hS := hS.ext hx1; clear hx1) | (refine oL ?_; (first | refine sL1 hS rfl rfl rfl ?_ | refine sL2 hS rfl rfl rfl ?_ | refine sL3 hS rfl rfl ?_ | refine sL4 hS rfl rfl ?_ | refine sL5 hS rfl rfl ?_ | refine sL6 hS rfl rfl ?_ | refine sL7 hS rfl rfl ?_)) | (refine oS ?_; ((first | refine sS1 hS rfl rfl rfl ?_ | refine sS2 hS rfl rfl rfl ?_ | refine sS3 hS rfl rfl rfl ?_ | refine sS4 hS rfl rfl rfl ?_ | refine sS5 hS rfl rfl rfl ?_); clear hS; intro w hS)) | ((first | refine sN1 hS rfl ?_); clear hS; first | ((fail_if_success guard_hyp g1); intro g1 w hS) | ((fail_if_success guard_hyp g2); intro g2 w hS) | ((fail_if_success guard_hyp g3); intro g3 w hS) | ((fail_if_success guard_hyp g4); intro g4 w hS) | fail) | fail)
  refine lR ?_
  (refine ⟨?_⟩; ((first | refine sL1 hS rfl rfl rfl ?_ | refine sL2 hS rfl rfl rfl ?_ | refine sL3 hS rfl rfl ?_ | refine sL4 hS rfl rfl ?_ | refine sL5 hS rfl rfl ?_ | refine sL6 hS rfl rfl ?_ | refine sL7 hS rfl rfl ?_)); refine WL.h ?_)
  (try simp only [Act.put, nA, nB, nC])
  refine lM rfl rfl ?_
  (try simp only [Act.put, nA, nB, nC])
  refine lM rfl rfl ?_
  (try simp only [Act.put, nA, nB, nC])
  (refine ⟨?_⟩; (refine st_call rfl (by kernel_rfl) rfl ?_; go_at_call 30; refine (run_any A1 c1 A2 c2 A3 c3 p r none 0 0 [] C2 b2.length f2 b2 _ (HPA.out.1.into hS.frozInto) HG.out hr ri_nil rfl (by omega) ((HD.out.2.into HPA.out.2).into hS.frozInto) rfl HY.out.2.1).mono ?_; rintro e w3 ⟨⟨B1, d1, B2, d2, B3, d3, U, uc, PA, pc, EA, ec, WA, wc, RA0, rc, CA, cc, DA, dc, FA, fc⟩, t, rfl, hx2, hxt, he1⟩; obtain ⟨T2, hS2, hi1, hi0⟩ := hS.grow hxt; clear hS; have hS := hS2; clear hS2; have HE := Lib.hid (And.intro he1 (hx2.into hi1)); have HI0 := Lib.hid hi0; clear he1 hx2 hi1 hi0 hxt; simp only [TX.val, TX.cells]); refine WL.h ?_)
  (try simp only [Act.put, nA, nB, nC])
  refine lM rfl rfl ?_
  (try simp only [Act.put, nA, nB, nC])
  refine lP rfl ?_
  (try simp only [Act.put, nA, nB, nC])
  refine lP rfl ?_
  (try simp only [Act.put, nA, nB, nC])
  (refine ⟨?_⟩; ((refine sN1 hS rfl ?_; clear hS; first | ((fail_if_success guard_hyp g1); intro g1 w hS) | ((fail_if_success guard_hyp g2); intro g2 w hS) | ((fail_if_success guard_hyp g3); intro g3 w hS) | ((fail_if_success guard_hyp g4); intro g4 w hS) | fail)); refine WL.h ?_)
  (try simp only [Act.put, nA, nB, nC])
  (refine ⟨?_⟩; (((first | refine sS1 hS rfl rfl rfl ?_ | refine sS2 hS rfl rfl rfl ?_ | refine sS3 hS rfl rfl rfl ?_ | refine sS4 hS rfl rfl rfl ?_ | refine sS5 hS rfl rfl rfl ?_); clear hS; intro w hS)); refine WL.h ?_)
  (try simp only [Act.put, nA, nB, nC])
  refine lA rfl rfl ?_
  (try simp only [Act.put, nA, nB, nC])
  refine lZ ?_
  have HP2 := Lib.hid (HPA.out.1.into HI0.out)
  have HM2 := Lib.hid (intoTr HPA.out.2 HI0.out)
  have HDC := Lib.hid (dec0 HE.out.1)
  clear HPA HI0 HD HY
  go_upto_region 8 with (first | (refine oL ?_; (first | refine sL1 hS rfl rfl rfl ?_ | refine sL2 hS rfl rfl rfl ?_ | refine sL3 hS rfl rfl ?_ | refine sL4 hS rfl rfl ?_ | refine sL5 hS rfl rfl ?_ | refine sL6 hS rfl rfl ?_ | refine sL7 hS rfl rfl ?_)) | (refine oS ?_; ((first | refine sS1 hS rfl rfl rfl ?_ | refine sS2 hS rfl rfl rfl ?_ | refine sS3 hS rfl rfl rfl ?_ | refine sS4 hS rfl rfl rfl ?_ | refine sS5 hS rfl rfl rfl ?_); clear hS; intro w hS)) | ((first | refine sN1 hS rfl ?_); clear hS; first | ((fail_if_success guard_hyp g1); intro g1 w hS) | ((fail_if_success guard_hyp g2); intro g2 w hS) | ((fail_if_success guard_hyp g3); intro g3 w hS) | ((fail_if_success guard_hyp g4); intro g4 w hS) | fail) | fail)
  refine lR ?_
  (refine ⟨?_⟩; ((first | refine sL1 hS rfl rfl rfl ?_ | refine sL2 hS rfl rfl rfl ?_ | refine sL3 hS rfl rfl ?_ | refine sL4 hS rfl rfl ?_ | refine sL5 hS rfl rfl ?_ | refine sL6 hS rfl rfl ?_ | refine sL7 hS rfl rfl ?_)); refine WL.h ?_)
  (try simp only [Act.put, nA, nB, nC])
  refine lM rfl rfl ?_
  (try simp only [Act.put, nA, nB, nC])
  (refine ⟨?_⟩; (refine st_call rfl (by kernel_rfl) rfl ?_; go_at_call 23; refine (least_any ⟨A1, c1, A2, c2, A3, c3⟩ p r _ (HP2.out.into hS.frozInto) HG.out hr).mono ?_; rintro e w ⟨l, hm, L, cL, rfl, ho, hx1⟩; replace hS := hS.addRow ho hx1; clear ho hx1; have HM := Lib.hid hm; clear hm); refine WL.h ?_)
  (try simp only [Act.put, nA, nB, nC])
  refine lA rfl rfl ?_
  (try simp only [Act.put, nA, nB, nC])
  refine lZ ?_
  go_wp2_with (first | (refine oL ?_; (first | refine sL1 hS rfl rfl rfl ?_ | refine sL2 hS rfl rfl rfl ?_ | refine sL3 hS rfl rfl ?_ | refine sL4 hS rfl rfl ?_ | refine sL5 hS rfl rfl ?_ | refine sL6 hS rfl rfl ?_ | refine sL7 hS rfl rfl ?_)) | (refine oS ?_; ((first | refine sS1 hS rfl rfl rfl ?_ | refine sS2 hS rfl rfl rfl ?_ | refine sS3 hS rfl rfl rfl ?_ | refine sS4 hS rfl rfl rfl ?_ | refine sS5 hS rfl rfl rfl ?_); clear hS; intro w hS)) | ((first | refine sN1 hS rfl ?_); clear hS; first | ((fail_if_success guard_hyp g1); intro g1 w hS) | ((fail_if_success guard_hyp g2); intro g2 w hS) | ((fail_if_success guard_hyp g3); intro g3 w hS) | ((fail_if_success guard_hyp g4); intro g4 w hS) | fail) | fail)
  go_loopw [12] (fun s12 wr => ∃ q : Nat, q ≤ p.len.length ∧ s12 = .int .i64 q ∧ St w0 (fun k => True ∧ k < w0.heap.size) [row (.slice L l.length cL) 3 1 l.length (ints (nats l)), blk g2 [.slice B1 p.len.length d1, .slice B2 p.ck.length d2, .slice B3 p.arcs.length d3, .int .i64 (r : Int), .slice U p.len.length uc, .slice PA p.len.length pc, .slice EA p.len.length ec, .slice WA p.len.length wc, .slice RA0 p.len.length rc, .slice CA p.len.length cc, .slice DA p.len.length dc, .slice FA 0 fc] 55, blk g1 [.slice A1 p.len.length c1, .slice A2 p.ck.length c2, .slice A3 p.arcs.length c3] 44, froz T2 w3] wr) (fun s12 _ => p.len.length - (intOf s12).toNat)
  case atStart => exact ⟨0, by omega, rfl, hS⟩
  case round =>
    clear hS
    obtain ⟨q, hq, rfl, hS⟩ := hrel
    by_cases hlt : q < p.len.length
    · have hlt' : (q : Int) < p.len.length := by omega
      have HDEC := Lib.hid (show RI T2 w3 DA t.dec from HE.out.2.dec)
      have HTEN := Lib.hid (show RV T2 w3 EA (bools t.tent) from HE.out.2.tent)
      obtain ⟨bD, oD, hDA, hfc⟩ := HDEC.out.fc (k := q) (by rw [HE.out.1.l.d]; exact hlt)
      obtain ⟨bE, oE, hEA, hfc2⟩ := tent_fc HTEN.out (k := q) (by rw [HE.out.1.l.te]; exact hlt)
      rw [HE.out.1.tent q] at hfc2
      obtain ⟨b, hb⟩ : ∃ b, decide ((q : Int) ∈ nats l) = b := ⟨_, rfl⟩
      have e1 : (nth t.dec q == 1) = b := by
        rw [← hb]
        have h1 := (HDC.out q).1
        have h2 : (q : Int) ∈ nats l ↔ Rch (srcL p) r q := by
          rw [nats_mem, ← HM.out.mem]
          exact ⟨fun ⟨k, hk, e⟩ => by rw [← (show k = q by omega)]; exact hk, fun h => ⟨q, h, rfl⟩⟩
        by_cases h : nth t.dec q = 1
        · simp [h, h2.2 (h1.1 h)]
        · have : ¬ (q : Int) ∈ nats l := fun h3 => h (h1.2 (h2.1 h3))
          simp [h, this]
      have e2 : (nth t.dec q == 2) = false := by simp [(HDC.out q).2]
      have HB := Lib.hid hb
      clear hb HDEC HTEN
      subst hDA hEA
      generalize nth t.dec q = z at *
      cases b
      all_goals
        go_wp2_with (first | (refine oL ?_; (first | refine sL1 hS rfl rfl rfl ?_ | refine sL2 hS rfl rfl rfl ?_ | refine sL3 hS rfl rfl ?_ | refine sL4 hS rfl rfl ?_ | refine sL5 hS rfl rfl ?_ | refine sL6 hS rfl rfl ?_ | refine sL7 hS rfl rfl ?_)) | (refine oS ?_; ((first | refine sS1 hS rfl rfl rfl ?_ | refine sS2 hS rfl rfl rfl ?_ | refine sS3 hS rfl rfl rfl ?_ | refine sS4 hS rfl rfl rfl ?_ | refine sS5 hS rfl rfl rfl ?_); clear hS; intro w hS)) | ((first | refine sN1 hS rfl ?_); clear hS; first | ((fail_if_success guard_hyp g1); intro g1 w hS) | ((fail_if_success guard_hyp g2); intro g2 w hS) | ((fail_if_success guard_hyp g3); intro g3 w hS) | ((fail_if_success guard_hyp g4); intro g4 w hS) | fail) | fail)
        refine dr_start0 []  hS (by kernel_rfl) rfl ?_; clear hS; intro w hS
        refine dP hS 0 rfl rfl ?_
        (try simp only [Act.put, nA, nB, nC])
        first | refine dL1 hS 1 rfl rfl rfl rfl ?_ | refine dL2 hS 1 rfl rfl rfl rfl ?_ | refine dL3 hS 1 rfl rfl rfl ?_ | refine dL4 hS 1 rfl rfl rfl ?_ | refine dL5 hS 1 rfl rfl rfl ?_ | refine dL6 hS 1 rfl rfl rfl ?_ | refine dL7 hS 1 rfl rfl rfl ?_
        (try simp only [Act.put, nA, nB, nC])
        refine dM hS 2 rfl rfl rfl ?_
        (try simp only [Act.put, nA, nB, nC])
        refine dP hS 3 rfl rfl ?_
        (try simp only [Act.put, nA, nB, nC])
        first | refine dL1 hS 4 rfl rfl rfl rfl ?_ | refine dL2 hS 4 rfl rfl rfl rfl ?_ | refine dL3 hS 4 rfl rfl rfl ?_ | refine dL4 hS 4 rfl rfl rfl ?_ | refine dL5 hS 4 rfl rfl rfl ?_ | refine dL6 hS 4 rfl rfl rfl ?_ | refine dL7 hS 4 rfl rfl rfl ?_
        (try simp only [Act.put, nA, nB, nC])
        first | (refine dP hS 5 rfl rfl ?_; try rw [e1]) | refine dP hS 5 rfl rfl ?_
        (try simp only [Act.put, nA, nB, nC])
        refine dM hS 6 rfl rfl rfl ?_
        (try simp only [Act.put, nA, nB, nC])
        refine dM hS 7 rfl rfl rfl ?_
        (try simp only [Act.put, nA, nB, nC])
        refine dr_one 8 (by kernel_rfl) rfl ?_
        (refine st_call rfl (by kernel_rfl) rfl ?_; go_at_call 25; refine (in24_any (S := All) L cL l.length (nats l) (q : Int) _ hS.rv (by simp [nats]) (by have := HM.out.asc; exact Nat.le_trans (nodup_lt_len 5 l (this.imp (fun h => Nat.ne_of_lt h)) (fun x hx => Nat.lt_of_lt_of_le (((HM.out.mem x).1 hx).closed (P := fun z => z < p.len.length) hr (fun z _ y hy => (srcL_mem.1 hy).1)) hn5)) (by omega))).mono ?_; rintro e w ⟨rfl, hx1⟩; rw [HB.out]; replace hS := hS.ext hx1; clear hx1)
        (try simp only [Act.put, nA, nB, nC])
        refine dr_end hS ?_
        refine dP hS 9 rfl rfl ?_
        (try simp only [Act.put, nA, nB, nC])
        refine dM hS 10 rfl rfl rfl ?_
        (try simp only [Act.put, nA, nB, nC])
        first | refine dP hS 11 rfl rfl ?_ | refine dQ hS 11 rfl rfl ?_
        (try simp only [Act.put, nA, nB, nC])
        first | refine dL1 hS 12 rfl rfl rfl rfl ?_ | refine dL2 hS 12 rfl rfl rfl rfl ?_ | refine dL3 hS 12 rfl rfl rfl ?_ | refine dL4 hS 12 rfl rfl rfl ?_ | refine dL5 hS 12 rfl rfl rfl ?_ | refine dL6 hS 12 rfl rfl rfl ?_ | refine dL7 hS 12 rfl rfl rfl ?_ | refine dQ hS 12 rfl rfl ?_
        (try simp only [Act.put, nA, nB, nC])
        first | refine dM hS 13 rfl rfl rfl ?_ | refine dQ hS 13 rfl rfl ?_
        (try simp only [Act.put, nA, nB, nC])
        first | refine dP hS 14 rfl rfl ?_ | refine dQ hS 14 rfl rfl ?_
        (try simp only [Act.put, nA, nB, nC])
        first | refine dL1 hS 15 rfl rfl rfl rfl ?_ | refine dL2 hS 15 rfl rfl rfl rfl ?_ | refine dL3 hS 15 rfl rfl rfl ?_ | refine dL4 hS 15 rfl rfl rfl ?_ | refine dL5 hS 15 rfl rfl rfl ?_ | refine dL6 hS 15 rfl rfl rfl ?_ | refine dL7 hS 15 rfl rfl rfl ?_ | refine dQ hS 15 rfl rfl ?_
        (try simp only [Act.put, nA, nB, nC])
        first | (refine dP hS 16 rfl rfl ?_; try rw [e2]) | refine dP hS 16 rfl rfl ?_ | refine dQ hS 16 rfl rfl ?_
        (try simp only [Act.put, nA, nB, nC])
        refine dP hS 17 rfl rfl ?_
        (try simp only [Act.put, nA, nB, nC])
        refine dM hS 18 rfl rfl rfl ?_
        (try simp only [Act.put, nA, nB, nC])
        first | refine dP hS 19 rfl rfl ?_ | refine dQ hS 19 rfl rfl ?_
        (try simp only [Act.put, nA, nB, nC])
        first | refine dL1 hS 20 rfl rfl rfl rfl ?_ | refine dL2 hS 20 rfl rfl rfl rfl ?_ | refine dL3 hS 20 rfl rfl rfl ?_ | refine dL4 hS 20 rfl rfl rfl ?_ | refine dL5 hS 20 rfl rfl rfl ?_ | refine dL6 hS 20 rfl rfl rfl ?_ | refine dL7 hS 20 rfl rfl rfl ?_ | refine dQ hS 20 rfl rfl ?_
        (try simp only [Act.put, nA, nB, nC])
        first | refine dM hS 21 rfl rfl rfl ?_ | refine dQ hS 21 rfl rfl ?_
        (try simp only [Act.put, nA, nB, nC])
        first | refine dP hS 22 rfl rfl ?_ | refine dQ hS 22 rfl rfl ?_
        (try simp only [Act.put, nA, nB, nC])
        first | refine dL1 hS 23 rfl rfl rfl rfl ?_ | refine dL2 hS 23 rfl rfl rfl rfl ?_ | refine dL3 hS 23 rfl rfl rfl ?_ | refine dL4 hS 23 rfl rfl rfl ?_ | refine dL5 hS 23 rfl rfl rfl ?_ | refine dL6 hS 23 rfl rfl rfl ?_ | refine dL7 hS 23 rfl rfl rfl ?_ | refine dQ hS 23 rfl rfl ?_
        (try simp only [Act.put, nA, nB, nC])
        refine dP hS 24 rfl rfl ?_
        (try simp only [Act.put, nA, nB, nC])
        refine dr_done (by kernel_rfl) ?_
        go_wp2_with (first | (refine oL ?_; (first | refine sL1 hS rfl rfl rfl ?_ | refine sL2 hS rfl rfl rfl ?_ | refine sL3 hS rfl rfl ?_ | refine sL4 hS rfl rfl ?_ | refine sL5 hS rfl rfl ?_ | refine sL6 hS rfl rfl ?_ | refine sL7 hS rfl rfl ?_)) | (refine oS ?_; ((first | refine sS1 hS rfl rfl rfl ?_ | refine sS2 hS rfl rfl rfl ?_ | refine sS3 hS rfl rfl rfl ?_ | refine sS4 hS rfl rfl rfl ?_ | refine sS5 hS rfl rfl rfl ?_); clear hS; intro w hS)) | ((first | refine sN1 hS rfl ?_); clear hS; first | ((fail_if_success guard_hyp g1); intro g1 w hS) | ((fail_if_success guard_hyp g2); intro g2 w hS) | ((fail_if_success guard_hyp g3); intro g3 w hS) | ((fail_if_success guard_hyp g4); intro g4 w hS) | fail) | fail)
        go_roundw
        case measure => simp [intOf]; try omega
        exact ⟨q + 1, by omega, by go_num, hS⟩
    · have hlt' : ¬ (q : Int) < p.len.length := by omega
      go_upto_region 14 with (first | (refine oL ?_; (first | refine sL1 hS rfl rfl rfl ?_ | refine sL2 hS rfl rfl rfl ?_ | refine sL3 hS rfl rfl ?_ | refine sL4 hS rfl rfl ?_ | refine sL5 hS rfl rfl ?_ | refine sL6 hS rfl rfl ?_ | refine sL7 hS rfl rfl ?_)) | (refine oS ?_; ((first | refine sS1 hS rfl rfl rfl ?_ | refine sS2 hS rfl rfl rfl ?_ | refine sS3 hS rfl rfl rfl ?_ | refine sS4 hS rfl rfl rfl ?_ | refine sS5 hS rfl rfl rfl ?_); clear hS; intro w hS)) | ((first | refine sN1 hS rfl ?_); clear hS; first | ((fail_if_success guard_hyp g1); intro g1 w hS) | ((fail_if_success guard_hyp g2); intro g2 w hS) | ((fail_if_success guard_hyp g3); intro g3 w hS) | ((fail_if_success guard_hyp g4); intro g4 w hS) | fail) | fail)
      refine lR ?_
      (refine ⟨?_⟩; ((first | refine sL1 hS rfl rfl rfl ?_ | refine sL2 hS rfl rfl rfl ?_ | refine sL3 hS rfl rfl ?_ | refine sL4 hS rfl rfl ?_ | refine sL5 hS rfl rfl ?_ | refine sL6 hS rfl rfl ?_ | refine sL7 hS rfl rfl ?_)); refine WL.h ?_)
      (try simp only [Act.put, nA, nB, nC])
      (refine ⟨?_⟩; (refine st_call rfl (by kernel_rfl) rfl ?_; go_at_call 37; refine (result_any ⟨B1, d1, B2, d2, B3, d3, U, uc, PA, pc, EA, ec, WA, wc, RA0, rc, CA, cc, DA, dc, FA, fc⟩ p t r _ (HE.out.2.into hS.frozInto) HG.out HE.out.1.l.d).mono ?_; rintro e w4 ⟨⟨D1, f1, D2, f2, D3, f3⟩, rfl, hpx, hxt⟩; simp only [PV.val]; obtain ⟨T3, hS2, hi1, hi0⟩ := hS.grow hxt; clear hS; have hS := hS2; clear hS2; have HX := Lib.hid (hpx.into hi1); have HI3 := Lib.hid hi0; clear hpx hi1 hi0 hxt); refine WL.h ?_)
      (try simp only [Act.put, nA, nB, nC])
      refine lM rfl rfl ?_
      (try simp only [Act.put, nA, nB, nC])
      refine lP rfl ?_
      (try simp only [Act.put, nA, nB, nC])
      refine lP rfl ?_
      (try simp only [Act.put, nA, nB, nC])
      (refine ⟨?_⟩; ((refine sN1 hS rfl ?_; clear hS; first | ((fail_if_success guard_hyp g1); intro g1 w hS) | ((fail_if_success guard_hyp g2); intro g2 w hS) | ((fail_if_success guard_hyp g3); intro g3 w hS) | ((fail_if_success guard_hyp g4); intro g4 w hS) | fail)); refine WL.h ?_)
      (try simp only [Act.put, nA, nB, nC])
      (refine ⟨?_⟩; (((first | refine sS1 hS rfl rfl rfl ?_ | refine sS2 hS rfl rfl rfl ?_ | refine sS3 hS rfl rfl rfl ?_ | refine sS4 hS rfl rfl rfl ?_ | refine sS5 hS rfl rfl rfl ?_); clear hS; intro w hS)); refine WL.h ?_)
      (try simp only [Act.put, nA, nB, nC])
      refine lA rfl rfl ?_
      (try simp only [Act.put, nA, nB, nC])
      refine lZ ?_
      have HGX := Lib.hid (resP_good HG.out t.dec p.len.length (Nat.le_refl _))
      have HXL := Lib.hid (And.intro (resP_len p t.dec p.len.length) (And.intro (resP_arcs p t.dec p.len.length) (resP_ckl p t.dec p.len.length)))
      have HCO := Lib.hid (fun hc => commit_cons HG.out (fun q => (HDC.out q).1) hc)
      generalize resP p t.dec p.len.length = x at *
      have HP3 := Lib.hid (HP2.out.into HI3.out)
      have HM3 := Lib.hid (intoTr HM2.out HI3.out)
      have HV := Lib.hid (And.intro (lastsL_valid HG.out) (show validB p.len (lastsL x) = true by rw [← HXL.out.1]; exact lastsL_valid HGX.out))
      have hxn : x.len.length = p.len.length := by rw [HXL.out.1]
      have HXN := Lib.hid hxn
      clear hxn hlt hlt' hq
      go_upto_region 15 with (first | (refine oL ?_; (first | refine sL1 hS rfl rfl rfl ?_ | refine sL2 hS rfl rfl rfl ?_ | refine sL3 hS rfl rfl ?_ | refine sL4 hS rfl rfl ?_ | refine sL5 hS rfl rfl ?_ | refine sL6 hS rfl rfl ?_ | refine sL7 hS rfl rfl ?_)) | (refine oS ?_; ((first | refine sS1 hS rfl rfl rfl ?_ | refine sS2 hS rfl rfl rfl ?_ | refine sS3 hS rfl rfl rfl ?_ | refine sS4 hS rfl rfl rfl ?_ | refine sS5 hS rfl rfl rfl ?_); clear hS; intro w hS)) | ((first | refine sN1 hS rfl ?_); clear hS; first | ((fail_if_success guard_hyp g1); intro g1 w hS) | ((fail_if_success guard_hyp g2); intro g2 w hS) | ((fail_if_success guard_hyp g3); intro g3 w hS) | ((fail_if_success guard_hyp g4); intro g4 w hS) | fail) | fail)
      refine dr_start0 []  hS (by kernel_rfl) rfl ?_; clear hS; intro w hS
      refine dM hS 0 rfl rfl rfl ?_
      (try simp only [Act.put, nA, nB, nC])
      refine dP hS 1 rfl rfl ?_
      (try simp only [Act.put, nA, nB, nC])
      refine dM hS 2 rfl rfl rfl ?_
      (try simp only [Act.put, nA, nB, nC])
      first | refine dL1 hS 3 rfl rfl rfl rfl ?_ | refine dL2 hS 3 rfl rfl rfl rfl ?_ | refine dL3 hS 3 rfl rfl rfl ?_ | refine dL4 hS 3 rfl rfl rfl ?_ | refine dL5 hS 3 rfl rfl rfl ?_ | refine dL6 hS 3 rfl rfl rfl ?_ | refine dL7 hS 3 rfl rfl rfl ?_ | refine dQ hS 3 rfl rfl ?_
      (try simp only [Act.put, nA, nB, nC])
      refine dr_one 4 (by kernel_rfl) rfl ?_
      (refine st_call rfl (by kernel_rfl) rfl ?_; go_at_call 41; refine (rcheck_any D1 f1 D2 f2 D3 f3 x _ (HX.out.into hS.frozInto) HGX.out).mono ?_; rintro e w ⟨rfl, hx1⟩; replace hS := hS.ext hx1; clear hx1)
      (try simp only [Act.put, nA, nB, nC])
      refine dr_end hS ?_
      first | refine dP hS 5 rfl rfl ?_ | refine dQ hS 5 rfl rfl ?_
      (try simp only [Act.put, nA, nB, nC])
      refine dP hS 6 rfl rfl ?_
      (try simp only [Act.put, nA, nB, nC])
      refine dM hS 7 rfl rfl rfl ?_
      (try simp only [Act.put, nA, nB, nC])
      first | refine dL1 hS 8 rfl rfl rfl rfl ?_ | refine dL2 hS 8 rfl rfl rfl rfl ?_ | refine dL3 hS 8 rfl rfl rfl ?_ | refine dL4 hS 8 rfl rfl rfl ?_ | refine dL5 hS 8 rfl rfl rfl ?_ | refine dL6 hS 8 rfl rfl rfl ?_ | refine dL7 hS 8 rfl rfl rfl ?_ | refine dQ hS 8 rfl rfl ?_
      (try simp only [Act.put, nA, nB, nC])
      first | refine dL1 hS 9 rfl rfl rfl rfl ?_ | refine dL2 hS 9 rfl rfl rfl rfl ?_ | refine dL3 hS 9 rfl rfl rfl ?_ | refine dL4 hS 9 rfl rfl rfl ?_ | refine dL5 hS 9 rfl rfl rfl ?_ | refine dL6 hS 9 rfl rfl rfl ?_ | refine dL7 hS 9 rfl rfl rfl ?_ | refine dQ hS 9 rfl rfl ?_
      (try simp only [Act.put, nA, nB, nC])
      refine dr_one 10 (by kernel_rfl) rfl ?_
      (refine st_call rfl (by kernel_rfl) rfl ?_; go_at_call 27; refine (lasts_any ⟨D1, f1, D2, f2, D3, f3⟩ x _ (HX.out.into hS.frozInto) HGX.out).mono ?_; rintro e w ⟨Lx, cx, he, ho, hx1⟩; rw [HXN.out] at he ho; subst he; replace hS := hS.addRow ho hx1; clear ho hx1)
      (try simp only [Act.put, nA, nB, nC])
      refine dr_end hS ?_
      refine dr_one 11 (by kernel_rfl) rfl ?_
      (refine st_call rfl (by kernel_rfl) rfl ?_; go_at_call 42; have hv := rvalid_any (S := T3) (T := All) A1 A2 A3 Lx c1 c2 c3 cx p.ck.length p.arcs.length p.len (lastsL x) _ (HP3.out.into hS.frozInto).len hS.ri hn5 (by rw [lastsL_len, HXN.out]; omega); rw [lastsL_len, HXN.out, HV.out.2] at hv; refine hv.mono ?_; clear hv; rintro e w ⟨rfl, hx1⟩; replace hS := hS.ext hx1; clear hx1)
      (try simp only [Act.put, nA, nB, nC])
      refine dr_end hS ?_
      first | refine dP hS 12 rfl rfl ?_ | refine dQ hS 12 rfl rfl ?_
      (try simp only [Act.put, nA, nB, nC])
      refine dP hS 13 rfl rfl ?_
      (try simp only [Act.put, nA, nB, nC])
      refine dr_done (by kernel_rfl) ?_
      go_upto_region 17 with (first | (refine oL ?_; (first | refine sL1 hS rfl rfl rfl ?_ | refine sL2 hS rfl rfl rfl ?_ | refine sL3 hS rfl rfl ?_ | refine sL4 hS rfl rfl ?_ | refine sL5 hS rfl rfl ?_ | refine sL6 hS rfl rfl ?_ | refine sL7 hS rfl rfl ?_)) | (refine oS ?_; ((first | refine sS1 hS rfl rfl rfl ?_ | refine sS2 hS rfl rfl rfl ?_ | refine sS3 hS rfl rfl rfl ?_ | refine sS4 hS rfl rfl rfl ?_ | refine sS5 hS rfl rfl rfl ?_); clear hS; intro w hS)) | ((first | refine sN1 hS rfl ?_); clear hS; first | ((fail_if_success guard_hyp g1); intro g1 w hS) | ((fail_if_success guard_hyp g2); intro g2 w hS) | ((fail_if_success guard_hyp g3); intro g3 w hS) | ((fail_if_success guard_hyp g4); intro g4 w hS) | fail) | fail)
      cases hb0 : consB p.arcs (lastsL p) with
      | false =>
        have HB0 := Lib.hid hb0
        clear hb0
        refine dr_start0 []  hS (by kernel_rfl) rfl ?_; clear hS; intro w hS
        first | refine dL1 hS 0 rfl rfl rfl rfl ?_ | refine dL2 hS 0 rfl rfl rfl rfl ?_ | refine dL3 hS 0 rfl rfl rfl ?_ | refine dL4 hS 0 rfl rfl rfl ?_ | refine dL5 hS 0 rfl rfl rfl ?_ | refine dL6 hS 0 rfl rfl rfl ?_ | refine dL7 hS 0 rfl rfl rfl ?_
        (try simp only [Act.put, nA, nB, nC])
        first | refine dL1 hS 1 rfl rfl rfl rfl ?_ | refine dL2 hS 1 rfl rfl rfl rfl ?_ | refine dL3 hS 1 rfl rfl rfl ?_ | refine dL4 hS 1 rfl rfl rfl ?_ | refine dL5 hS 1 rfl rfl rfl ?_ | refine dL6 hS 1 rfl rfl rfl ?_ | refine dL7 hS 1 rfl rfl rfl ?_
        (try simp only [Act.put, nA, nB, nC])
        refine dr_one 2 (by kernel_rfl) rfl ?_
        (refine st_call rfl (by kernel_rfl) rfl ?_; go_at_call 27; refine (lasts_any ⟨A1, c1, A2, c2, A3, c3⟩ p _ (HP3.out.into hS.frozInto) HG.out).mono ?_; rintro e w ⟨Ly, cy, rfl, ho, hx1⟩; replace hS := hS.addRow ho hx1; clear ho hx1)
        (try simp only [Act.put, nA, nB, nC])
        refine dr_end hS ?_
        refine dr_one 3 (by kernel_rfl) rfl ?_
        (refine st_call rfl (by kernel_rfl) rfl ?_; go_at_call 28; refine (rconsistent_n rfl rfl (HP3.out.into hS.frozInto) HG.out (hS.ri (A := Ly)) HV.out.1).mono ?_; rintro e w ⟨rfl, hx1⟩; rw [HB0.out]; replace hS := hS.ext hx1; clear hx1)
        (try simp only [Act.put, nA, nB, nC])
        refine dr_end hS ?_
        refine dP hS 4 rfl rfl ?_
        (try simp only [Act.put, nA, nB, nC])
        refine dM hS 5 rfl rfl rfl ?_
        (try simp only [Act.put, nA, nB, nC])
        first | refine dL1 hS 6 rfl rfl rfl rfl ?_ | refine dL2 hS 6 rfl rfl rfl rfl ?_ | refine dL3 hS 6 rfl rfl rfl ?_ | refine dL4 hS 6 rfl rfl rfl ?_ | refine dL5 hS 6 rfl rfl rfl ?_ | refine dL6 hS 6 rfl rfl rfl ?_ | refine dL7 hS 6 rfl rfl rfl ?_ | refine dQ hS 6 rfl rfl ?_
        (try simp only [Act.put, nA, nB, nC])
        first | refine dL1 hS 7 rfl rfl rfl rfl ?_ | refine dL2 hS 7 rfl rfl rfl rfl ?_ | refine dL3 hS 7 rfl rfl rfl ?_ | refine dL4 hS 7 rfl rfl rfl ?_ | refine dL5 hS 7 rfl rfl rfl ?_ | refine dL6 hS 7 rfl rfl rfl ?_ | refine dL7 hS 7 rfl rfl rfl ?_ | refine dQ hS 7 rfl rfl ?_
        (try simp only [Act.put, nA, nB, nC])
        refine dr_one 8 (by kernel_rfl) rfl ?_
        refine WL.h (lQ rfl ⟨?_⟩)
        (try simp only [Act.put, nA, nB, nC])
        refine dr_end hS ?_
        refine dr_one 9 (by kernel_rfl) rfl ?_
        refine WL.h (lQ rfl ⟨?_⟩)
        (try simp only [Act.put, nA, nB, nC])
        refine dr_end hS ?_
        refine dP hS 10 rfl rfl ?_
        (try simp only [Act.put, nA, nB, nC])
        refine dA hS 11 rfl rfl rfl ?_
        (try simp only [Act.put, nA, nB, nC])
        refine dr_done (by kernel_rfl) ?_
        go_wp2_with (first | (refine oL ?_; (first | refine sL1 hS rfl rfl rfl ?_ | refine sL2 hS rfl rfl rfl ?_ | refine sL3 hS rfl rfl ?_ | refine sL4 hS rfl rfl ?_ | refine sL5 hS rfl rfl ?_ | refine sL6 hS rfl rfl ?_ | refine sL7 hS rfl rfl ?_)) | (refine oS ?_; ((first | refine sS1 hS rfl rfl rfl ?_ | refine sS2 hS rfl rfl rfl ?_ | refine sS3 hS rfl rfl rfl ?_ | refine sS4 hS rfl rfl rfl ?_ | refine sS5 hS rfl rfl rfl ?_); clear hS; intro w hS)) | ((first | refine sN1 hS rfl ?_); clear hS; first | ((fail_if_success guard_hyp g1); intro g1 w hS) | ((fail_if_success guard_hyp g2); intro g2 w hS) | ((fail_if_success guard_hyp g3); intro g3 w hS) | ((fail_if_success guard_hyp g4); intro g4 w hS) | fail) | fail)
        go_ret
        exact ⟨rfl, hS.extF (intoTr HM3.out hS.ornF)⟩
      | true =>
        have HB0 := Lib.hid hb0
        have HC1 := Lib.hid (HCO.out hb0)
        clear hb0
        refine dr_start0 []  hS (by kernel_rfl) rfl ?_; clear hS; intro w hS
        first | refine dL1 hS 0 rfl rfl rfl rfl ?_ | refine dL2 hS 0 rfl rfl rfl rfl ?_ | refine dL3 hS 0 rfl rfl rfl ?_ | refine dL4 hS 0 rfl rfl rfl ?_ | refine dL5 hS 0 rfl rfl rfl ?_ | refine dL6 hS 0 rfl rfl rfl ?_ | refine dL7 hS 0 rfl rfl rfl ?_
        (try simp only [Act.put, nA, nB, nC])
        first | refine dL1 hS 1 rfl rfl rfl rfl ?_ | refine dL2 hS 1 rfl rfl rfl rfl ?_ | refine dL3 hS 1 rfl rfl rfl ?_ | refine dL4 hS 1 rfl rfl rfl ?_ | refine dL5 hS 1 rfl rfl rfl ?_ | refine dL6 hS 1 rfl rfl rfl ?_ | refine dL7 hS 1 rfl rfl rfl ?_
        (try simp only [Act.put, nA, nB, nC])
        refine dr_one 2 (by kernel_rfl) rfl ?_
        (refine st_call rfl (by kernel_rfl) rfl ?_; go_at_call 27; refine (lasts_any ⟨A1, c1, A2, c2, A3, c3⟩ p _ (HP3.out.into hS.frozInto) HG.out).mono ?_; rintro e w ⟨Ly, cy, rfl, ho, hx1⟩; replace hS := hS.addRow ho hx1; clear ho hx1)
        (try simp only [Act.put, nA, nB, nC])
        refine dr_end hS ?_
        refine dr_one 3 (by kernel_rfl) rfl ?_
        (refine st_call rfl (by kernel_rfl) rfl ?_; go_at_call 28; refine (rconsistent_n rfl rfl (HP3.out.into hS.frozInto) HG.out (hS.ri (A := Ly)) HV.out.1).mono ?_; rintro e w ⟨rfl, hx1⟩; rw [HB0.out]; replace hS := hS.ext hx1; clear hx1)
        (try simp only [Act.put, nA, nB, nC])
        refine dr_end hS ?_
        refine dP hS 4 rfl rfl ?_
        (try simp only [Act.put, nA, nB, nC])
        refine dM hS 5 rfl rfl rfl ?_
        (try simp only [Act.put, nA, nB, nC])
        first | refine dL1 hS 6 rfl rfl rfl rfl ?_ | refine dL2 hS 6 rfl rfl rfl rfl ?_ | refine dL3 hS 6 rfl rfl rfl ?_ | refine dL4 hS 6 rfl rfl rfl ?_ | refine dL5 hS 6 rfl rfl rfl ?_ | refine dL6 hS 6 rfl rfl rfl ?_ | refine dL7 hS 6 rfl rfl rfl ?_ | refine dQ hS 6 rfl rfl ?_
        (try simp only [Act.put, nA, nB, nC])
        first | refine dL1 hS 7 rfl rfl rfl rfl ?_ | refine dL2 hS 7 rfl rfl rfl rfl ?_ | refine dL3 hS 7 rfl rfl rfl ?_ | refine dL4 hS 7 rfl rfl rfl ?_ | refine dL5 hS 7 rfl rfl rfl ?_ | refine dL6 hS 7 rfl rfl rfl ?_ | refine dL7 hS 7 rfl rfl rfl ?_ | refine dQ hS 7 rfl rfl ?_
        (try simp only [Act.put, nA, nB, nC])
        refine dr_one 8 (by kernel_rfl) rfl ?_
        (refine st_call rfl (by kernel_rfl) rfl ?_; go_at_call 27; refine (lasts_any ⟨D1, f1, D2, f2, D3, f3⟩ x _ (HX.out.into hS.frozInto) HGX.out).mono ?_; rintro e w ⟨Lz, cz, he, ho, hx1⟩; rw [HXN.out] at he ho; subst he; replace hS := hS.addRow ho hx1; clear ho hx1)
        (try simp only [Act.put, nA, nB, nC])
        refine dr_end hS ?_
        refine dr_one 9 (by kernel_rfl) rfl ?_
        (refine st_call rfl (by kernel_rfl) rfl ?_; go_at_call 29; refine (consistent_n rfl rfl rfl (HP3.out.into hS.frozInto) HG.out (hS.ri (A := Lz)) HV.out.2).mono ?_; rintro e w ⟨rfl, hx1⟩; rw [HC1.out]; replace hS := hS.ext hx1; clear hx1)
        (try simp only [Act.put, nA, nB, nC])
        refine dr_end hS ?_
        refine dP hS 10 rfl rfl ?_
        (try simp only [Act.put, nA, nB, nC])
        refine dA hS 11 rfl rfl rfl ?_
        (try simp only [Act.put, nA, nB, nC])
        refine dr_done (by kernel_rfl) ?_
        go_wp2_with (first | (refine oL ?_; (first | refine sL1 hS rfl rfl rfl ?_ | refine sL2 hS rfl rfl rfl ?_ | refine sL3 hS rfl rfl ?_ | refine sL4 hS rfl rfl ?_ | refine sL5 hS rfl rfl ?_ | refine sL6 hS rfl rfl ?_ | refine sL7 hS rfl rfl ?_)) | (refine oS ?_; ((first | refine sS1 hS rfl rfl rfl ?_ | refine sS2 hS rfl rfl rfl ?_ | refine sS3 hS rfl rfl rfl ?_ | refine sS4 hS rfl rfl rfl ?_ | refine sS5 hS rfl rfl rfl ?_); clear hS; intro w hS)) | ((first | refine sN1 hS rfl ?_); clear hS; first | ((fail_if_success guard_hyp g1); intro g1 w hS) | ((fail_if_success guard_hyp g2); intro g2 w hS) | ((fail_if_success guard_hyp g3); intro g3 w hS) | ((fail_if_success guard_hyp g4); intro g4 w hS) | fail) | fail)
        go_ret
        exact ⟨rfl, hS.extF (intoTr HM3.out hS.ornF)⟩
open Go.ChangeShapes Go.WideShapes Go.ChangeAt
set_option maxRecDepth 100000 in
theorem lifted_TwophaseCommits (os : Os) (started : os.Started) (H : Type) (enc : TypeId × Value → H) :
    ReturnsInHanded {} Try.checked os 10 .any (Rows.twophaseCommitsSpec.pre6 enc Try.prog Try.f10 Rows.twophaseCommitsRow.domain false) (Rows.twophaseCommitsSpec.post enc Try.prog Try.f10 false true false false) := by
  refine law_lifted (C := Try.checked) (s := Rows.twophaseCommitsSpec) (tb := 4) (by kernel_rfl) started (by kernel_rfl) Try.func10
      (ChangeSpec.witness6 (enc := enc) (C := Try.checked) false ⟨#[], #[.slice none 0 0, .int .i64 0, .slice none 0 0], []⟩ 8 (by kernel_rfl) (by kernel_rfl) (by kernel_rfl) (by kernel_rfl))
      (by kernel_rfl) rfl rfl Try.underlying4 (read_of (by kernel_rfl)) ?_ ?_
  · intro ds hl
    match ds, hl with
    | [d0, d1, d2], _ => exact ⟨rfl, rfl, rfl⟩
  · intro W base args ds p hval0 hA0
    have hval : ∀ (j : Nat) t v, Try.f10.params[j]? = some t → args[j]? = some v → Value.okWide Try.prog W .any base t v := hval0
    have hA : DataW.TrodAll enc Try.prog W 0 (fun _ => true) true Try.f10.params.toList args.toList ds p := hA0
    clear hA0 hval0
    rw [Try.params10] at hA hval
    obtain ⟨v0, v1, v2, d0, d1, d2, p0, p1, p2, rfl, rfl, rfl, h0, h1, h2⟩ := trodAll_three hA
    obtain ⟨A0, c0, xs0, rfl, hri0, hc0, hd0, hwf0⟩ := open_nums Try.underlying31 Try.underlying5 (by kernel_rfl) (hval 0 _ v0 rfl rfl) h0
    obtain ⟨x1, rfl, _, _, hz1⟩ := open_int Try.underlying3 (hval 1 _ v1 rfl rfl) h1
    obtain ⟨A2, c2, xs2, rfl, hri2, hc2, hd2, hwf2⟩ := open_nums Try.underlying31 Try.underlying5 (by kernel_rfl) (hval 2 _ v2 rfl rfl) h2
    exact twophaseCommits_any A0 c0 xs0 x1 A2 c2 xs2 W hri0 hc0 hd0 (fun b hb => u8_bd (hwf0 b hb)) (i64_bd hz1) hri2 hc2 hd2 (fun b hb => u8_bd (hwf2 b hb))
/-- TwophaseCommits returns true for every input, and leaves its arguments as they were. -/
theorem proved_TwophaseCommits : Rows.TwophaseCommitsSaid :=
  OpenClaim.holds_of_wide 10 Try.f10 rfl rfl rfl rfl rfl rfl rfl ⟨rfl, rfl, rfl, rfl, rfl⟩ rfl rfl rfl rfl rfl (by kernel_rfl) Try.func10 (by kernel_rfl)
    (of_decide_eq_true (by kernel_rfl)) (by unfold Func.isWrapper; rw [if_neg (by decide +kernel)]; exact ⟨rfl, rfl⟩)
    (fun os started H enc _ => lifted_TwophaseCommits os started H enc)
end Go.Proofs.Ytmjmdncdmmcmaaa
