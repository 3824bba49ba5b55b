/- twophase.Result where nothing is in flight. Conditions: the machine lies in memory, its pattern is a good one. -/
import Derived.Test.YtmjmdncdmmcmaaaTwX
import Derived.Test.YtmjmdncdmmcmaaaMark
import Derived.Test.YtmjmdncdmmcmaaaTwV
namespace Go.Proofs.Ytmjmdncdmmcmaaa
open Go.RowKit Tph
set_option linter.unusedVariables false
set_option linter.unusedSimpArgs false
set_option linter.unusedSectionVars false

/-- the pattern with the permanent checkpoints of the first k processes -/
def resP (p : Pat) (dec : List Int) : Nat → Pat
  | 0 => p
  | k + 1 => if nth dec k = 1 then (resP p dec k).mark k else resP p dec k
theorem resP_len (p : Pat) (dec : List Int) : ∀ k, (resP p dec k).len = p.len
  | 0 => rfl
  | k + 1 => by
    unfold resP
    split
    · rw [Pat.mark_len]; exact resP_len p dec k
    · exact resP_len p dec k
theorem resP_arcs (p : Pat) (dec : List Int) : ∀ k, (resP p dec k).arcs = p.arcs
  | 0 => rfl
  | k + 1 => by
    unfold resP
    split
    · rw [Pat.mark_arcs]; exact resP_arcs p dec k
    · exact resP_arcs p dec k
theorem resP_ckl (p : Pat) (dec : List Int) : ∀ k, (resP p dec k).ck.length = p.ck.length
  | 0 => rfl
  | k + 1 => by
    unfold resP
    split
    · rw [Pat.mark_ckl]; exact resP_ckl p dec k
    · exact resP_ckl p dec k
theorem resP_good {p : Pat} (hg : Good p) (dec : List Int) : ∀ k, k ≤ p.len.length → Good (resP p dec k)
  | 0, _ => hg
  | k + 1, h => by
    unfold resP
    split
    · exact (resP_good hg dec k (by omega)).mark (by rw [resP_len]; omega)
    · exact resP_good hg dec k (by omega)
def RetR (S : Nat → Prop) (w0 : World) (p : Pat) (e : Ending) (w' : World) : Prop := ∃ v : PV, e = .returned (.tuple #[v.val p, .bool true]) ∧ PatAt (Orn S w0) w' v p ∧ Ext w0 w'
set_option maxRecDepth 100000 in
set_option maxHeartbeats 6400000 in
theorem result_any {S : Nat → Prop} (x : TX) (p : Pat) (t : TS) (r : Nat) (w0 : World) (h : TpAt S w0 x p t) (hg : Good p) (hd : t.dec.length = p.len.length) :
    Calls Try.prog 37 #[x.val p r p.len.length 0] w0 (RetR S w0 (resP p t.dec p.len.length)) := by
  have hS := St.startF w0 S
  obtain ⟨B1, d1, B2, d2, B3, d3, U, uc, PA, pc, EA, ec, WA, wc, RA0, rc, CA, cc, DA, dc, FA, fc⟩ := x
  obtain ⟨root, unw, par, tent, aw, ref, ch, dec, fl⟩ := t
  have HT := Lib.hid (And.intro h.here.pat hg)
  have HDEC := Lib.hid (show RI (fun k => S k ∧ k < w0.heap.size) w0 DA dec from h.here.dec)
  have hn5 := hg.n5
  have HD := Lib.hid (show dec.length = p.len.length from hd)
  clear hd
  simp only [TX.val, TX.cells]
  clear h hg
  go_enter Try.func37, Try.ntmps37
  go_wp2_with (first | (refine oL ?_; refine st_ldp (us := [.slice B1 p.len.length d1, .slice B2 p.ck.length d2, .slice B3 p.arcs.length d3]) hS rfl rfl (by rfl) rfl ?_) | (refine oL ?_; ((refine sL1 hS rfl rfl rfl ?_))) | (refine oS ?_; (((refine sS4 hS rfl rfl rfl ?_)); clear hS; intro w hS)) | ((first | (refine oB ?_; (refine sB1 hS rfl rfl ?_)) | refine sN1 hS rfl ?_); clear hS; first | ((fail_if_success guard_hyp g1); intro g1 w hS) | ((fail_if_success guard_hyp g2); intro g2 w hS) | ((fail_if_success guard_hyp g3); intro g3 w hS)))
  go_loopw [5, 6, 17] (fun s5 s6 s17 wr => ∃ (q : Nat) (C1 : Option Addr) (e1 : Nat) (C2 : Option Addr) (e2 : Nat) (C3 : Option Addr) (e3 : Nat) (T : Nat → Prop) (u : World), q ≤ p.len.length ∧ s17 = .int .i64 q ∧ Hid (PatAt T u ⟨C1, e1, C2, e2, C3, e3⟩ (resP p dec q) ∧ Into (fun k => S k ∧ k < w0.heap.size) T w0 u) ∧ St w0 (fun k => S k ∧ k < w0.heap.size) [blk g3 [.slice C1 p.len.length e1, .slice C2 p.ck.length e2, .slice C3 p.arcs.length e3] 44, blk g2 [.slice none 0 0, .slice none 0 0, .slice none 0 0] 44, froz T u] wr) (fun _ _ s17 _ => p.len.length - (intOf s17).toNat)
  case atStart => exact ⟨0, B1, d1, B2, d2, B3, d3, _, w0, by omega, rfl, Lib.hid ⟨HT.out.1, fun k hk hl => ⟨hk, rfl⟩⟩, hS.re⟩
  case round =>
    clear hS
    obtain ⟨q, C1, e1, C2, e2, C3, e3, T, u, hq, rfl, HR, hS⟩ := hrel
    by_cases hlt : q < p.len.length
    · have hlt' : (q : Int) < p.len.length := by omega
      obtain ⟨bD, oD, rfl, hfc⟩ := (RI.into HDEC.out HR.out.2).fc (k := q) (by rw [HD.out]; exact hlt)
      have HST := Lib.hid (show resP p dec (q + 1) = if nth dec q = 1 then (resP p dec q).mark q else resP p dec q from rfl)
      have HGQ := Lib.hid (resP_good HT.out.2 dec q (by omega))
      have HLQ := Lib.hid (And.intro (congrArg List.length (resP_len p dec q)) (And.intro (resP_ckl p dec q) (congrArg List.length (resP_arcs p dec q))))
      by_cases h1 : nth dec q = 1
      · have ee : (nth dec q == 1) = true := by simp [h1]
        have HS1 := Lib.hid (HST.out.trans (if_pos h1))
        have HMK := Lib.hid (show markI (resP p dec q) (q : Int) = resP p dec (q + 1) by rw [markI, if_pos ⟨by omega, by rw [HLQ.out.1]; exact hlt'⟩, Int.toNat_natCast, HS1.out])
        have HL2 := Lib.hid (And.intro (congrArg List.length (resP_len p dec (q + 1))) (And.intro (resP_ckl p dec (q + 1)) (congrArg List.length (resP_arcs p dec (q + 1)))))
        clear HST HS1 h1
        generalize nth dec q = z at *
        have HCALL := Lib.hid (fun (w : World) (hp : PatAt T w ⟨C1, e1, C2, e2, C3, e3⟩ (resP p dec q)) => mark_any ⟨C1, e1, C2, e2, C3, e3⟩ (resP p dec q) (q : Int) w hp HGQ.out)
        simp only [PV.val, HLQ.out.1, HLQ.out.2.1, HLQ.out.2.2, HMK.out] at HCALL
        generalize hpq : resP p dec q = pq at *
        generalize hpq2 : resP p dec (q + 1) = pq2 at *
        have HPQ := Lib.hid (And.intro hpq hpq2)
        clear hpq hpq2 HMK
        go_wp2_with (first | (go_at_call 75; refine (HCALL.out _ (HR.out.1.into hS.frozInto)).mono ?_; rintro e w2 ⟨⟨D1, f1, D2, f2, D3, f3⟩, rfl, hpa, hx1⟩; simp only [PV.val]; rw [HL2.out.1, HL2.out.2.1, HL2.out.2.2]; obtain ⟨T2, hS2, hi1, hi0⟩ := hS.grow hx1; clear hS; have hS := hS2; clear hS2; have HR2 := Lib.hid (And.intro (hpa.into hi1) (intoTr HR.out.2 hi0)); clear hpa hi1 hi0 hx1) | (refine oL ?_; (first | refine sL2 hS rfl rfl rfl ?_ | refine sL7 hS rfl rfl ?_)) | (refine oS ?_; (((refine sS4 hS rfl rfl rfl ?_)); clear hS; intro w hS)))
        go_roundw
        case measure => simp [intOf]; try omega
        exact ⟨q + 1, D1, f1, D2, f2, D3, f3, T2, _, by omega, by go_num, Lib.hid ⟨by rw [HPQ.out.2]; exact HR2.out.1, HR2.out.2⟩, hS.re⟩
      · have ee : (nth dec q == 1) = false := by simp [h1]
        have HS1 := Lib.hid (HST.out.trans (if_neg h1))
        clear HST h1
        generalize nth dec q = z at *
        go_wp2_with (((refine oL ?_; ((refine sL7 hS rfl rfl ?_)))))
        go_roundw
        case measure => simp [intOf]; try omega
        exact ⟨q + 1, C1, e1, C2, e2, C3, e3, T, u, by omega, by go_num, Lib.hid ⟨by rw [HS1.out]; exact HR.out.1, HR.out.2⟩, hS.re⟩
    · have hlt' : ¬ (q : Int) < p.len.length := by omega
      have HE := Lib.hid (show PatAt T u ⟨C1, e1, C2, e2, C3, e3⟩ (resP p dec p.len.length) by have := HR.out.1; rwa [show q = p.len.length by omega] at this)
      go_wp2_with (first | (refine oL ?_; ((refine sL2 hS rfl rfl rfl ?_))) | (refine oS ?_; (((refine sS4 hS rfl rfl rfl ?_)); clear hS; intro w hS)))
      refine st_retCT hS rfl rfl rfl rfl rfl ?_
      refine ⟨⟨C1, e1, C2, e2, C3, e3⟩, ?_, HE.out.into hS.ornF, hS.extF (intoTr HR.out.2 hS.ornF)⟩
      simp only [PV.val, resP_len, resP_ckl, resP_arcs]
end Go.Proofs.Ytmjmdncdmmcmaaa

/- rollbacknetref24.Result; Result while notes are in flight; Deliver at a place where there is no note. Conditions: the machine lies in memory. -/
namespace Go.Proofs.Ytmjmdncdmmcmaaa
open Go.RowKit Tph
set_option linter.unusedVariables false
set_option linter.unusedSimpArgs false
set_option linter.unusedSectionVars false

set_option maxRecDepth 100000 in
set_option maxHeartbeats 6400000 in
theorem rresult_any {S : Nat → Prop} (x : TX) (p : Pat) (t : TS) (r : Nat) (w0 : World) (h : TpAt S w0 x p t) (hg : Good p) (hd : t.dec.length = p.len.length) :
    Calls Try.prog 38 #[x.val p r p.len.length 0] w0 (RetR S w0 (resP p t.dec p.len.length)) := by
  have hS := St.startF w0 S
  obtain ⟨B1, d1, B2, d2, B3, d3, U, uc, PA, pc, EA, ec, WA, wc, RA0, rc, CA, cc, DA, dc, FA, fc⟩ := x
  obtain ⟨root, unw, par, tent, aw, ref, ch, dec, fl⟩ := t
  have HT := Lib.hid (And.intro h.here.pat hg)
  have HDEC := Lib.hid (show RI (fun k => S k ∧ k < w0.heap.size) w0 DA dec from h.here.dec)
  have hn5 := hg.n5
  have HD := Lib.hid (show dec.length = p.len.length from hd)
  clear hd
  simp only [TX.val, TX.cells]
  clear h hg
  go_enter Try.func38, Try.ntmps38
  go_wp2_with (first | (refine oL ?_; refine st_ldp (us := [.slice B1 p.len.length d1, .slice B2 p.ck.length d2, .slice B3 p.arcs.length d3]) hS rfl rfl (by rfl) rfl ?_) | (refine oL ?_; ((refine sL1 hS rfl rfl rfl ?_))) | (refine oS ?_; (((refine sS4 hS rfl rfl rfl ?_)); clear hS; intro w hS)) | ((first | (refine oB ?_; (refine sB1 hS rfl rfl ?_)) | refine sN1 hS rfl ?_); clear hS; first | ((fail_if_success guard_hyp g1); intro g1 w hS) | ((fail_if_success guard_hyp g2); intro g2 w hS) | ((fail_if_success guard_hyp g3); intro g3 w hS)))
  go_loopw [5] (fun s17 wr => ∃ (q : Nat) (C1 : Option Addr) (e1 : Nat) (C2 : Option Addr) (e2 : Nat) (C3 : Option Addr) (e3 : Nat) (T : Nat → Prop) (u : World), q ≤ p.len.length ∧ s17 = .int .i64 q ∧ Hid (PatAt T u ⟨C1, e1, C2, e2, C3, e3⟩ (resP p dec q) ∧ Into (fun k => S k ∧ k < w0.heap.size) T w0 u) ∧ St w0 (fun k => S k ∧ k < w0.heap.size) [blk g3 [.slice C1 p.len.length e1, .slice C2 p.ck.length e2, .slice C3 p.arcs.length e3] 44, blk g2 [.slice none 0 0, .slice none 0 0, .slice none 0 0] 44, blk g1 [.slice B1 p.len.length d1, .slice B2 p.ck.length d2, .slice B3 p.arcs.length d3, .int .i64 (r : Int), .slice U p.len.length uc, .slice PA p.len.length pc, .slice EA p.len.length ec, .slice WA p.len.length wc, .slice RA0 p.len.length rc, .slice CA p.len.length cc, .slice DA p.len.length dc, .slice FA 0 fc] 55, froz T u] wr) (fun s17 _ => p.len.length - (intOf s17).toNat)
  case atStart => exact ⟨0, B1, d1, B2, d2, B3, d3, _, w0, by omega, rfl, Lib.hid ⟨HT.out.1, fun k hk hl => ⟨hk, rfl⟩⟩, hS.re⟩
  case round =>
    clear hS
    obtain ⟨q, C1, e1, C2, e2, C3, e3, T, u, hq, rfl, HR, hS⟩ := hrel
    by_cases hlt : q < p.len.length
    · have hlt' : (q : Int) < p.len.length := by omega
      obtain ⟨bD, oD, rfl, hfc⟩ := (RI.into HDEC.out HR.out.2).fc (k := q) (by rw [HD.out]; exact hlt)
      have HST := Lib.hid (show resP p dec (q + 1) = if nth dec q = 1 then (resP p dec q).mark q else resP p dec q from rfl)
      have HGQ := Lib.hid (resP_good HT.out.2 dec q (by omega))
      have HLQ := Lib.hid (And.intro (congrArg List.length (resP_len p dec q)) (And.intro (resP_ckl p dec q) (congrArg List.length (resP_arcs p dec q))))
      by_cases h1 : nth dec q = 1
      · have ee : (nth dec q == 1) = true := by simp [h1]
        have HS1 := Lib.hid (HST.out.trans (if_pos h1))
        have HMK := Lib.hid (show markI (resP p dec q) (q : Int) = resP p dec (q + 1) by rw [markI, if_pos ⟨by omega, by rw [HLQ.out.1]; exact hlt'⟩, Int.toNat_natCast, HS1.out])
        have HL2 := Lib.hid (And.intro (congrArg List.length (resP_len p dec (q + 1))) (And.intro (resP_ckl p dec (q + 1)) (congrArg List.length (resP_arcs p dec (q + 1)))))
        clear HST HS1 h1
        generalize nth dec q = z at *
        have HCALL := Lib.hid (fun (w : World) (hp : PatAt T w ⟨C1, e1, C2, e2, C3, e3⟩ (resP p dec q)) => rmark_any ⟨C1, e1, C2, e2, C3, e3⟩ (resP p dec q) (q : Int) w hp HGQ.out)
        simp only [PV.val, HLQ.out.1, HLQ.out.2.1, HLQ.out.2.2, HMK.out] at HCALL
        generalize hpq : resP p dec q = pq at *
        generalize hpq2 : resP p dec (q + 1) = pq2 at *
        have HPQ := Lib.hid (And.intro hpq hpq2)
        clear hpq hpq2 HMK
        go_wp2_with (first | (go_at_call 76; refine (HCALL.out _ (HR.out.1.into hS.frozInto)).mono ?_; rintro e w2 ⟨⟨D1, f1, D2, f2, D3, f3⟩, rfl, hpa, hx1⟩; simp only [PV.val]; rw [HL2.out.1, HL2.out.2.1, HL2.out.2.2]; obtain ⟨T2, hS2, hi1, hi0⟩ := hS.grow hx1; clear hS; have hS := hS2; clear hS2; have HR2 := Lib.hid (And.intro (hpa.into hi1) (intoTr HR.out.2 hi0)); clear hpa hi1 hi0 hx1) | (refine oL ?_; (first | refine sL1 hS rfl rfl rfl ?_ | refine sL2 hS rfl rfl rfl ?_ | refine sL7 hS rfl rfl ?_)) | (refine oS ?_; (((refine sS4 hS rfl rfl rfl ?_)); clear hS; intro w hS)))
        go_roundw
        case measure => simp [intOf]; try omega
        exact ⟨q + 1, D1, f1, D2, f2, D3, f3, T2, _, by omega, by go_num, Lib.hid ⟨by rw [HPQ.out.2]; exact HR2.out.1, HR2.out.2⟩, hS.re⟩
      · have ee : (nth dec q == 1) = false := by simp [h1]
        have HS1 := Lib.hid (HST.out.trans (if_neg h1))
        clear HST h1
        generalize nth dec q = z at *
        go_wp2_with (((refine oL ?_; (first | refine sL1 hS rfl rfl rfl ?_ | refine sL7 hS rfl rfl ?_))))
        go_roundw
        case measure => simp [intOf]; try omega
        exact ⟨q + 1, C1, e1, C2, e2, C3, e3, T, u, by omega, by go_num, Lib.hid ⟨by rw [HS1.out]; exact HR.out.1, HR.out.2⟩, hS.re⟩
    · have hlt' : ¬ (q : Int) < p.len.length := by omega
      have HE := Lib.hid (show PatAt T u ⟨C1, e1, C2, e2, C3, e3⟩ (resP p dec p.len.length) by have := HR.out.1; rwa [show q = p.len.length by omega] at this)
      go_wp2_with (first | (refine oL ?_; (first | refine sL1 hS rfl rfl rfl ?_ | refine sL2 hS rfl rfl rfl ?_)) | (refine oS ?_; (((refine sS4 hS rfl rfl rfl ?_)); clear hS; intro w hS)))
      refine st_retCT hS rfl rfl rfl rfl rfl ?_
      refine ⟨⟨C1, e1, C2, e2, C3, e3⟩, ?_, HE.out.into hS.ornF, hS.extF (intoTr HR.out.2 hS.ornF)⟩
      simp only [PV.val, resP_len, resP_ckl, resP_arcs]
/-- no result yet -/
def RetZ (w0 : World) (e : Ending) (w' : World) : Prop := e = .returned (.tuple #[.agg #[.slice none 0 0, .slice none 0 0, .slice none 0 0], .bool false]) ∧ Ext w0 w'
/-- a refused delivery -/
def RetX (w0 : World) (e : Ending) (w' : World) : Prop := e = .returned (.tuple #[.agg tp0.toArray, .int .i64 11]) ∧ Ext w0 w'
set_option maxRecDepth 100000 in
set_option maxHeartbeats 6400000 in
theorem result0_any (x : TX) (p : Pat) (r n nf : Nat) (w0 : World) (hf : 0 < nf) :
    Calls Try.prog 37 #[x.val p r n nf] w0 (RetZ w0) := by
  have hS := St.start w0 NoM
  obtain ⟨B1, d1, B2, d2, B3, d3, U, uc, PA, pc, EA, ec, WA, wc, RA0, rc, CA, cc, DA, dc, FA, fc⟩ := x
  simp only [TX.val, TX.cells]
  have h0 : (0 : Int) < (nf : Int) := by omega
  go_enter Try.func37, Try.ntmps37
  go_wp2_with (first | (refine oL ?_; ((refine sL1 hS rfl rfl rfl ?_))) | (refine oS ?_; (((refine sS4 hS rfl rfl rfl ?_)); clear hS; intro w hS)) | ((first | (refine oB ?_; (refine sB1 hS rfl rfl ?_)) | refine sN1 hS rfl ?_); clear hS; first | ((fail_if_success guard_hyp g1); intro g1 w hS) | ((fail_if_success guard_hyp g2); intro g2 w hS)))
  refine st_retCT hS rfl rfl rfl rfl rfl ?_
  exact ⟨rfl, hS.toExt⟩
set_option maxRecDepth 100000 in
set_option maxHeartbeats 6400000 in
theorem rresult0_any (x : TX) (p : Pat) (r n nf : Nat) (w0 : World) (hf : 0 < nf) :
    Calls Try.prog 38 #[x.val p r n nf] w0 (RetZ w0) := by
  have hS := St.start w0 NoM
  obtain ⟨B1, d1, B2, d2, B3, d3, U, uc, PA, pc, EA, ec, WA, wc, RA0, rc, CA, cc, DA, dc, FA, fc⟩ := x
  simp only [TX.val, TX.cells]
  have h0 : (0 : Int) < (nf : Int) := by omega
  go_enter Try.func38, Try.ntmps38
  go_wp2_with (first | (refine oL ?_; ((refine sL1 hS rfl rfl rfl ?_))) | (refine oS ?_; (((refine sS4 hS rfl rfl rfl ?_)); clear hS; intro w hS)) | ((first | (refine oB ?_; (refine sB1 hS rfl rfl ?_)) | refine sN1 hS rfl ?_); clear hS; first | ((fail_if_success guard_hyp g1); intro g1 w hS) | ((fail_if_success guard_hyp g2); intro g2 w hS)))
  refine st_retCT hS rfl rfl rfl rfl rfl ?_
  exact ⟨rfl, hS.toExt⟩
set_option maxRecDepth 100000 in
set_option maxHeartbeats 6400000 in
theorem deliver0_any (x : TX) (p : Pat) (r n nf : Nat) (z : Int) (w0 : World) (hz : z < 0 ∨ (nf : Int) ≤ z) :
    Calls Try.prog 34 #[x.val p r n nf, .int .i64 z] w0 (RetX w0) := by
  have hS := St.start w0 NoM
  have hmf : ∀ (fn : Fn) (first cap : Array Value) (w : World), (Instr.makeFunc fn first cap).run Try.prog w = .ok (.func fn first cap) w := fun _ _ _ _ => rfl
  obtain ⟨B1, d1, B2, d2, B3, d3, U, uc, PA, pc, EA, ec, WA, wc, RA0, rc, CA, cc, DA, dc, FA, fc⟩ := x
  simp only [TX.val, TX.cells]
  obtain ⟨RR, hRR⟩ : ∃ RR : Ending → World → Prop, RR = RetX w0 := ⟨_, rfl⟩
  rw [← hRR]
  have HR := Lib.hid hRR
  clear hRR
  by_cases h0 : z < 0
  · have d0 : decide (z < 0) = true := decide_eq_true h0
    clear hz
    go_enter_defers Try.func34, Try.ntmps34
    go_wp2_with (first | (refine oS ?_; ((first | refine sS1 hS rfl rfl rfl ?_ | refine sS4 hS rfl rfl rfl ?_); clear hS; intro w hS)) | ((first | (refine oB ?_; (refine sB1 hS rfl rfl ?_)) | refine sN1 hS rfl ?_); clear hS; first | ((fail_if_success guard_hyp g1); intro g1 w hS) | ((fail_if_success guard_hyp g2); intro g2 w hS) | ((fail_if_success guard_hyp g3); intro g3 w hS)))
    (try simp only [List.set_cons_zero] at hS)
    refine leaves_cons (f := 65) (args := #[.pointer (some ⟨g2, 0, none⟩), .pointer (some ⟨g3, 0, none⟩)]) (by simp) (by simp [go_sem]) ?_
    refine (catch_idle ⟨g2, 0, none⟩ ⟨g3, 0, none⟩ _).mono ?_
    rintro e u' w'' ⟨rfl, rfl, rfl⟩
    rw [HR.out]
    exact ⟨_, st_res2 hS rfl rfl rfl rfl, rfl, hS.toExt⟩
  · have d0 : decide (z < 0) = false := decide_eq_false h0
    have hz1 : (nf : Int) ≤ z := by omega
    have d1 : decide ((nf : Int) ≤ z) = true := decide_eq_true hz1
    clear hz
    go_enter_defers Try.func34, Try.ntmps34
    go_wp2_with (first | (refine oL ?_; ((refine sL1 hS rfl rfl rfl ?_))) | (refine oS ?_; ((first | refine sS1 hS rfl rfl rfl ?_ | refine sS4 hS rfl rfl rfl ?_); clear hS; intro w hS)) | ((first | (refine oB ?_; (refine sB1 hS rfl rfl ?_)) | refine sN1 hS rfl ?_); clear hS; first | ((fail_if_success guard_hyp g1); intro g1 w hS) | ((fail_if_success guard_hyp g2); intro g2 w hS) | ((fail_if_success guard_hyp g3); intro g3 w hS)))
    (try simp only [List.set_cons_zero] at hS)
    refine leaves_cons (f := 65) (args := #[.pointer (some ⟨g2, 0, none⟩), .pointer (some ⟨g3, 0, none⟩)]) (by simp) (by simp [go_sem]) ?_
    refine (catch_idle ⟨g2, 0, none⟩ ⟨g3, 0, none⟩ _).mono ?_
    rintro e u' w'' ⟨rfl, rfl, rfl⟩
    rw [HR.out]
    exact ⟨_, st_res2 hS rfl rfl rfl rfl, rfl, hS.toExt⟩
set_option maxRecDepth 100000 in
set_option maxHeartbeats 6400000 in
theorem rdeliver0_any (x : TX) (p : Pat) (r n nf : Nat) (z : Int) (w0 : World) (hz : z < 0 ∨ (nf : Int) ≤ z) :
    Calls Try.prog 35 #[x.val p r n nf, .int .i64 z] w0 (RetX w0) := by
  have hS := St.start w0 NoM
  have hmf : ∀ (fn : Fn) (first cap : Array Value) (w : World), (Instr.makeFunc fn first cap).run Try.prog w = .ok (.func fn first cap) w := fun _ _ _ _ => rfl
  obtain ⟨B1, d1, B2, d2, B3, d3, U, uc, PA, pc, EA, ec, WA, wc, RA0, rc, CA, cc, DA, dc, FA, fc⟩ := x
  simp only [TX.val, TX.cells]
  obtain ⟨RR, hRR⟩ : ∃ RR : Ending → World → Prop, RR = RetX w0 := ⟨_, rfl⟩
  rw [← hRR]
  have HR := Lib.hid hRR
  clear hRR
  by_cases h0 : z < 0
  · have d0 : decide (z < 0) = true := decide_eq_true h0
    clear hz
    go_enter Try.func35, Try.ntmps35
    go_wp2_with (first | (refine oS ?_; (((refine sS4 hS rfl rfl rfl ?_)); clear hS; intro w hS)) | ((first | (refine oB ?_; (refine sB1 hS rfl rfl ?_)) | refine sN1 hS rfl ?_); clear hS; first | ((fail_if_success guard_hyp g1); intro g1 w hS) | ((fail_if_success guard_hyp g2); intro g2 w hS)))
    refine st_retCT hS rfl rfl rfl rfl rfl ?_
    rw [HR.out]
    exact ⟨rfl, hS.toExt⟩
  · have d0 : decide (z < 0) = false := decide_eq_false h0
    have hz1 : (nf : Int) ≤ z := by omega
    have d1 : decide ((nf : Int) ≤ z) = true := decide_eq_true hz1
    clear hz
    go_enter Try.func35, Try.ntmps35
    go_wp2_with (first | (refine oL ?_; ((refine sL1 hS rfl rfl rfl ?_))) | (refine oS ?_; (((refine sS4 hS rfl rfl rfl ?_)); clear hS; intro w hS)) | ((first | (refine oB ?_; (refine sB1 hS rfl rfl ?_)) | refine sN1 hS rfl ?_); clear hS; first | ((fail_if_success guard_hyp g1); intro g1 w hS) | ((fail_if_success guard_hyp g2); intro g2 w hS)))
    refine st_retCT hS rfl rfl rfl rfl rfl ?_
    rw [HR.out]
    exact ⟨rfl, hS.toExt⟩
end Go.Proofs.Ytmjmdncdmmcmaaa

