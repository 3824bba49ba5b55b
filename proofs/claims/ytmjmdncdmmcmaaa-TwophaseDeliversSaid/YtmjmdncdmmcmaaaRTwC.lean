/- rollbacknetref24.Copy. Conditions: the machine lies in memory, its lists are short. -/
import Derived.Test.YtmjmdncdmmcmaaaRTwK
namespace Go.Proofs.Ytmjmdncdmmcmaaa
open Go.RowKit Tph
set_option linter.unusedVariables false
set_option linter.unusedSimpArgs false
set_option linter.unusedSectionVars false

theorem chn_at {T : Nat → Prop} {u : World} {A : Option Addr} {ch : List (List Nat)} (h : RW2 ReV T u A (ch.map nats)) {q : Nat} (hq : q < ch.length) : ∃ b o B c, A = some ⟨b, o, none⟩ ∧ FC T u b (o + q) (.slice B (chR ch q).length c) ∧ RI T u B (nats (chR ch q)) := by
  obtain ⟨vs, h1, h2⟩ := h
  obtain ⟨B, c, hcv, _, _, hri⟩ := chr_at h2 hq
  obtain ⟨b, o, e, h3, h4⟩ := h1 q _ hcv
  exact ⟨b, o, B, c, e, ⟨h3, h4⟩, hri⟩
/-- what Copy returns: rows of its own -/
def CopyT (w0 : World) (M : Nat → Prop) (cs : List (Chunk w0 M)) (T : Nat → Prop) (u : World) (A1 : Option Addr) (c1 : Nat) (A2 : Option Addr) (c2 : Nat) (A3 : Option Addr) (c3 : Nat) (p : Pat) (root : Nat) (unw : List Bool) (par : List Int) (tent : List Bool) (aw : List Int) (ref : List Bool) (ch : List (List Nat)) (dec : List Int) (fl : List Nt) (n nf : Nat) (e : Ending) (w' : World) : Prop := ∃ (U2 : Option Addr) (uk : Nat) (P2 : Option Addr) (pk : Nat) (E2 : Option Addr) (ek : Nat) (W2 : Option Addr) (wk : Nat) (R2 : Option Addr) (rk : Nat) (C2 : Option Addr) (ck : Nat) (D2 : Option Addr) (dk : Nat) (F2 : Option Addr) (fk : Nat) (rs : List RwD), e = .returned (.agg #[.slice A1 p.len.length c1, .slice A2 p.ck.length c2, .slice A3 p.arcs.length c3, .int .i64 (root : Int), .slice U2 n uk, .slice P2 n pk, .slice E2 n ek, .slice W2 n wk, .slice R2 n rk, .slice C2 n ck, .slice D2 n dk, .slice F2 nf fk]) ∧ Hid (FamN rs ch) ∧ St w0 M (row (.slice C2 n ck) 25 1 n (rs.map (·.1)) :: fam2 3 1 rs :: froz T u :: row (.slice U2 n uk) 4 1 n (bools unw) :: row (.slice P2 n pk) 3 1 n (ints par) :: row (.slice E2 n ek) 4 1 n (bools tent) :: row (.slice W2 n wk) 3 1 n (ints aw) :: row (.slice R2 n rk) 4 1 n (bools ref) :: row (.slice D2 n dk) 3 1 n (ints dec) :: row (.slice F2 nf fk) 97 3 nf (ntc fl) :: cs) w'
set_option maxRecDepth 100000 in
set_option maxHeartbeats 6400000 in
theorem rcopy_st {w0 w u : World} {M T : Nat → Prop} {cs : List (Chunk w0 M)} (A1 : Option Addr) (c1 : Nat) (A2 : Option Addr) (c2 : Nat) (A3 : Option Addr) (c3 : Nat) (UA : Option Addr) (uc : Nat) (PA : Option Addr) (pc : Nat) (EA : Option Addr) (ec : Nat) (WA : Option Addr) (wc : Nat) (RA0 : Option Addr) (rc : Nat) (CA : Option Addr) (cc : Nat) (DA : Option Addr) (dc : Nat) (FA : Option Addr) (fc : Nat) (p : Pat) (root : Nat) (unw : List Bool) (par : List Int) (tent : List Bool) (aw : List Int) (ref : List Bool) (ch : List (List Nat)) (dec : List Int) (fl : List Nt) (n nf : Nat) (hS : St w0 M (froz T u :: cs) w) (h : TpAt T u ⟨A1, c1, A2, c2, A3, c3, UA, uc, PA, pc, EA, ec, WA, wc, RA0, rc, CA, cc, DA, dc, FA, fc⟩ p (⟨root, unw, par, tent, aw, ref, ch, dec, fl⟩ : TS)) (hl : TsL n (⟨root, unw, par, tent, aw, ref, ch, dec, fl⟩ : TS)) (hn5 : n ≤ 5) (hnf : fl.length = nf) (hb : nf ≤ 3000) (hsm : ∀ l ∈ ch, l.length ≤ 1000) :
    Calls Try.prog 63 #[.agg #[.slice A1 p.len.length c1, .slice A2 p.ck.length c2, .slice A3 p.arcs.length c3, .int .i64 (root : Int), .slice UA n uc, .slice PA n pc, .slice EA n ec, .slice WA n wc, .slice RA0 n rc, .slice CA n cc, .slice DA n dc, .slice FA nf fc]] w (CopyT w0 M cs T u A1 c1 A2 c2 A3 c3 p root unw par tent aw ref ch dec fl n nf) := by
  have HV := Lib.hid (And.intro h (And.intro hl hsm))
  have HLn := Lib.hid (show (bools unw).length = n * 1 ∧ (ints par).length = n * 1 ∧ (bools tent).length = n * 1 ∧ (ints aw).length = n * 1 ∧ (bools ref).length = n * 1 ∧ (ints dec).length = n * 1 ∧ (ntc fl).length = nf * 3 from by
    simp only [Nat.mul_one]
    exact ⟨by rw [bools_len]; exact hl.u, by rw [ints, List.length_map]; exact hl.p, by rw [bools_len]; exact hl.te, by rw [ints, List.length_map]; exact hl.a, by rw [bools_len]; exact hl.r, by rw [ints, List.length_map]; exact hl.d, by rw [ntc_len, hnf]⟩)
  have HCL := Lib.hid (show ch.length = n from hl.c)
  clear h hl hsm hnf
  go_enter Try.func63, Try.ntmps63
  go_upto_region 8 with (first | (refine oP ?_; refine st_appN hS rfl rfl rfl (HV.out.1.un.into hS.frozInto) HLn.out.1 (oneCell_bls _) (by omega) ?_; clear hS; intro U2 uk w hLx hMx hS; clear hLx hMx) | (refine oP ?_; refine st_appN hS rfl rfl rfl (HV.out.1.par.into hS.frozInto) HLn.out.2.1 (oneCell_ints _) (by omega) ?_; clear hS; intro P2 pk w hLx hMx hS; clear hLx hMx) | (refine oP ?_; refine st_appN hS rfl rfl rfl (HV.out.1.tent.into hS.frozInto) HLn.out.2.2.1 (oneCell_bls _) (by omega) ?_; clear hS; intro E2 ek w hLx hMx hS; clear hLx hMx) | (refine oP ?_; refine st_appN hS rfl rfl rfl (HV.out.1.aw.into hS.frozInto) HLn.out.2.2.2.1 (oneCell_ints _) (by omega) ?_; clear hS; intro W2 wk w hLx hMx hS; clear hLx hMx) | (refine oP ?_; refine st_appN hS rfl rfl rfl (HV.out.1.ref.into hS.frozInto) HLn.out.2.2.2.2.1 (oneCell_bls _) (by omega) ?_; clear hS; intro R2 rk w hLx hMx hS; clear hLx hMx) | (refine oL ?_; (first | refine sL1 hS rfl rfl rfl ?_ | refine sL2 hS rfl rfl rfl ?_)) | (refine oS ?_; ((first | refine sS1 hS rfl rfl rfl ?_ | refine sS4 hS rfl rfl rfl ?_); clear hS; intro w hS)) | ((first | (refine oB ?_; (refine sB1 hS rfl rfl ?_)) | refine sN1 hS rfl ?_); clear hS; first | ((fail_if_success guard_hyp g1); intro g1 w hS) | ((fail_if_success guard_hyp g2); intro g2 w hS) | ((fail_if_success guard_hyp g3); intro g3 w hS)))
  (try simp only [List.set_cons_zero, List.set_cons_succ] at hS)
  go_wp2_with (fail)
  go_loopw [4] (fun s4 wr => ∃ (i : Nat) (C2 : Option Addr) (ck : Nat) (rs : List RwD), i ≤ n ∧ s4 = .int .i64 i ∧ Hid (FamN rs (ch.take i)) ∧ St w0 M (row (.slice C2 i ck) 25 1 i (rs.map (·.1)) :: fam2 3 1 rs :: blk g3 [.slice A1 p.len.length c1, .slice A2 p.ck.length c2, .slice A3 p.arcs.length c3, .int .i64 (root : Int), .slice U2 n uk, .slice P2 n pk, .slice E2 n ek, .slice W2 n wk, .slice R2 n rk, .slice C2 i ck, .slice DA n dc, .slice FA nf fc] 55 :: blk g1 [.slice A1 p.len.length c1, .slice A2 p.ck.length c2, .slice A3 p.arcs.length c3, .int .i64 (root : Int), .slice UA n uc, .slice PA n pc, .slice EA n ec, .slice WA n wc, .slice RA0 n rc, .slice CA n cc, .slice DA n dc, .slice FA nf fc] 55 :: froz T u :: row (.slice U2 n uk) 4 1 n (bools unw) :: row (.slice P2 n pk) 3 1 n (ints par) :: row (.slice E2 n ek) 4 1 n (bools tent) :: row (.slice W2 n wk) 3 1 n (ints aw) :: row (.slice R2 n rk) 4 1 n (bools ref) :: blk g2 tp0 55 :: cs) wr) (fun s4 _ => n - (intOf s4).toNat)
  case atStart =>
    have hS2 : St w0 M (row (.slice none 0 0) 25 1 0 [] :: fam2 3 1 [] :: blk g3 [.slice A1 p.len.length c1, .slice A2 p.ck.length c2, .slice A3 p.arcs.length c3, .int .i64 (root : Int), .slice U2 n uk, .slice P2 n pk, .slice E2 n ek, .slice W2 n wk, .slice R2 n rk, .slice none 0 0, .slice DA n dc, .slice FA nf fc] 55 :: blk g1 [.slice A1 p.len.length c1, .slice A2 p.ck.length c2, .slice A3 p.arcs.length c3, .int .i64 (root : Int), .slice UA n uc, .slice PA n pc, .slice EA n ec, .slice WA n wc, .slice RA0 n rc, .slice CA n cc, .slice DA n dc, .slice FA nf fc] 55 :: froz T u :: row (.slice U2 n uk) 4 1 n (bools unw) :: row (.slice P2 n pk) 3 1 n (ints par) :: row (.slice E2 n ek) 4 1 n (bools tent) :: row (.slice W2 n wk) 3 1 n (ints aw) :: row (.slice R2 n rk) 4 1 n (bools ref) :: blk g2 tp0 55 :: cs) _ := ((hS.fam2Nil 3 1).addNil 25 1).re
    exact ⟨0, none, 0, [], by omega, rfl, Lib.hid FamN.nil, hS2⟩
  case round =>
    clear hS
    obtain ⟨i, C2, ck, rs, hi, rfl, HF, hS⟩ := hrel
    by_cases hlt : i < n
    · have hlt' : (i : Int) < (n : Int) := by omega
      obtain ⟨bh, oh, B, cB, hCA, hfc, hri⟩ := chn_at HV.out.1.ch (q := i) (by rw [HCL.out]; exact hlt)
      simp only at hCA
      subst hCA
      have hll : (chR ch i).length ≤ 1000 := HV.out.2.2 _ (chR_mem (by rw [HCL.out]; exact hlt))
      have HRV := Lib.hid hri
      have HTK := Lib.hid (take_chR (ls := ch) (k := i) (by rw [HCL.out]; exact hlt))
      clear hri
      generalize chR ch i = l at *
      have HIL := Lib.hid (show (ints (nats l)).length = l.length * 1 by simp)
      go_wp2_with (((refine oL ?_; ((refine sL1 hS rfl rfl rfl ?_)))))
      refine dr_start1 [11] 0 hS (by kernel_rfl) rfl ?_; clear hS; intro w hS
      refine dP hS 0 rfl rfl ?_
      (try simp only [Act.put, nA, nB, nC])
      (refine dL1 hS 1 rfl rfl rfl rfl ?_)
      (try simp only [Act.put, nA, nB, nC])
      refine dP hS 2 rfl rfl ?_
      (try simp only [Act.put, nA, nB, nC])
      (refine dL1 hS 3 rfl rfl rfl rfl ?_)
      (try simp only [Act.put, nA, nB, nC])
      refine dM hS 4 rfl rfl rfl ?_
      (try simp only [Act.put, nA, nB, nC])
      refine dP hS 5 rfl rfl ?_
      (try simp only [Act.put, nA, nB, nC])
      (refine dL7 hS 6 rfl rfl rfl ?_)
      (try simp only [Act.put, nA, nB, nC])
      refine dr_one 7 (by kernel_rfl) rfl ?_
      refine st_appN hS rfl rfl rfl (RV.into HRV.out hS.frozInto) HIL.out (oneCell_ints _) (by omega) ?_; clear hS; intro L8 cl8 w hL8 hM8 hS
      (try simp only [Act.put, nA, nB, nC])
      refine dr_end hS ?_
      refine dr_one 8 (by kernel_rfl) rfl ?_
      (((refine sC1 hS rfl rfl ?_)); clear hS; (((fail_if_success guard_hyp g4); intro g4 w hS)))
      (try simp only [Act.put, nA, nB, nC])
      refine dr_end hS ?_
      refine dr_one 9 (by kernel_rfl) rfl ?_
      (((refine sP2 hS rfl rfl rfl ?_)); clear hS; (((fail_if_success guard_hyp L1); intro L1 cl1 w hL1 hM1 hS)))
      (try simp only [Act.put, nA, nB, nC])
      refine dr_end hS ?_
      refine dP hS 10 rfl rfl ?_
      (try simp only [Act.put, nA, nB, nC])
      refine dr_one 11 (by kernel_rfl) rfl ?_
      (((refine sS1 hS rfl rfl rfl ?_)); clear hS; intro w hS)
      (try simp only [Act.put, nA, nB, nC])
      refine dr_late (by kernel_rfl) ?_
      refine dr_done (by kernel_rfl) ?_
      (try simp only [List.set_cons_zero, List.set_cons_succ] at hS)
      have hS2 : St w0 M (row (.slice L8 l.length cl8) 3 1 l.length (ints (nats l)) :: fam2 3 1 rs :: row (.slice L1 (i + 1) cl1) 25 1 (i + 1) (rs.map (·.1) ++ [.slice L8 l.length cl8]) :: blk g3 [.slice A1 p.len.length c1, .slice A2 p.ck.length c2, .slice A3 p.arcs.length c3, .int .i64 (root : Int), .slice U2 n uk, .slice P2 n pk, .slice E2 n ek, .slice W2 n wk, .slice R2 n rk, .slice L1 (i + 1) cl1, .slice DA n dc, .slice FA nf fc] 55 :: blk g1 [.slice A1 p.len.length c1, .slice A2 p.ck.length c2, .slice A3 p.arcs.length c3, .int .i64 (root : Int), .slice UA n uc, .slice PA n pc, .slice EA n ec, .slice WA n wc, .slice RA0 n rc, .slice (some ⟨bh, oh, none⟩) n cc, .slice DA n dc, .slice FA nf fc] 55 :: froz T u :: row (.slice U2 n uk) 4 1 n (bools unw) :: row (.slice P2 n pk) 3 1 n (ints par) :: row (.slice E2 n ek) 4 1 n (bools tent) :: row (.slice W2 n wk) 3 1 n (ints aw) :: row (.slice R2 n rk) 4 1 n (bools ref) :: blk g2 tp0 55 :: cs) _ := hS.re
      have hS3 := hS2.fam2Snoc
      go_wp2_with (fail)
      go_roundw
      case measure => simp [intOf]; omega
      refine ⟨i + 1, L1, cl1, rs ++ [(.slice L8 l.length cl8, l.length, ints (nats l))], by omega, by go_num, Lib.hid (by rw [HTK.out]; exact HF.out.snoc L8 cl8 l), ?_⟩
      simp only [List.map_append, List.map_cons, List.map_nil]
      exact hS3.re
    · have hlt' : ¬ (i : Int) < (n : Int) := by omega
      obtain rfl : i = n := by omega
      have HF1 := Lib.hid (show FamN rs ch by have h := HF.out; rw [List.take_of_length_le (by rw [HCL.out]; exact Nat.le_refl _)] at h; exact h)
      clear HF
      go_upto_region 14 with (first | (refine oP ?_; refine st_appN hS rfl rfl rfl (HV.out.1.dec.into hS.frozInto) HLn.out.2.2.2.2.2.1 (oneCell_ints _) (by omega) ?_; clear hS; intro D2 dk w hLx hMx hS; clear hLx hMx) | (refine oP ?_; refine st_appN hS rfl rfl rfl (HV.out.1.fl.into hS.frozInto) HLn.out.2.2.2.2.2.2 (oneCell_ntc _) (by omega) ?_; clear hS; intro F2 fk w hLx hMx hS; clear hLx hMx) | (refine oL ?_; ((refine sL1 hS rfl rfl rfl ?_))) | (refine oS ?_; (((refine sS1 hS rfl rfl rfl ?_)); clear hS; intro w hS)))
      (try simp only [List.set_cons_zero, List.set_cons_succ] at hS)
      go_wp2_with (first | (refine oL ?_; ((refine sL2 hS rfl rfl rfl ?_))) | (refine oS ?_; (((refine sS4 hS rfl rfl rfl ?_)); clear hS; intro w hS)))
      refine st_retC hS rfl rfl rfl rfl ?_
      exact ⟨U2, uk, P2, pk, E2, ek, W2, wk, R2, rk, C2, ck, D2, dk, F2, fk, rs, rfl, HF1, hS.re⟩
end Go.Proofs.Ytmjmdncdmmcmaaa
