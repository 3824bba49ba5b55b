/- The machine of two-phase checkpointing: answer, without. Conditions: the machine is a call's own, its lists are short. -/
import Derived.Test.YtmjmdncdmmcmaaaTwM
namespace Go.Proofs.Ytmjmdncdmmcmaaa
open Go.RowKit Tph
set_option linter.unusedVariables false
set_option linter.unusedSimpArgs false
set_option linter.unusedSectionVars false

set_option maxRecDepth 100000 in
set_option maxHeartbeats 6400000 in
theorem without_any {S : Nat → Prop} (A : Option Addr) (c n : Nat) (l : List Nat) (x : Nat) (w0 : World) (hx : RI S w0 A (nats l)) (hn : l.length = n) (hl : n ≤ 1000) :
    Calls Try.prog 99 #[.slice A n c, .int .i64 (x : Int)] w0 (RetRow w0 3 1 (l.filter (fun y => y != x)).length (ints (nats (l.filter (fun y => y != x))))) := by
  have hS := St.start w0 NoM
  subst hn
  go_enter Try.func99, Try.ntmps99
  go_wp2_with (first | (refine oL ?_; (first | refine sL1 hS rfl rfl rfl ?_ | refine sL2 hS rfl rfl rfl ?_ | refine sL3 hS rfl rfl ?_ | refine sL4 hS rfl rfl ?_ | refine sL5 hS rfl rfl ?_ | refine sL6 hS rfl rfl ?_ | refine sL7 hS rfl rfl ?_)) | (refine oP ?_; ((first | refine sP1 hS rfl rfl rfl ?_ | refine sP2 hS rfl rfl rfl ?_ | refine sP3 hS rfl rfl rfl ?_); clear hS; first | ((fail_if_success guard_hyp L1); intro L1 cl1 w hL1 hM1 hS) | ((fail_if_success guard_hyp L2); intro L2 cl2 w hL2 hM2 hS) | fail)) | ((first | (refine oC ?_; first | refine sC0 hS rfl ?_ | refine sC1 hS rfl rfl ?_ | refine sC2 hS rfl rfl ?_ | refine sC3 hS rfl rfl rfl ?_ | refine sC4 hS rfl rfl rfl ?_)); clear hS; first | ((fail_if_success guard_hyp g1); intro g1 w hS) | ((fail_if_success guard_hyp g2); intro g2 w hS) | fail) | fail)
  replace hS := hS.addNil 3 1
  go_loopw [5, 7, 10] (fun s5 s7 s10 wr => ∃ (j m c5 : Nat) (L : Option Addr) (k : List Nat), j ≤ l.length ∧ m ≤ j ∧ s10 = .int .i64 j ∧ s5 = .slice L m c5 ∧ Hid (k = (l.take j).filter (fun y => y != x) ∧ k.length = m) ∧ St w0 NoM [row (.slice L m c5) 3 1 m (ints (nats k))] wr) (fun _ _ s10 _ => l.length - (intOf s10).toNat)
  case atStart => exact ⟨0, 0, 0, none, [], by omega, by omega, rfl, rfl, Lib.hid ⟨rfl, rfl⟩, hS⟩
  case round =>
    clear hS
    obtain ⟨j, m, c5, L, k, hj, hm, rfl, rfl, HK, hS⟩ := hrel
    by_cases hjl : j < l.length
    · have hjl' : (j : Int) < l.length := by omega
      obtain ⟨b, o, rfl, _, hc⟩ := hx.atNS (k := j) (by rw [List.length_map]; exact hjl)
      rw [show nth (nats l) j = ((l[j] : Nat) : Int) by rw [nth_eq (by rw [List.length_map]; exact hjl)]; simp [nats]] at hc
      have HTK := Lib.hid (show (l.take (j + 1)).filter (fun y => y != x) = k ++ [l[j]].filter (fun y => y != x) by rw [List.take_succ_eq_append_getElem hjl, List.filter_append, HK.out.1])
      generalize l[j] = y at *
      by_cases he : y = x
      · have e1 : ((y : Int) != (x : Int)) = false := by simp [he]
        have HN := Lib.hid (show (l.take (j + 1)).filter (fun y => y != x) = k by rw [HTK.out]; simp [he])
        clear he HTK
        go_wp2_with (first | (refine oL ?_; (first | refine sL1 hS rfl rfl rfl ?_ | refine sL2 hS rfl rfl rfl ?_ | refine sL3 hS rfl rfl ?_ | refine sL4 hS rfl rfl ?_ | refine sL5 hS rfl rfl ?_ | refine sL6 hS rfl rfl ?_ | refine sL7 hS rfl rfl ?_)) | (refine oP ?_; ((first | refine sP1 hS rfl rfl rfl ?_ | refine sP2 hS rfl rfl rfl ?_ | refine sP3 hS rfl rfl rfl ?_); clear hS; first | ((fail_if_success guard_hyp L1); intro L1 cl1 w hL1 hM1 hS) | ((fail_if_success guard_hyp L2); intro L2 cl2 w hL2 hM2 hS) | fail)) | ((first | (refine oC ?_; first | refine sC0 hS rfl ?_ | refine sC1 hS rfl rfl ?_ | refine sC2 hS rfl rfl ?_ | refine sC3 hS rfl rfl rfl ?_ | refine sC4 hS rfl rfl rfl ?_)); clear hS; first | ((fail_if_success guard_hyp g1); intro g1 w hS) | ((fail_if_success guard_hyp g2); intro g2 w hS) | fail) | fail)
        go_roundw
        case measure => simp [intOf]; try omega
        exact ⟨j + 1, m, c5, L, k, by omega, by omega, by go_num, rfl, Lib.hid ⟨HN.out.symm, HK.out.2⟩, hS⟩
      · have e1 : ((y : Int) != (x : Int)) = true := by simp; omega
        have HN := Lib.hid (show (l.take (j + 1)).filter (fun y => y != x) = k ++ [y] by rw [HTK.out]; simp [he])
        clear he HTK
        go_wp2_with (first | (refine oL ?_; (first | refine sL1 hS rfl rfl rfl ?_ | refine sL2 hS rfl rfl rfl ?_ | refine sL3 hS rfl rfl ?_ | refine sL4 hS rfl rfl ?_ | refine sL5 hS rfl rfl ?_ | refine sL6 hS rfl rfl ?_ | refine sL7 hS rfl rfl ?_)) | (refine oP ?_; ((first | refine sP1 hS rfl rfl rfl ?_ | refine sP2 hS rfl rfl rfl ?_ | refine sP3 hS rfl rfl rfl ?_); clear hS; first | ((fail_if_success guard_hyp L1); intro L1 cl1 w hL1 hM1 hS) | ((fail_if_success guard_hyp L2); intro L2 cl2 w hL2 hM2 hS) | fail)) | ((first | (refine oC ?_; first | refine sC0 hS rfl ?_ | refine sC1 hS rfl rfl ?_ | refine sC2 hS rfl rfl ?_ | refine sC3 hS rfl rfl rfl ?_ | refine sC4 hS rfl rfl rfl ?_)); clear hS; first | ((fail_if_success guard_hyp g1); intro g1 w hS) | ((fail_if_success guard_hyp g2); intro g2 w hS) | fail) | fail)
        go_roundw
        case measure => simp [intOf]; try omega
        refine ⟨j + 1, m + 1, cl1, L1, k ++ [y], by omega, by omega, by go_num, rfl, Lib.hid ⟨HN.out.symm, by rw [List.length_append, HK.out.2]; rfl⟩, ?_⟩
        have e : ints (nats (k ++ [y])) = ints (nats k) ++ [.int .i64 (y : Int)] := by simp [ints, nats]
        rw [e]
        exact hS.re
    · have hjl' : ¬ (j : Int) < l.length := by omega
      have HE := Lib.hid (show l.filter (fun y => y != x) = k by have := HK.out.1; rw [List.take_of_length_le (by omega)] at this; exact this.symm)
      have hkl := HK.out.2
      go_wp2_with (first | (refine oL ?_; (first | refine sL1 hS rfl rfl rfl ?_ | refine sL2 hS rfl rfl rfl ?_ | refine sL3 hS rfl rfl ?_ | refine sL4 hS rfl rfl ?_ | refine sL5 hS rfl rfl ?_ | refine sL6 hS rfl rfl ?_ | refine sL7 hS rfl rfl ?_)) | (refine oP ?_; ((first | refine sP1 hS rfl rfl rfl ?_ | refine sP2 hS rfl rfl rfl ?_ | refine sP3 hS rfl rfl rfl ?_); clear hS; first | ((fail_if_success guard_hyp L1); intro L1 cl1 w hL1 hM1 hS) | ((fail_if_success guard_hyp L2); intro L2 cl2 w hL2 hM2 hS) | fail)) | ((first | (refine oC ?_; first | refine sC0 hS rfl ?_ | refine sC1 hS rfl rfl ?_ | refine sC2 hS rfl rfl ?_ | refine sC3 hS rfl rfl rfl ?_ | refine sC4 hS rfl rfl rfl ?_)); clear hS; first | ((fail_if_success guard_hyp g1); intro g1 w hS) | ((fail_if_success guard_hyp g2); intro g2 w hS) | fail) | fail)
      go_ret
      rw [HE.out, hkl]
      have h9 := hS.ret (L := L) (c := c5) (k := m) rfl
      simp only [ints, nats, List.map_map] at h9 ⊢
      exact h9
set_option maxRecDepth 100000 in
set_option maxHeartbeats 6400000 in
theorem answer_st {w0 w u : World} {M T : Nat → Prop} {cs : List (Chunk w0 M)} (gm : Nat) (A1 : Option Addr) (c1 : Nat) (A2 : Option Addr) (c2 : Nat) (A3 : Option Addr) (c3 : Nat) (p : Pat) (root n : Nat) (UA : Option Addr) (uc gp kp gt kt ga ka gr kr gc kc gd kd : Nat) (par aw dec : List Int) (unw tent ref : List Bool) (ch : List (List Nat)) (cvs : List Value) (fl : List Nt) (FA : Option Addr) (nf fc : Nat) (q pk : Nat) (B : Option Addr) (cB : Nat) (hS : St w0 M (froz T u :: blk gm [.slice A1 p.len.length c1, .slice A2 p.ck.length c2, .slice A3 p.arcs.length c3, .int .i64 (root : Int), .slice UA n uc, .slice (some ⟨gp, 0, none⟩) n kp, .slice (some ⟨gt, 0, none⟩) n kt, .slice (some ⟨ga, 0, none⟩) n ka, .slice (some ⟨gr, 0, none⟩) n kr, .slice (some ⟨gc, 0, none⟩) n kc, .slice (some ⟨gd, 0, none⟩) n kd, .slice FA nf fc] 91 :: row (.slice (some ⟨gp, 0, none⟩) n kp) 3 1 n (ints par) :: row (.slice (some ⟨gt, 0, none⟩) n kt) 4 1 n (bools tent) :: row (.slice (some ⟨ga, 0, none⟩) n ka) 3 1 n (ints aw) :: row (.slice (some ⟨gr, 0, none⟩) n kr) 4 1 n (bools ref) :: row (.slice (some ⟨gc, 0, none⟩) n kc) 25 1 n cvs :: row (.slice (some ⟨gd, 0, none⟩) n kd) 3 1 n (ints dec) :: row (.slice FA nf fc) 97 3 nf (ntc fl) :: cs) w) (hb : nf ≤ 1900) (hq : q < n) (hp : par.length = n) (ht : tent.length = n) (hr : ref.length = n) (hd : dec.length = n) (hcv : cvs[q]? = some (.slice B (chR ch q).length cB)) (hri : RI T u B (nats (chR ch q))) (hl : (chR ch q).length ≤ 5) (hpk : q ≠ root → nth par q = (pk : Int)) :
    Calls Try.prog 95 #[.pointer (some ⟨gm, 0, none⟩), .int .i64 (q : Int)] w fun e w' => e = .returned (.tuple #[]) ∧ ∃ (F2 : Option Addr) (nf2 k2 : Nat), St w0 M (froz T u :: blk gm [.slice A1 p.len.length c1, .slice A2 p.ck.length c2, .slice A3 p.arcs.length c3, .int .i64 (root : Int), .slice UA n uc, .slice (some ⟨gp, 0, none⟩) n kp, .slice (some ⟨gt, 0, none⟩) n kt, .slice (some ⟨ga, 0, none⟩) n ka, .slice (some ⟨gr, 0, none⟩) n kr, .slice (some ⟨gc, 0, none⟩) n kc, .slice (some ⟨gd, 0, none⟩) n kd, .slice F2 nf2 k2] 91 :: row (.slice (some ⟨gp, 0, none⟩) n kp) 3 1 n (ints par) :: row (.slice (some ⟨gt, 0, none⟩) n kt) 4 1 n (bools ((⟨root, unw, par, tent, aw, ref, ch, dec, fl⟩ : TS).ans q).tent) :: row (.slice (some ⟨ga, 0, none⟩) n ka) 3 1 n (ints aw) :: row (.slice (some ⟨gr, 0, none⟩) n kr) 4 1 n (bools ref) :: row (.slice (some ⟨gc, 0, none⟩) n kc) 25 1 n cvs :: row (.slice (some ⟨gd, 0, none⟩) n kd) 3 1 n (ints ((⟨root, unw, par, tent, aw, ref, ch, dec, fl⟩ : TS).ans q).dec) :: row (.slice F2 nf2 k2) 97 3 nf2 (ntc ((⟨root, unw, par, tent, aw, ref, ch, dec, fl⟩ : TS).ans q).fl) :: cs) w' := by
  have HCV := Lib.hid (And.intro hcv hri)
  clear hcv hri
  have hq' : (q : Int) < (n : Int) := by omega
  have hrq := opOf_at (l := ref) (q := q) (by omega)
  have HA := Lib.hid (show (⟨root, unw, par, tent, aw, ref, ch, dec, fl⟩ : TS).ans q = if q = root then (if opOf ref q then (⟨root, unw, par, tent, aw, ref, ch, dec, fl⟩ : TS).dcd q 2 else (⟨root, unw, par, tent, aw, ref, ch, dec, fl⟩ : TS).dcd q 1) else if opOf ref q then ((⟨root, unw, par, tent, aw, ref, ch, dec, fl⟩ : TS).post ⟨3, q, (parN par q).toNat⟩).dcd q 2 else (⟨root, unw, par, tent, aw, ref, ch, dec, fl⟩ : TS).post ⟨2, q, (parN par q).toNat⟩ from rfl)
  by_cases hqr : q = root
  · have e1 : ((q : Int) == (root : Int)) = true := by simp [hqr]
    rw [if_pos hqr] at HA
    clear hpk hqr
    generalize opOf ref q = b at *
    cases b with
    | true =>
      have HANS := Lib.hid (HA.out.trans (if_pos rfl))
      go_enter Try.func95, Try.ntmps95
      go_wp2_with (first | (go_at_call 100; refine (decide_st gm A1 c1 A2 c2 A3 c3 p root n UA uc gp kp gt kt ga ka gr kr gc kc gd kd par aw dec tent ref cvs fl FA nf fc q 2 (chR ch q) B cB hS (by omega) hq ht hd HCV.out.1 HCV.out.2 hl (.inr rfl)).mono ?_; rintro e w ⟨rfl, F2, k2, hS1⟩; clear hS; have hS := hS1; clear hS1) | (refine oL ?_; (first | refine sL1 hS rfl rfl rfl ?_ | refine sL2 hS rfl rfl rfl ?_ | refine sL3 hS rfl rfl ?_ | refine sL4 hS rfl rfl ?_ | refine sL5 hS rfl rfl ?_ | refine sL6 hS rfl rfl ?_ | refine sL7 hS rfl rfl ?_)) | fail)
      go_end0
      refine ⟨rfl, F2, nf + (chR ch q).length, k2, ?_⟩
      rw [HANS.out]
      first | exact hS | (simp only [ints, List.map_set] at hS ⊢; exact hS)
    | false =>
      have HANS := Lib.hid (HA.out.trans (if_neg (by decide)))
      go_enter Try.func95, Try.ntmps95
      go_wp2_with (first | (go_at_call 100; refine (decide_st gm A1 c1 A2 c2 A3 c3 p root n UA uc gp kp gt kt ga ka gr kr gc kc gd kd par aw dec tent ref cvs fl FA nf fc q 1 (chR ch q) B cB hS (by omega) hq ht hd HCV.out.1 HCV.out.2 hl (.inl rfl)).mono ?_; rintro e w ⟨rfl, F2, k2, hS1⟩; clear hS; have hS := hS1; clear hS1) | (refine oL ?_; (first | refine sL1 hS rfl rfl rfl ?_ | refine sL2 hS rfl rfl rfl ?_ | refine sL3 hS rfl rfl ?_ | refine sL4 hS rfl rfl ?_ | refine sL5 hS rfl rfl ?_ | refine sL6 hS rfl rfl ?_ | refine sL7 hS rfl rfl ?_)) | fail)
      go_end0
      refine ⟨rfl, F2, nf + (chR ch q).length, k2, ?_⟩
      rw [HANS.out]
      first | exact hS | (simp only [ints, List.map_set] at hS ⊢; exact hS)
  · have e1 : ((q : Int) == (root : Int)) = false := by simp; omega
    rw [if_neg hqr] at HA
    have hpk2 := hpk hqr
    have hpn : (parN par q).toNat = pk := by
      have : parN par q = nth par q := by unfold parN nth; rw [List.getD_eq_getElem?_getD, List.getD_eq_getElem?_getD, List.getElem?_eq_getElem (by omega)]; rfl
      rw [this, hpk2]; simp
    rw [hpn] at HA
    have hpq := nth_at (l := par) (q := q) (by omega)
    rw [hpk2] at hpq
    clear hpk hqr hpk2 hpn
    generalize opOf ref q = b at *
    cases b with
    | true =>
      have HANS := Lib.hid (HA.out.trans (if_pos rfl))
      go_enter Try.func95, Try.ntmps95
      go_wp2_with (first | (go_at_call 96; refine (post_st gm A1 c1 A2 c2 A3 c3 p root n UA uc gp kp gt kt ga ka gr kr gc kc gd kd par aw dec tent ref cvs fl FA nf fc 3 q pk hS (by omega)).mono ?_; rintro e w ⟨rfl, F3, k3, hS1⟩; clear hS; have hS := hS1; clear hS1) | (go_at_call 100; refine (decide_st gm A1 c1 A2 c2 A3 c3 p root n UA uc gp kp gt kt ga ka gr kr gc kc gd kd par aw dec tent ref cvs (fl ++ [⟨3, q, pk⟩]) F3 (nf + 1) k3 q 2 (chR ch q) B cB hS (by omega) hq ht hd HCV.out.1 HCV.out.2 hl (.inr rfl)).mono ?_; rintro e w ⟨rfl, F2, k2, hS1⟩; clear hS; have hS := hS1; clear hS1) | (refine oL ?_; (first | refine sL1 hS rfl rfl rfl ?_ | refine sL2 hS rfl rfl rfl ?_ | refine sL3 hS rfl rfl ?_ | refine sL4 hS rfl rfl ?_ | refine sL5 hS rfl rfl ?_ | refine sL6 hS rfl rfl ?_ | refine sL7 hS rfl rfl ?_)) | fail)
      go_end0
      refine ⟨rfl, F2, nf + 1 + (chR ch q).length, k2, ?_⟩
      rw [HANS.out]
      first | exact hS | (simp only [ints, List.map_set] at hS ⊢; exact hS)
    | false =>
      have HANS := Lib.hid (HA.out.trans (if_neg (by decide)))
      go_enter Try.func95, Try.ntmps95
      go_wp2_with (first | (go_at_call 96; refine (post_st gm A1 c1 A2 c2 A3 c3 p root n UA uc gp kp gt kt ga ka gr kr gc kc gd kd par aw dec tent ref cvs fl FA nf fc 2 q pk hS (by omega)).mono ?_; rintro e w ⟨rfl, F3, k3, hS1⟩; clear hS; have hS := hS1; clear hS1) | (refine oL ?_; (first | refine sL1 hS rfl rfl rfl ?_ | refine sL2 hS rfl rfl rfl ?_ | refine sL3 hS rfl rfl ?_ | refine sL4 hS rfl rfl ?_ | refine sL5 hS rfl rfl ?_ | refine sL6 hS rfl rfl ?_ | refine sL7 hS rfl rfl ?_)) | fail)
      go_end0
      refine ⟨rfl, F3, nf + 1, k3, ?_⟩
      rw [HANS.out]
      first | exact hS | (simp only [ints, List.map_set] at hS ⊢; exact hS)
end Go.Proofs.Ytmjmdncdmmcmaaa
