/- The machine of two-phase checkpointing: handle. Conditions: the machine is a call's own, its lists are short. -/
import Derived.Test.YtmjmdncdmmcmaaaTwO
namespace Go.Proofs.Ytmjmdncdmmcmaaa
open Go.RowKit Tph
set_option linter.unusedVariables false
set_option linter.unusedSimpArgs false
set_option linter.unusedSectionVars false

set_option maxRecDepth 100000 in
set_option maxHeartbeats 6400000 in
theorem handle_st {w0 w u : World} {M T : Nat → Prop} {cs : List (Chunk w0 M)} (gm : Nat) (A1 : Option Addr) (c1 : Nat) (A2 : Option Addr) (c2 : Nat) (A3 : Option Addr) (c3 : Nat) (p : Pat) (root n : Nat) (UA : Option Addr) (uc gp kp gt kt ga ka gr kr gc kc gd kd : Nat) (par aw dec : List Int) (unw tent ref : List Bool) (ch : List (List Nat)) (cvs : List Value) (fl : List Nt) (FA : Option Addr) (nf fc : Nat) (kz : Int) (fr q : Nat) (hS : St w0 M (froz T u :: blk gm [.slice A1 p.len.length c1, .slice A2 p.ck.length c2, .slice A3 p.arcs.length c3, .int .i64 (root : Int), .slice UA n uc, .slice (some ⟨gp, 0, none⟩) n kp, .slice (some ⟨gt, 0, none⟩) n kt, .slice (some ⟨ga, 0, none⟩) n ka, .slice (some ⟨gr, 0, none⟩) n kr, .slice (some ⟨gc, 0, none⟩) n kc, .slice (some ⟨gd, 0, none⟩) n kd, .slice FA nf fc] 91 :: row (.slice (some ⟨gp, 0, none⟩) n kp) 3 1 n (ints par) :: row (.slice (some ⟨gt, 0, none⟩) n kt) 4 1 n (bools tent) :: row (.slice (some ⟨ga, 0, none⟩) n ka) 3 1 n (ints aw) :: row (.slice (some ⟨gr, 0, none⟩) n kr) 4 1 n (bools ref) :: row (.slice (some ⟨gc, 0, none⟩) n kc) 25 1 n cvs :: row (.slice (some ⟨gd, 0, none⟩) n kd) 3 1 n (ints dec) :: row (.slice FA nf fc) 97 3 nf (ntc fl) :: cs) w) (hb : nf ≤ 1800) (hq : q < n) (hp : par.length = n) (ht : tent.length = n) (ha : aw.length = n) (hr : ref.length = n) (hd : dec.length = n) (hc : ch.length = n) (hu : unw.length = n) (hun : RV T u UA (bools unw)) (hch : Rw2 (ReV T u) cvs (ch.map nats)) (hsm : ∀ l ∈ ch, l.length ≤ 5) (hpa : PatAt T u ⟨A1, c1, A2, c2, A3, c3⟩ p) (hg : Good p) (hn : p.len.length = n) (hkz : kz = 1 ∨ kz = 2 ∨ kz = 3 ∨ kz = 4 ∨ kz = 5) (hfr : fr < n) (hpk : kz ≠ 1 → ∃ pk : Nat, nth par q = (pk : Int)) (haw : 0 ≤ nth aw q ∧ nth aw q ≤ 1000) :
    Calls Try.prog 69 #[.pointer (some ⟨gm, 0, none⟩), .agg #[.int .i64 kz, .int .i64 (fr : Int), .int .i64 (q : Int)]] w fun e w' => e = .returned (.tuple #[]) ∧ ∃ (T2 : Nat → Prop) (u2 : World) (cv2 : List Value) (F2 : Option Addr) (nf2 k2 : Nat), Hid (Into T T2 u u2 ∧ Rw2 (ReV T2 u2) cv2 (((⟨root, unw, par, tent, aw, ref, ch, dec, fl⟩ : TS).dlv (srcL p) (⟨kz, fr, q⟩ : Nt)).ch.map nats)) ∧ St w0 M (froz T2 u2 :: blk gm [.slice A1 p.len.length c1, .slice A2 p.ck.length c2, .slice A3 p.arcs.length c3, .int .i64 (root : Int), .slice UA n uc, .slice (some ⟨gp, 0, none⟩) n kp, .slice (some ⟨gt, 0, none⟩) n kt, .slice (some ⟨ga, 0, none⟩) n ka, .slice (some ⟨gr, 0, none⟩) n kr, .slice (some ⟨gc, 0, none⟩) n kc, .slice (some ⟨gd, 0, none⟩) n kd, .slice F2 nf2 k2] 91 :: row (.slice (some ⟨gp, 0, none⟩) n kp) 3 1 n (ints ((⟨root, unw, par, tent, aw, ref, ch, dec, fl⟩ : TS).dlv (srcL p) (⟨kz, fr, q⟩ : Nt)).par) :: row (.slice (some ⟨gt, 0, none⟩) n kt) 4 1 n (bools ((⟨root, unw, par, tent, aw, ref, ch, dec, fl⟩ : TS).dlv (srcL p) (⟨kz, fr, q⟩ : Nt)).tent) :: row (.slice (some ⟨ga, 0, none⟩) n ka) 3 1 n (ints ((⟨root, unw, par, tent, aw, ref, ch, dec, fl⟩ : TS).dlv (srcL p) (⟨kz, fr, q⟩ : Nt)).aw) :: row (.slice (some ⟨gr, 0, none⟩) n kr) 4 1 n (bools ((⟨root, unw, par, tent, aw, ref, ch, dec, fl⟩ : TS).dlv (srcL p) (⟨kz, fr, q⟩ : Nt)).ref) :: row (.slice (some ⟨gc, 0, none⟩) n kc) 25 1 n cv2 :: row (.slice (some ⟨gd, 0, none⟩) n kd) 3 1 n (ints ((⟨root, unw, par, tent, aw, ref, ch, dec, fl⟩ : TS).dlv (srcL p) (⟨kz, fr, q⟩ : Nt)).dec) :: row (.slice F2 nf2 k2) 97 3 nf2 (ntc ((⟨root, unw, par, tent, aw, ref, ch, dec, fl⟩ : TS).dlv (srcL p) (⟨kz, fr, q⟩ : Nt)).fl) :: cs) w' := by
  have hq' : (q : Int) < (n : Int) := by omega
  obtain ⟨B, cB, hcv, hcB, hcB', hri⟩ := chr_at hch (q := q) (by omega)
  have hll := hsm _ (chR_mem (ch := ch) (q := q) (by omega))
  have HCV := Lib.hid (And.intro hcv hri)
  have HCH := Lib.hid hch
  have HSM := Lib.hid hsm
  have HPP := Lib.hid (And.intro hun (And.intro hpa (And.intro hg hn)))
  have hcvl : cvs.length = n := by rw [hch.n, List.length_map]; exact hc
  have hpq := nth_at (l := par) (q := q) (by omega)
  have hrq := opOf_at (l := ref) (q := q) (by omega)
  have htq := opOf_at (l := tent) (q := q) (by omega)
  have haq := nth_at (l := aw) (q := q) (by omega)
  have haq2 := nth_at (l := aw.set q (nth aw q - 1)) (q := q) (by rw [List.length_set]; omega)
  rw [nth_set_same (by omega)] at haq2
  have hpn : parN par q = nth par q := by unfold parN nth; rw [List.getD_eq_getElem?_getD, List.getD_eq_getElem?_getD, List.getElem?_eq_getElem (by omega)]; rfl
  have HPN := Lib.hid hpn
  have hqa : q < aw.length := by omega
  clear hcv hri hch hsm hun hpa hg hn hpn
  obtain ⟨RR, hRR⟩ : ∃ RR : Ending → World → Prop, RR = fun e w' => e = .returned (.tuple #[]) ∧ ∃ (T2 : Nat → Prop) (u2 : World) (cv2 : List Value) (F2 : Option Addr) (nf2 k2 : Nat), Hid (Into T T2 u u2 ∧ Rw2 (ReV T2 u2) cv2 (((⟨root, unw, par, tent, aw, ref, ch, dec, fl⟩ : TS).dlv (srcL p) (⟨kz, fr, q⟩ : Nt)).ch.map nats)) ∧ St w0 M (froz T2 u2 :: blk gm [.slice A1 p.len.length c1, .slice A2 p.ck.length c2, .slice A3 p.arcs.length c3, .int .i64 (root : Int), .slice UA n uc, .slice (some ⟨gp, 0, none⟩) n kp, .slice (some ⟨gt, 0, none⟩) n kt, .slice (some ⟨ga, 0, none⟩) n ka, .slice (some ⟨gr, 0, none⟩) n kr, .slice (some ⟨gc, 0, none⟩) n kc, .slice (some ⟨gd, 0, none⟩) n kd, .slice F2 nf2 k2] 91 :: row (.slice (some ⟨gp, 0, none⟩) n kp) 3 1 n (ints ((⟨root, unw, par, tent, aw, ref, ch, dec, fl⟩ : TS).dlv (srcL p) (⟨kz, fr, q⟩ : Nt)).par) :: row (.slice (some ⟨gt, 0, none⟩) n kt) 4 1 n (bools ((⟨root, unw, par, tent, aw, ref, ch, dec, fl⟩ : TS).dlv (srcL p) (⟨kz, fr, q⟩ : Nt)).tent) :: row (.slice (some ⟨ga, 0, none⟩) n ka) 3 1 n (ints ((⟨root, unw, par, tent, aw, ref, ch, dec, fl⟩ : TS).dlv (srcL p) (⟨kz, fr, q⟩ : Nt)).aw) :: row (.slice (some ⟨gr, 0, none⟩) n kr) 4 1 n (bools ((⟨root, unw, par, tent, aw, ref, ch, dec, fl⟩ : TS).dlv (srcL p) (⟨kz, fr, q⟩ : Nt)).ref) :: row (.slice (some ⟨gc, 0, none⟩) n kc) 25 1 n cv2 :: row (.slice (some ⟨gd, 0, none⟩) n kd) 3 1 n (ints ((⟨root, unw, par, tent, aw, ref, ch, dec, fl⟩ : TS).dlv (srcL p) (⟨kz, fr, q⟩ : Nt)).dec) :: row (.slice F2 nf2 k2) 97 3 nf2 (ntc ((⟨root, unw, par, tent, aw, ref, ch, dec, fl⟩ : TS).dlv (srcL p) (⟨kz, fr, q⟩ : Nt)).fl) :: cs) w' := ⟨_, rfl⟩
  rw [← hRR]
  have HR := Lib.hid hRR
  clear hRR
  by_cases h1 : kz = 1
  · have HV0 := Lib.hid (show (⟨root, unw, par, tent, aw, ref, ch, dec, fl⟩ : TS).dlv (srcL p) (⟨kz, fr, q⟩ : Nt) = if parN par q = -1 then (⟨root, unw, par, tent, aw, ref, ch, dec, fl⟩ : TS).ask (srcL p) q fr else if opOf ref q = true then (⟨root, unw, par, tent, aw, ref, ch, dec, fl⟩ : TS).post ⟨3, q, fr⟩ else (⟨root, unw, par, tent, aw, ref, ch, dec, fl⟩ : TS).post ⟨2, q, fr⟩ from if_pos h1)
    rw [HPN.out] at HV0
    clear hkz hpk haw haq haq2
    subst h1
    by_cases hz : nth par q = -1
    · have HV := Lib.hid (HV0.out.trans (if_pos hz))
      rw [hz] at hpq
      clear HV0 hz
      go_enter Try.func69, Try.ntmps69
      go_wp2_with ((((((refine oB ?_; (refine sB1 hS rfl rfl ?_)))); clear hS; (((fail_if_success guard_hyp g1); intro g1 w hS)))))
      refine dr_start0 []  hS (by kernel_rfl) rfl ?_; clear hS; intro w hS
      refine dP hS 0 rfl rfl ?_
      (try simp only [Act.put, nA, nB, nC])
      (refine dL1 hS 1 rfl rfl rfl rfl ?_)
      (try simp only [Act.put, nA, nB, nC])
      refine dP hS 2 rfl rfl ?_
      (try simp only [Act.put, nA, nB, nC])
      (refine dL1 hS 3 rfl rfl rfl rfl ?_)
      (try simp only [Act.put, nA, nB, nC])
      refine dA hS 4 rfl rfl rfl ?_
      (try simp only [Act.put, nA, nB, nC])
      refine dA hS 5 rfl rfl rfl ?_
      (try simp only [Act.put, nA, nB, nC])
      refine dr_done (by kernel_rfl) ?_
      go_wp2_with (first | (go_at_call 62; refine (ask_st gm A1 c1 A2 c2 A3 c3 p root n UA uc gp kp gt kt ga ka gr kr gc kc gd kd par aw dec unw tent ref ch cvs fl FA nf fc q fr (hS.re (ds := froz T u :: blk gm [.slice A1 p.len.length c1, .slice A2 p.ck.length c2, .slice A3 p.arcs.length c3, .int .i64 (root : Int), .slice UA n uc, .slice (some ⟨gp, 0, none⟩) n kp, .slice (some ⟨gt, 0, none⟩) n kt, .slice (some ⟨ga, 0, none⟩) n ka, .slice (some ⟨gr, 0, none⟩) n kr, .slice (some ⟨gc, 0, none⟩) n kc, .slice (some ⟨gd, 0, none⟩) n kd, .slice FA nf fc] 91 :: row (.slice (some ⟨gp, 0, none⟩) n kp) 3 1 n (ints par) :: row (.slice (some ⟨gt, 0, none⟩) n kt) 4 1 n (bools tent) :: row (.slice (some ⟨ga, 0, none⟩) n ka) 3 1 n (ints aw) :: row (.slice (some ⟨gr, 0, none⟩) n kr) 4 1 n (bools ref) :: row (.slice (some ⟨gc, 0, none⟩) n kc) 25 1 n cvs :: row (.slice (some ⟨gd, 0, none⟩) n kd) 3 1 n (ints dec) :: row (.slice FA nf fc) 97 3 nf (ntc fl) :: cs)) (by omega) hq hp ht ha hr hd hc hu HPP.out.1 HCH.out HSM.out HPP.out.2.1 HPP.out.2.2.1 HPP.out.2.2.2).mono ?_; rintro e w3 ⟨rfl, T2, u2, cv2, F2, nf2, k2, HT, hS1⟩; clear hS; have hS := hS1; clear hS1) | (refine oL ?_; (first | refine sL1 hS rfl rfl rfl ?_ | refine sL5 hS rfl rfl ?_)))
      go_end0
      rw [HR.out]
      refine ⟨rfl, T2, u2, cv2, F2, nf2, k2, Lib.hid ?_, ?_⟩
      · rw [HV.out]; exact HT.out
      · rw [HV.out]
        first | exact hS | exact hS.re | (simp only [ints, List.map_set] at hS ⊢; exact hS)
    · have HV1 := Lib.hid (HV0.out.trans (if_neg hz))
      have e1 : (nth par q == -1) = false := by simp [hz]
      clear HV0 hz
      generalize opOf ref q = b at *
      generalize nth par q = z at *
      cases b with
      | true =>
        have HV := Lib.hid (HV1.out.trans (if_pos rfl))
        go_enter Try.func69, Try.ntmps69
        go_wp2_with ((((((refine oB ?_; (refine sB1 hS rfl rfl ?_)))); clear hS; (((fail_if_success guard_hyp g1); intro g1 w hS)))))
        refine dr_start0 []  hS (by kernel_rfl) rfl ?_; clear hS; intro w hS
        refine dP hS 0 rfl rfl ?_
        (try simp only [Act.put, nA, nB, nC])
        (refine dL1 hS 1 rfl rfl rfl rfl ?_)
        (try simp only [Act.put, nA, nB, nC])
        refine dP hS 2 rfl rfl ?_
        (try simp only [Act.put, nA, nB, nC])
        (refine dL1 hS 3 rfl rfl rfl rfl ?_)
        (try simp only [Act.put, nA, nB, nC])
        refine dA hS 4 rfl rfl rfl ?_
        (try simp only [Act.put, nA, nB, nC])
        refine dA hS 5 rfl rfl rfl ?_
        (try simp only [Act.put, nA, nB, nC])
        refine dr_done (by kernel_rfl) ?_
        go_wp2_with (first | (go_at_call 96; refine (post_st gm A1 c1 A2 c2 A3 c3 p root n UA uc gp kp gt kt ga ka gr kr gc kc gd kd par aw dec tent ref cvs fl FA nf fc 3 q fr (hS.re (ds := froz T u :: blk gm [.slice A1 p.len.length c1, .slice A2 p.ck.length c2, .slice A3 p.arcs.length c3, .int .i64 (root : Int), .slice UA n uc, .slice (some ⟨gp, 0, none⟩) n kp, .slice (some ⟨gt, 0, none⟩) n kt, .slice (some ⟨ga, 0, none⟩) n ka, .slice (some ⟨gr, 0, none⟩) n kr, .slice (some ⟨gc, 0, none⟩) n kc, .slice (some ⟨gd, 0, none⟩) n kd, .slice FA nf fc] 91 :: row (.slice (some ⟨gp, 0, none⟩) n kp) 3 1 n (ints par) :: row (.slice (some ⟨gt, 0, none⟩) n kt) 4 1 n (bools tent) :: row (.slice (some ⟨ga, 0, none⟩) n ka) 3 1 n (ints aw) :: row (.slice (some ⟨gr, 0, none⟩) n kr) 4 1 n (bools ref) :: row (.slice (some ⟨gc, 0, none⟩) n kc) 25 1 n cvs :: row (.slice (some ⟨gd, 0, none⟩) n kd) 3 1 n (ints dec) :: row (.slice FA nf fc) 97 3 nf (ntc fl) :: cs)) (by omega)).mono ?_; rintro e w3 ⟨rfl, F3, k3, hS1⟩; clear hS; have hS := hS1; clear hS1) | (refine oL ?_; (first | refine sL1 hS rfl rfl rfl ?_ | refine sL5 hS rfl rfl ?_)))
        go_end0
        rw [HR.out]
        refine ⟨rfl, T, u, cvs, F3, nf + 1, k3, Lib.hid ?_, ?_⟩
        · rw [HV.out]; exact ⟨fun k hk _ => ⟨hk, rfl⟩, HCH.out⟩
        · rw [HV.out]
          first | exact hS | exact hS.re | (simp only [ints, List.map_set] at hS ⊢; exact hS)
      | false =>
        have HV := Lib.hid (HV1.out.trans (if_neg (by decide)))
        go_enter Try.func69, Try.ntmps69
        go_wp2_with ((((((refine oB ?_; (refine sB1 hS rfl rfl ?_)))); clear hS; (((fail_if_success guard_hyp g1); intro g1 w hS)))))
        refine dr_start0 []  hS (by kernel_rfl) rfl ?_; clear hS; intro w hS
        refine dP hS 0 rfl rfl ?_
        (try simp only [Act.put, nA, nB, nC])
        (refine dL1 hS 1 rfl rfl rfl rfl ?_)
        (try simp only [Act.put, nA, nB, nC])
        refine dP hS 2 rfl rfl ?_
        (try simp only [Act.put, nA, nB, nC])
        (refine dL1 hS 3 rfl rfl rfl rfl ?_)
        (try simp only [Act.put, nA, nB, nC])
        refine dA hS 4 rfl rfl rfl ?_
        (try simp only [Act.put, nA, nB, nC])
        refine dA hS 5 rfl rfl rfl ?_
        (try simp only [Act.put, nA, nB, nC])
        refine dr_done (by kernel_rfl) ?_
        go_wp2_with (first | (go_at_call 96; refine (post_st gm A1 c1 A2 c2 A3 c3 p root n UA uc gp kp gt kt ga ka gr kr gc kc gd kd par aw dec tent ref cvs fl FA nf fc 2 q fr (hS.re (ds := froz T u :: blk gm [.slice A1 p.len.length c1, .slice A2 p.ck.length c2, .slice A3 p.arcs.length c3, .int .i64 (root : Int), .slice UA n uc, .slice (some ⟨gp, 0, none⟩) n kp, .slice (some ⟨gt, 0, none⟩) n kt, .slice (some ⟨ga, 0, none⟩) n ka, .slice (some ⟨gr, 0, none⟩) n kr, .slice (some ⟨gc, 0, none⟩) n kc, .slice (some ⟨gd, 0, none⟩) n kd, .slice FA nf fc] 91 :: row (.slice (some ⟨gp, 0, none⟩) n kp) 3 1 n (ints par) :: row (.slice (some ⟨gt, 0, none⟩) n kt) 4 1 n (bools tent) :: row (.slice (some ⟨ga, 0, none⟩) n ka) 3 1 n (ints aw) :: row (.slice (some ⟨gr, 0, none⟩) n kr) 4 1 n (bools ref) :: row (.slice (some ⟨gc, 0, none⟩) n kc) 25 1 n cvs :: row (.slice (some ⟨gd, 0, none⟩) n kd) 3 1 n (ints dec) :: row (.slice FA nf fc) 97 3 nf (ntc fl) :: cs)) (by omega)).mono ?_; rintro e w3 ⟨rfl, F3, k3, hS1⟩; clear hS; have hS := hS1; clear hS1) | (refine oL ?_; (first | refine sL1 hS rfl rfl rfl ?_ | refine sL5 hS rfl rfl ?_)))
        go_end0
        rw [HR.out]
        refine ⟨rfl, T, u, cvs, F3, nf + 1, k3, Lib.hid ?_, ?_⟩
        · rw [HV.out]; exact ⟨fun k hk _ => ⟨hk, rfl⟩, HCH.out⟩
        · rw [HV.out]
          first | exact hS | exact hS.re | (simp only [ints, List.map_set] at hS ⊢; exact hS)
  · rcases (show kz = 4 ∨ kz = 5 ∨ kz = 2 ∨ kz = 3 from by rcases hkz with h | h | h | h | h; exact absurd h h1; exact .inr (.inr (.inl h)); exact .inr (.inr (.inr h)); exact .inl h; exact .inr (.inl h)) with rfl | rfl | rfl | rfl
    · have HV0 := Lib.hid (show (⟨root, unw, par, tent, aw, ref, ch, dec, fl⟩ : TS).dlv (srcL p) (⟨4, fr, q⟩ : Nt) = if opOf tent q = true then (⟨root, unw, par, tent, aw, ref, ch, dec, fl⟩ : TS).dcd q 1 else (⟨root, unw, par, tent, aw, ref, ch, dec, fl⟩ : TS) from by unfold TS.dlv; rw [if_neg (show ¬ (4 : Int) = 1 by decide), if_neg (show ¬ ((4 : Int) = 2 ∨ (4 : Int) = 3) by decide), if_pos rfl])
      clear hkz hpk haw haq haq2 h1
      generalize opOf tent q = b at *
      cases b with
      | true =>
        have HV := Lib.hid (HV0.out.trans (if_pos rfl))
        go_enter Try.func69, Try.ntmps69
        go_wp2_with ((((((refine oB ?_; (refine sB1 hS rfl rfl ?_)))); clear hS; (((fail_if_success guard_hyp g1); intro g1 w hS)))))
        refine dr_start0 []  hS (by kernel_rfl) rfl ?_; clear hS; intro w hS
        refine dP hS 0 rfl rfl ?_
        (try simp only [Act.put, nA, nB, nC])
        (refine dL1 hS 1 rfl rfl rfl rfl ?_)
        (try simp only [Act.put, nA, nB, nC])
        refine dP hS 2 rfl rfl ?_
        (try simp only [Act.put, nA, nB, nC])
        (refine dL1 hS 3 rfl rfl rfl rfl ?_)
        (try simp only [Act.put, nA, nB, nC])
        refine dA hS 4 rfl rfl rfl ?_
        (try simp only [Act.put, nA, nB, nC])
        refine dA hS 5 rfl rfl rfl ?_
        (try simp only [Act.put, nA, nB, nC])
        refine dr_done (by kernel_rfl) ?_
        go_wp2_with (first | (go_at_call 100; refine (decide_st gm A1 c1 A2 c2 A3 c3 p root n UA uc gp kp gt kt ga ka gr kr gc kc gd kd par aw dec tent ref cvs fl FA nf fc q 1 (chR ch q) B cB (hS.re (ds := froz T u :: blk gm [.slice A1 p.len.length c1, .slice A2 p.ck.length c2, .slice A3 p.arcs.length c3, .int .i64 (root : Int), .slice UA n uc, .slice (some ⟨gp, 0, none⟩) n kp, .slice (some ⟨gt, 0, none⟩) n kt, .slice (some ⟨ga, 0, none⟩) n ka, .slice (some ⟨gr, 0, none⟩) n kr, .slice (some ⟨gc, 0, none⟩) n kc, .slice (some ⟨gd, 0, none⟩) n kd, .slice FA nf fc] 91 :: row (.slice (some ⟨gp, 0, none⟩) n kp) 3 1 n (ints par) :: row (.slice (some ⟨gt, 0, none⟩) n kt) 4 1 n (bools tent) :: row (.slice (some ⟨ga, 0, none⟩) n ka) 3 1 n (ints aw) :: row (.slice (some ⟨gr, 0, none⟩) n kr) 4 1 n (bools ref) :: row (.slice (some ⟨gc, 0, none⟩) n kc) 25 1 n cvs :: row (.slice (some ⟨gd, 0, none⟩) n kd) 3 1 n (ints dec) :: row (.slice FA nf fc) 97 3 nf (ntc fl) :: cs)) (by omega) hq ht hd HCV.out.1 HCV.out.2 hll (.inl rfl)).mono ?_; rintro e w3 ⟨rfl, F2, k2, hS1⟩; clear hS; have hS := hS1; clear hS1) | (refine oL ?_; (first | refine sL1 hS rfl rfl rfl ?_ | refine sL5 hS rfl rfl ?_)))
        go_end0
        rw [HR.out]
        refine ⟨rfl, T, u, cvs, F2, nf + (chR ch q).length, k2, Lib.hid ?_, ?_⟩
        · rw [HV.out]; exact ⟨fun k hk _ => ⟨hk, rfl⟩, HCH.out⟩
        · rw [HV.out]
          first | exact hS | exact hS.re | (simp only [ints, List.map_set] at hS ⊢; exact hS)
      | false =>
        have HV := Lib.hid (HV0.out.trans (if_neg (by decide)))
        go_enter Try.func69, Try.ntmps69
        go_wp2_with ((((((refine oB ?_; (refine sB1 hS rfl rfl ?_)))); clear hS; (((fail_if_success guard_hyp g1); intro g1 w hS)))))
        refine dr_start0 []  hS (by kernel_rfl) rfl ?_; clear hS; intro w hS
        refine dP hS 0 rfl rfl ?_
        (try simp only [Act.put, nA, nB, nC])
        (refine dL1 hS 1 rfl rfl rfl rfl ?_)
        (try simp only [Act.put, nA, nB, nC])
        refine dP hS 2 rfl rfl ?_
        (try simp only [Act.put, nA, nB, nC])
        (refine dL1 hS 3 rfl rfl rfl rfl ?_)
        (try simp only [Act.put, nA, nB, nC])
        refine dA hS 4 rfl rfl rfl ?_
        (try simp only [Act.put, nA, nB, nC])
        refine dA hS 5 rfl rfl rfl ?_
        (try simp only [Act.put, nA, nB, nC])
        refine dr_done (by kernel_rfl) ?_
        go_wp2_with (((refine oL ?_; (first | refine sL1 hS rfl rfl rfl ?_ | refine sL5 hS rfl rfl ?_))))
        go_end0
        rw [HR.out]
        refine ⟨rfl, T, u, cvs, FA, nf, fc, Lib.hid ?_, ?_⟩
        · rw [HV.out]; exact ⟨fun k hk _ => ⟨hk, rfl⟩, HCH.out⟩
        · rw [HV.out]
          first | exact hS | exact hS.re | (simp only [ints, List.map_set] at hS ⊢; exact hS)
    · have HV0 := Lib.hid (show (⟨root, unw, par, tent, aw, ref, ch, dec, fl⟩ : TS).dlv (srcL p) (⟨5, fr, q⟩ : Nt) = if opOf tent q = true then (if nth aw q = 0 then (⟨root, unw, par, tent, aw, ref, ch, dec, fl⟩ : TS).dcd q 2 else { (⟨root, unw, par, tent, aw, ref, ch, dec, fl⟩ : TS) with ref := ref.set q true }) else (⟨root, unw, par, tent, aw, ref, ch, dec, fl⟩ : TS) from by unfold TS.dlv; rw [if_neg (show ¬ (5 : Int) = 1 by decide), if_neg (show ¬ ((5 : Int) = 2 ∨ (5 : Int) = 3) by decide), if_neg (show ¬ (5 : Int) = 4 by decide)])
      clear hkz hpk haw haq2 h1
      generalize opOf tent q = b at *
      generalize nth aw q = z at *
      cases b with
      | true =>
        by_cases hz : z = 0
        · have e1 : (z == 0) = true := by simp [hz]
          have HV := Lib.hid ((HV0.out.trans (if_pos rfl)).trans (if_pos hz))
          clear hz
          go_enter Try.func69, Try.ntmps69
          go_wp2_with ((((((refine oB ?_; (refine sB1 hS rfl rfl ?_)))); clear hS; (((fail_if_success guard_hyp g1); intro g1 w hS)))))
          refine dr_start0 []  hS (by kernel_rfl) rfl ?_; clear hS; intro w hS
          refine dP hS 0 rfl rfl ?_
          (try simp only [Act.put, nA, nB, nC])
          (refine dL1 hS 1 rfl rfl rfl rfl ?_)
          (try simp only [Act.put, nA, nB, nC])
          refine dP hS 2 rfl rfl ?_
          (try simp only [Act.put, nA, nB, nC])
          (refine dL1 hS 3 rfl rfl rfl rfl ?_)
          (try simp only [Act.put, nA, nB, nC])
          refine dA hS 4 rfl rfl rfl ?_
          (try simp only [Act.put, nA, nB, nC])
          refine dA hS 5 rfl rfl rfl ?_
          (try simp only [Act.put, nA, nB, nC])
          refine dr_done (by kernel_rfl) ?_
          go_upto_region 21 with (((refine oL ?_; ((refine sL1 hS rfl rfl rfl ?_)))))
          refine lR ?_
          refine lM rfl rfl ?_
          (try simp only [Act.put, nA, nB, nC])
          refine lP rfl ?_
          (try simp only [Act.put, nA, nB, nC])
          refine lP rfl ?_
          (try simp only [Act.put, nA, nB, nC])
          refine lP rfl ?_
          (try simp only [Act.put, nA, nB, nC])
          (refine ⟨?_⟩; (((refine sL1 hS rfl rfl rfl ?_))); refine WL.h ?_)
          (try simp only [Act.put, nA, nB, nC])
          refine lM rfl rfl ?_
          (try simp only [Act.put, nA, nB, nC])
          refine lP rfl ?_
          (try simp only [Act.put, nA, nB, nC])
          (refine ⟨?_⟩; (((refine sL5 hS rfl rfl ?_))); refine WL.h ?_)
          (try simp only [Act.put, nA, nB, nC])
          refine lM rfl rfl ?_
          (try simp only [Act.put, nA, nB, nC])
          first | refine lQ rfl ?_ | refine lM rfl rfl ?_ | fail
          (try simp only [Act.put, nA, nB, nC])
          first | refine lQ rfl ?_ | refine lP rfl ?_ | fail
          (try simp only [Act.put, nA, nB, nC])
          first | refine lQ rfl ?_ | refine lP rfl ?_ | fail
          (try simp only [Act.put, nA, nB, nC])
          first | refine lQ rfl ?_ | refine lP rfl ?_ | fail
          (try simp only [Act.put, nA, nB, nC])
          ((refine ⟨?_⟩; (((refine sL1 hS rfl rfl rfl ?_))); refine WL.h ?_))
          (try simp only [Act.put, nA, nB, nC])
          first | refine lQ rfl ?_ | refine lM rfl rfl ?_ | fail
          (try simp only [Act.put, nA, nB, nC])
          first | refine lQ rfl ?_ | refine lP rfl ?_ | fail
          (try simp only [Act.put, nA, nB, nC])
          ((refine ⟨?_⟩; (((refine sL5 hS rfl rfl ?_))); refine WL.h ?_))
          (try simp only [Act.put, nA, nB, nC])
          first | refine lQ rfl ?_ | refine lP rfl ?_ | fail
          (try simp only [Act.put, nA, nB, nC])
          refine lP rfl ?_
          (try simp only [Act.put, nA, nB, nC])
          refine lA rfl rfl ?_
          (try simp only [Act.put, nA, nB, nC])
          refine lZ ?_
          go_wp2_with (((go_at_call 100; refine (decide_st gm A1 c1 A2 c2 A3 c3 p root n UA uc gp kp gt kt ga ka gr kr gc kc gd kd par aw dec tent ref cvs fl FA nf fc q 2 (chR ch q) B cB (hS.re (ds := froz T u :: blk gm [.slice A1 p.len.length c1, .slice A2 p.ck.length c2, .slice A3 p.arcs.length c3, .int .i64 (root : Int), .slice UA n uc, .slice (some ⟨gp, 0, none⟩) n kp, .slice (some ⟨gt, 0, none⟩) n kt, .slice (some ⟨ga, 0, none⟩) n ka, .slice (some ⟨gr, 0, none⟩) n kr, .slice (some ⟨gc, 0, none⟩) n kc, .slice (some ⟨gd, 0, none⟩) n kd, .slice FA nf fc] 91 :: row (.slice (some ⟨gp, 0, none⟩) n kp) 3 1 n (ints par) :: row (.slice (some ⟨gt, 0, none⟩) n kt) 4 1 n (bools tent) :: row (.slice (some ⟨ga, 0, none⟩) n ka) 3 1 n (ints aw) :: row (.slice (some ⟨gr, 0, none⟩) n kr) 4 1 n (bools ref) :: row (.slice (some ⟨gc, 0, none⟩) n kc) 25 1 n cvs :: row (.slice (some ⟨gd, 0, none⟩) n kd) 3 1 n (ints dec) :: row (.slice FA nf fc) 97 3 nf (ntc fl) :: cs)) (by omega) hq ht hd HCV.out.1 HCV.out.2 hll (.inr rfl)).mono ?_; rintro e w3 ⟨rfl, F2, k2, hS1⟩; clear hS; have hS := hS1; clear hS1)))
          go_end0
          rw [HR.out]
          refine ⟨rfl, T, u, cvs, F2, nf + (chR ch q).length, k2, Lib.hid ?_, ?_⟩
          · rw [HV.out]; exact ⟨fun k hk _ => ⟨hk, rfl⟩, HCH.out⟩
          · rw [HV.out]
            first | exact hS | exact hS.re | (simp only [ints, List.map_set] at hS ⊢; exact hS)
        · have e1 : (z == 0) = false := by simp [hz]
          have HV := Lib.hid ((HV0.out.trans (if_pos rfl)).trans (if_neg hz))
          clear hz
          go_enter Try.func69, Try.ntmps69
          go_wp2_with ((((((refine oB ?_; (refine sB1 hS rfl rfl ?_)))); clear hS; (((fail_if_success guard_hyp g1); intro g1 w hS)))))
          refine dr_start0 []  hS (by kernel_rfl) rfl ?_; clear hS; intro w hS
          refine dP hS 0 rfl rfl ?_
          (try simp only [Act.put, nA, nB, nC])
          (refine dL1 hS 1 rfl rfl rfl rfl ?_)
          (try simp only [Act.put, nA, nB, nC])
          refine dP hS 2 rfl rfl ?_
          (try simp only [Act.put, nA, nB, nC])
          (refine dL1 hS 3 rfl rfl rfl rfl ?_)
          (try simp only [Act.put, nA, nB, nC])
          refine dA hS 4 rfl rfl rfl ?_
          (try simp only [Act.put, nA, nB, nC])
          refine dA hS 5 rfl rfl rfl ?_
          (try simp only [Act.put, nA, nB, nC])
          refine dr_done (by kernel_rfl) ?_
          go_upto_region 21 with (((refine oL ?_; ((refine sL1 hS rfl rfl rfl ?_)))))
          refine lR ?_
          refine lM rfl rfl ?_
          (try simp only [Act.put, nA, nB, nC])
          refine lP rfl ?_
          (try simp only [Act.put, nA, nB, nC])
          refine lP rfl ?_
          (try simp only [Act.put, nA, nB, nC])
          refine lP rfl ?_
          (try simp only [Act.put, nA, nB, nC])
          (refine ⟨?_⟩; (((refine sL1 hS rfl rfl rfl ?_))); refine WL.h ?_)
          (try simp only [Act.put, nA, nB, nC])
          refine lM rfl rfl ?_
          (try simp only [Act.put, nA, nB, nC])
          refine lP rfl ?_
          (try simp only [Act.put, nA, nB, nC])
          (refine ⟨?_⟩; (((refine sL5 hS rfl rfl ?_))); refine WL.h ?_)
          (try simp only [Act.put, nA, nB, nC])
          refine lM rfl rfl ?_
          (try simp only [Act.put, nA, nB, nC])
          first | refine lQ rfl ?_ | refine lM rfl rfl ?_ | fail
          (try simp only [Act.put, nA, nB, nC])
          first | refine lQ rfl ?_ | refine lP rfl ?_ | fail
          (try simp only [Act.put, nA, nB, nC])
          first | refine lQ rfl ?_ | refine lP rfl ?_ | fail
          (try simp only [Act.put, nA, nB, nC])
          first | refine lQ rfl ?_ | refine lP rfl ?_ | fail
          (try simp only [Act.put, nA, nB, nC])
          ((refine ⟨?_⟩; (((refine sL1 hS rfl rfl rfl ?_))); refine WL.h ?_))
          (try simp only [Act.put, nA, nB, nC])
          first | refine lQ rfl ?_ | refine lM rfl rfl ?_ | fail
          (try simp only [Act.put, nA, nB, nC])
          first | refine lQ rfl ?_ | refine lP rfl ?_ | fail
          (try simp only [Act.put, nA, nB, nC])
          ((refine ⟨?_⟩; (((refine sL5 hS rfl rfl ?_))); refine WL.h ?_))
          (try simp only [Act.put, nA, nB, nC])
          first | refine lQ rfl ?_ | refine lP rfl ?_ | fail
          (try simp only [Act.put, nA, nB, nC])
          refine lP rfl ?_
          (try simp only [Act.put, nA, nB, nC])
          refine lA rfl rfl ?_
          (try simp only [Act.put, nA, nB, nC])
          refine lZ ?_
          go_wp2_with (first | (refine oS ?_; refine sS6 hS rfl rfl rfl (by omega) ?_; clear hS; intro w hS) | (refine oL ?_; (first | refine sL1 hS rfl rfl rfl ?_ | refine sL5 hS rfl rfl ?_)))
          go_end0
          (try simp only [List.set_cons_zero, List.set_cons_succ] at hS)
          rw [HR.out]
          refine ⟨rfl, T, u, cvs, FA, nf, fc, Lib.hid ?_, ?_⟩
          · rw [HV.out]; exact ⟨fun k hk _ => ⟨hk, rfl⟩, HCH.out⟩
          · rw [HV.out]
            first | exact hS | exact hS.re | (simp only [ints, List.map_set] at hS ⊢; exact hS)
      | false =>
        have HV := Lib.hid (HV0.out.trans (if_neg (by decide)))
        go_enter Try.func69, Try.ntmps69
        go_wp2_with ((((((refine oB ?_; (refine sB1 hS rfl rfl ?_)))); clear hS; (((fail_if_success guard_hyp g1); intro g1 w hS)))))
        refine dr_start0 []  hS (by kernel_rfl) rfl ?_; clear hS; intro w hS
        refine dP hS 0 rfl rfl ?_
        (try simp only [Act.put, nA, nB, nC])
        (refine dL1 hS 1 rfl rfl rfl rfl ?_)
        (try simp only [Act.put, nA, nB, nC])
        refine dP hS 2 rfl rfl ?_
        (try simp only [Act.put, nA, nB, nC])
        (refine dL1 hS 3 rfl rfl rfl rfl ?_)
        (try simp only [Act.put, nA, nB, nC])
        refine dA hS 4 rfl rfl rfl ?_
        (try simp only [Act.put, nA, nB, nC])
        refine dA hS 5 rfl rfl rfl ?_
        (try simp only [Act.put, nA, nB, nC])
        refine dr_done (by kernel_rfl) ?_
        go_upto_region 21 with (((refine oL ?_; ((refine sL1 hS rfl rfl rfl ?_)))))
        refine lR ?_
        refine lM rfl rfl ?_
        (try simp only [Act.put, nA, nB, nC])
        refine lP rfl ?_
        (try simp only [Act.put, nA, nB, nC])
        refine lP rfl ?_
        (try simp only [Act.put, nA, nB, nC])
        refine lP rfl ?_
        (try simp only [Act.put, nA, nB, nC])
        (refine ⟨?_⟩; (((refine sL1 hS rfl rfl rfl ?_))); refine WL.h ?_)
        (try simp only [Act.put, nA, nB, nC])
        refine lM rfl rfl ?_
        (try simp only [Act.put, nA, nB, nC])
        refine lP rfl ?_
        (try simp only [Act.put, nA, nB, nC])
        (refine ⟨?_⟩; (((refine sL5 hS rfl rfl ?_))); refine WL.h ?_)
        (try simp only [Act.put, nA, nB, nC])
        refine lM rfl rfl ?_
        (try simp only [Act.put, nA, nB, nC])
        first | refine lQ rfl ?_ | refine lM rfl rfl ?_ | fail
        (try simp only [Act.put, nA, nB, nC])
        first | refine lQ rfl ?_ | refine lP rfl ?_ | fail
        (try simp only [Act.put, nA, nB, nC])
        first | refine lQ rfl ?_ | refine lP rfl ?_ | fail
        (try simp only [Act.put, nA, nB, nC])
        first | refine lQ rfl ?_ | refine lP rfl ?_ | fail
        (try simp only [Act.put, nA, nB, nC])
        (refine lQ rfl ?_)
        (try simp only [Act.put, nA, nB, nC])
        first | refine lQ rfl ?_ | refine lM rfl rfl ?_ | fail
        (try simp only [Act.put, nA, nB, nC])
        first | refine lQ rfl ?_ | refine lP rfl ?_ | fail
        (try simp only [Act.put, nA, nB, nC])
        (refine lQ rfl ?_)
        (try simp only [Act.put, nA, nB, nC])
        first | refine lQ rfl ?_ | refine lP rfl ?_ | fail
        (try simp only [Act.put, nA, nB, nC])
        refine lP rfl ?_
        (try simp only [Act.put, nA, nB, nC])
        refine lA rfl rfl ?_
        (try simp only [Act.put, nA, nB, nC])
        refine lZ ?_
        go_wp2_with (((refine oL ?_; (first | refine sL1 hS rfl rfl rfl ?_ | refine sL5 hS rfl rfl ?_))))
        go_end0
        rw [HR.out]
        refine ⟨rfl, T, u, cvs, FA, nf, fc, Lib.hid ?_, ?_⟩
        · rw [HV.out]; exact ⟨fun k hk _ => ⟨hk, rfl⟩, HCH.out⟩
        · rw [HV.out]
          first | exact hS | exact hS.re | (simp only [ints, List.map_set] at hS ⊢; exact hS)
    · obtain ⟨pk, hpk⟩ := hpk (by decide)
      have HPK := Lib.hid hpk
      have HCA := HCV
      have HG := Lib.hid (show (⟨root, unw, par, tent, aw, ref, ch, dec, fl⟩ : TS).dlv (srcL p) (⟨2, fr, q⟩ : Nt) = if nth (aw.set q (nth aw q - 1)) q = 0 then ({ (⟨root, unw, par, tent, aw, ref, ch, dec, fl⟩ : TS) with aw := (aw.set q (nth aw q - 1)) } : TS).ans q else { (⟨root, unw, par, tent, aw, ref, ch, dec, fl⟩ : TS) with aw := (aw.set q (nth aw q - 1)) } from by unfold TS.dlv; rw [if_neg (show ¬ (2 : Int) = 1 by decide), if_pos (show ((2 : Int) = 2 ∨ (2 : Int) = 3) by decide)]; unfold TS.got; rw [if_neg (show ¬ (2 : Int) = 3 by decide)])
      rw [nth_set_same hqa] at HG
      clear hkz hpk h1
      obtain ⟨haw0, haw1⟩ := haw
      generalize nth aw q = z at *
      by_cases hz : z - 1 = 0
      · have e1 : ((z - 1) == 0) = true := by simp [hz]
        have HV := Lib.hid (HG.out.trans (if_pos hz))
        clear hz
        go_enter Try.func69, Try.ntmps69
        go_wp2_with ((((((refine oB ?_; (refine sB1 hS rfl rfl ?_)))); clear hS; (((fail_if_success guard_hyp g1); intro g1 w hS)))))
        refine dr_start0 []  hS (by kernel_rfl) rfl ?_; clear hS; intro w hS
        refine dP hS 0 rfl rfl ?_
        (try simp only [Act.put, nA, nB, nC])
        (refine dL1 hS 1 rfl rfl rfl rfl ?_)
        (try simp only [Act.put, nA, nB, nC])
        refine dP hS 2 rfl rfl ?_
        (try simp only [Act.put, nA, nB, nC])
        (refine dL1 hS 3 rfl rfl rfl rfl ?_)
        (try simp only [Act.put, nA, nB, nC])
        refine dA hS 4 rfl rfl rfl ?_
        (try simp only [Act.put, nA, nB, nC])
        refine dA hS 5 rfl rfl rfl ?_
        (try simp only [Act.put, nA, nB, nC])
        refine dr_done (by kernel_rfl) ?_
        go_wp2_with (first | (go_at_call 95; refine (answer_st gm A1 c1 A2 c2 A3 c3 p root n UA uc gp kp gt kt ga ka gr kr gc kc gd kd par (aw.set q (z - 1)) dec unw tent ref ch cvs fl FA nf fc q pk B cB (hS.re (ds := froz T u :: blk gm [.slice A1 p.len.length c1, .slice A2 p.ck.length c2, .slice A3 p.arcs.length c3, .int .i64 (root : Int), .slice UA n uc, .slice (some ⟨gp, 0, none⟩) n kp, .slice (some ⟨gt, 0, none⟩) n kt, .slice (some ⟨ga, 0, none⟩) n ka, .slice (some ⟨gr, 0, none⟩) n kr, .slice (some ⟨gc, 0, none⟩) n kc, .slice (some ⟨gd, 0, none⟩) n kd, .slice FA nf fc] 91 :: row (.slice (some ⟨gp, 0, none⟩) n kp) 3 1 n (ints par) :: row (.slice (some ⟨gt, 0, none⟩) n kt) 4 1 n (bools tent) :: row (.slice (some ⟨ga, 0, none⟩) n ka) 3 1 n (ints (aw.set q (z - 1))) :: row (.slice (some ⟨gr, 0, none⟩) n kr) 4 1 n (bools ref) :: row (.slice (some ⟨gc, 0, none⟩) n kc) 25 1 n cvs :: row (.slice (some ⟨gd, 0, none⟩) n kd) 3 1 n (ints dec) :: row (.slice FA nf fc) 97 3 nf (ntc fl) :: cs)) (by omega) hq hp ht (by (exact hr)) hd HCA.out.1 HCA.out.2 hll (fun _ => HPK.out)).mono ?_; rintro e w3 ⟨rfl, F2, nf2, k2, hS1⟩; clear hS; have hS := hS1; clear hS1) | (refine oL ?_; (first | refine sL1 hS rfl rfl rfl ?_ | refine sL5 hS rfl rfl ?_)) | (refine oS ?_; (((refine sS2 hS rfl rfl rfl ?_)); clear hS; intro w hS)))
        go_end0
        rw [HR.out]
        refine ⟨rfl, T, u, cvs, F2, nf2, k2, Lib.hid ?_, ?_⟩
        · rw [HV.out, (ans_par _ _).2.2.2]; exact ⟨fun k hk _ => ⟨hk, rfl⟩, HCH.out⟩
        · rw [HV.out, (ans_par _ _).1, (ans_par _ _).2.1, (ans_par _ _).2.2.1]
          first | exact hS | exact hS.re | (simp only [ints, List.map_set] at hS ⊢; exact hS)
      · have e1 : ((z - 1) == 0) = false := by simp [hz]
        have HV := Lib.hid (HG.out.trans (if_neg hz))
        clear hz
        go_enter Try.func69, Try.ntmps69
        go_wp2_with ((((((refine oB ?_; (refine sB1 hS rfl rfl ?_)))); clear hS; (((fail_if_success guard_hyp g1); intro g1 w hS)))))
        refine dr_start0 []  hS (by kernel_rfl) rfl ?_; clear hS; intro w hS
        refine dP hS 0 rfl rfl ?_
        (try simp only [Act.put, nA, nB, nC])
        (refine dL1 hS 1 rfl rfl rfl rfl ?_)
        (try simp only [Act.put, nA, nB, nC])
        refine dP hS 2 rfl rfl ?_
        (try simp only [Act.put, nA, nB, nC])
        (refine dL1 hS 3 rfl rfl rfl rfl ?_)
        (try simp only [Act.put, nA, nB, nC])
        refine dA hS 4 rfl rfl rfl ?_
        (try simp only [Act.put, nA, nB, nC])
        refine dA hS 5 rfl rfl rfl ?_
        (try simp only [Act.put, nA, nB, nC])
        refine dr_done (by kernel_rfl) ?_
        go_wp2_with (first | (refine oL ?_; (first | refine sL1 hS rfl rfl rfl ?_ | refine sL5 hS rfl rfl ?_)) | (refine oS ?_; (((refine sS2 hS rfl rfl rfl ?_)); clear hS; intro w hS)))
        go_end0
        rw [HR.out]
        refine ⟨rfl, T, u, cvs, FA, nf, fc, Lib.hid ?_, ?_⟩
        · rw [HV.out]; exact ⟨fun k hk _ => ⟨hk, rfl⟩, HCH.out⟩
        · rw [HV.out]
          first | exact hS | exact hS.re | (simp only [ints, List.map_set] at hS ⊢; exact hS)
    · obtain ⟨pk, hpk⟩ := hpk (by decide)
      have HPK := Lib.hid hpk
      have HG := Lib.hid (show (⟨root, unw, par, tent, aw, ref, ch, dec, fl⟩ : TS).dlv (srcL p) (⟨3, fr, q⟩ : Nt) = if nth (aw.set q (nth aw q - 1)) q = 0 then (⟨root, unw, par, tent, (aw.set q (nth aw q - 1)), ref.set q true, ch.set q ((chR ch q).filter (fun y => y != fr)), dec, fl⟩ : TS).ans q else (⟨root, unw, par, tent, (aw.set q (nth aw q - 1)), ref.set q true, ch.set q ((chR ch q).filter (fun y => y != fr)), dec, fl⟩ : TS) from by unfold TS.dlv; rw [if_neg (show ¬ (3 : Int) = 1 by decide), if_pos (show ((3 : Int) = 2 ∨ (3 : Int) = 3) by decide)]; unfold TS.got; rw [if_pos rfl])
      rw [nth_set_same hqa] at HG
      clear hkz hpk h1
      obtain ⟨haw0, haw1⟩ := haw
      generalize nth aw q = z at *
      have hfl := List.length_filter_le (fun y => y != fr) (chR ch q)
      have hcv := HCV.out.1
      have hqr : q < ref.length := by omega
      go_enter Try.func69, Try.ntmps69
      go_wp2_with ((((((refine oB ?_; (refine sB1 hS rfl rfl ?_)))); clear hS; (((fail_if_success guard_hyp g1); intro g1 w hS)))))
      refine dr_start0 []  hS (by kernel_rfl) rfl ?_; clear hS; intro w hS
      refine dP hS 0 rfl rfl ?_
      (try simp only [Act.put, nA, nB, nC])
      (refine dL1 hS 1 rfl rfl rfl rfl ?_)
      (try simp only [Act.put, nA, nB, nC])
      refine dP hS 2 rfl rfl ?_
      (try simp only [Act.put, nA, nB, nC])
      (refine dL1 hS 3 rfl rfl rfl rfl ?_)
      (try simp only [Act.put, nA, nB, nC])
      refine dA hS 4 rfl rfl rfl ?_
      (try simp only [Act.put, nA, nB, nC])
      refine dA hS 5 rfl rfl rfl ?_
      (try simp only [Act.put, nA, nB, nC])
      refine dr_done (by kernel_rfl) ?_
      go_upto_region 13 with (first | (refine oL ?_; (first | refine sL1 hS rfl rfl rfl ?_ | refine sL5 hS rfl rfl ?_)) | (refine oS ?_; (((refine sS2 hS rfl rfl rfl ?_)); clear hS; intro w hS)))
      have hqc : q < cvs.length := by omega
      refine dr_start1 [17] 7 hS (by kernel_rfl) rfl ?_; clear hS; intro w hS
      refine dM hS 0 rfl rfl rfl ?_
      (try simp only [Act.put, nA, nB, nC])
      refine dP hS 1 rfl rfl ?_
      (try simp only [Act.put, nA, nB, nC])
      refine dP hS 2 rfl rfl ?_
      (try simp only [Act.put, nA, nB, nC])
      refine dP hS 3 rfl rfl ?_
      (try simp only [Act.put, nA, nB, nC])
      (refine dL1 hS 4 rfl rfl rfl rfl ?_)
      (try simp only [Act.put, nA, nB, nC])
      refine dM hS 5 rfl rfl rfl ?_
      (try simp only [Act.put, nA, nB, nC])
      refine dM hS 6 rfl rfl rfl ?_
      (try simp only [Act.put, nA, nB, nC])
      refine dP hS 7 rfl rfl ?_
      (try simp only [Act.put, nA, nB, nC])
      refine dP hS 8 rfl rfl ?_
      (try simp only [Act.put, nA, nB, nC])
      refine dP hS 9 rfl rfl ?_
      (try simp only [Act.put, nA, nB, nC])
      (refine dL1 hS 10 rfl rfl rfl rfl ?_)
      (try simp only [Act.put, nA, nB, nC])
      refine dM hS 11 rfl rfl rfl ?_
      (try simp only [Act.put, nA, nB, nC])
      refine dP hS 12 rfl rfl ?_
      (try simp only [Act.put, nA, nB, nC])
      refine dM hS 14 rfl rfl rfl ?_
      (try simp only [Act.put, nA, nB, nC])
      refine dr_one 13 (by kernel_rfl) rfl ?_
      (first | refine sL1 hS rfl rfl rfl ?_ | refine sL2 hS rfl rfl rfl ?_ | refine sL3 hS rfl rfl ?_ | refine sL4 hS rfl rfl ?_ | refine sL5 hS rfl rfl ?_ | refine sL6 hS rfl rfl ?_ | refine sL7 hS rfl rfl ?_)
      (try simp only [Act.put, nA, nB, nC])
      refine dr_end hS ?_
      refine dr_one 15 (by kernel_rfl) rfl ?_
      (refine st_call rfl (by kernel_rfl) rfl ?_; go_at_call 99; refine (without_any B cB (chR ch q).length (chR ch q) fr _ (HCV.out.2.into hS.frozInto) rfl (by omega)).mono ?_; rintro e w ⟨L5, c5, rfl, ho, hx⟩; replace hS := hS.addRow ho hx; clear ho hx)
      (try simp only [Act.put, nA, nB, nC])
      refine dr_end hS ?_
      refine dP hS 16 rfl rfl ?_
      (try simp only [Act.put, nA, nB, nC])
      refine dr_one 17 (by kernel_rfl) rfl ?_
      (((refine sS3 hS rfl rfl rfl ?_)); clear hS; intro w hS)
      (try simp only [Act.put, nA, nB, nC])
      refine dr_late (by kernel_rfl) ?_
      refine dr_done (by kernel_rfl) ?_
      have HFI := Lib.hid (show (chR ch q).filter (fun y => y != fr) = (chR ch q).filter (fun y => y != fr) from rfl)
      generalize (chR ch q).filter (fun y => y != fr) = fi at *
      generalize hm5 : fi.length = m5 at *
      have HM5 := Lib.hid hm5
      clear hm5
      have hcap := Lib.hid (hS.rowForm L5)
      go_upto_region 15 with (first | (refine oS ?_; refine sS6 hS rfl rfl rfl (by omega) ?_; clear hS; intro w hS) | (refine oL ?_; ((refine sL1 hS rfl rfl rfl ?_))))
      have hS1 := (hS.re (ds := row (.slice L5 m5 c5) 3 1 m5 (ints (nats fi)) :: froz T u :: blk gm [.slice A1 p.len.length c1, .slice A2 p.ck.length c2, .slice A3 p.arcs.length c3, .int .i64 (root : Int), .slice UA n uc, .slice (some ⟨gp, 0, none⟩) n kp, .slice (some ⟨gt, 0, none⟩) n kt, .slice (some ⟨ga, 0, none⟩) n ka, .slice (some ⟨gr, 0, none⟩) n kr, .slice (some ⟨gc, 0, none⟩) n kc, .slice (some ⟨gd, 0, none⟩) n kd, .slice FA nf fc] 91 :: row (.slice (some ⟨gp, 0, none⟩) n kp) 3 1 n (ints par) :: row (.slice (some ⟨gt, 0, none⟩) n kt) 4 1 n (bools tent) :: row (.slice (some ⟨ga, 0, none⟩) n ka) 3 1 n (ints (aw.set q (z - 1))) :: row (.slice (some ⟨gr, 0, none⟩) n kr) 4 1 n (bools (ref.set q true)) :: row (.slice (some ⟨gc, 0, none⟩) n kc) 25 1 n (cvs.set q (.slice L5 m5 c5)) :: row (.slice (some ⟨gd, 0, none⟩) n kd) 3 1 n (ints dec) :: row (.slice FA nf fc) 97 3 nf (ntc fl) :: cs)).freezeV
      clear hS
      obtain ⟨T2, hS, hi, hrv⟩ := hS1
      have hcm : m5 ≤ c5 ∧ c5 ≤ 9223372036854775807 := hcap.out
      have HI := Lib.hid (And.intro hi hrv)
      clear hi hrv
      have HC2 := Lib.hid (show Rw2 (ReV T2 w) (cvs.set q (.slice L5 m5 c5)) ((ch.set q fi).map nats) from by
        rw [List.map_set]
        exact (HCH.out.mono (ReV.into HI.out.1)).set q ⟨L5, c5, by rw [List.length_map, HM5.out], by rw [List.length_map, HM5.out]; exact hcm.1, hcm.2, HI.out.2⟩)
      have hcq : (cvs.set q (.slice L5 m5 c5))[q]? = some (.slice L5 (chR (ch.set q fi) q).length c5) := by
        rw [chR_set_same (by omega), HM5.out, List.getElem?_set_self (by omega)]
      have HCA := Lib.hid (And.intro hcq (show RI T2 w L5 (nats (chR (ch.set q fi) q)) by rw [chR_set_same (by omega)]; exact HI.out.2))
      have hl5 : (chR (ch.set q fi) q).length ≤ 5 := by rw [chR_set_same (by omega), HM5.out]; omega
      clear hcq
      by_cases hz : z - 1 = 0
      · have e1 : ((z - 1) == 0) = true := by simp [hz]
        have HV := Lib.hid (HG.out.trans (if_pos hz))
        clear hz
        go_wp2_with (first | (go_at_call 95; refine (answer_st gm A1 c1 A2 c2 A3 c3 p root n UA uc gp kp gt kt ga ka gr kr gc kc gd kd par (aw.set q (z - 1)) dec unw tent (ref.set q true) (ch.set q fi) (cvs.set q (.slice L5 m5 c5)) fl FA nf fc q pk L5 c5 (hS.re (ds := froz T2 w :: blk gm [.slice A1 p.len.length c1, .slice A2 p.ck.length c2, .slice A3 p.arcs.length c3, .int .i64 (root : Int), .slice UA n uc, .slice (some ⟨gp, 0, none⟩) n kp, .slice (some ⟨gt, 0, none⟩) n kt, .slice (some ⟨ga, 0, none⟩) n ka, .slice (some ⟨gr, 0, none⟩) n kr, .slice (some ⟨gc, 0, none⟩) n kc, .slice (some ⟨gd, 0, none⟩) n kd, .slice FA nf fc] 91 :: row (.slice (some ⟨gp, 0, none⟩) n kp) 3 1 n (ints par) :: row (.slice (some ⟨gt, 0, none⟩) n kt) 4 1 n (bools tent) :: row (.slice (some ⟨ga, 0, none⟩) n ka) 3 1 n (ints (aw.set q (z - 1))) :: row (.slice (some ⟨gr, 0, none⟩) n kr) 4 1 n (bools (ref.set q true)) :: row (.slice (some ⟨gc, 0, none⟩) n kc) 25 1 n (cvs.set q (.slice L5 m5 c5)) :: row (.slice (some ⟨gd, 0, none⟩) n kd) 3 1 n (ints dec) :: row (.slice FA nf fc) 97 3 nf (ntc fl) :: cs)) (by omega) hq hp ht (by rw [List.length_set]; exact hr) hd HCA.out.1 HCA.out.2 hl5 (fun _ => HPK.out)).mono ?_; rintro e w3 ⟨rfl, F2, nf2, k2, hS1⟩; clear hS; have hS := hS1; clear hS1) | (refine oL ?_; (first | refine sL1 hS rfl rfl rfl ?_ | refine sL5 hS rfl rfl ?_)))
        go_end0
        rw [HR.out]
        refine ⟨rfl, T2, w, (cvs.set q (.slice L5 m5 c5)), F2, nf2, k2, Lib.hid ?_, ?_⟩
        · rw [HV.out, (ans_par _ _).2.2.2]; exact ⟨HI.out.1, HC2.out⟩
        · rw [HV.out, (ans_par _ _).1, (ans_par _ _).2.1, (ans_par _ _).2.2.1]
          first | exact hS | exact hS.re | (simp only [ints, List.map_set] at hS ⊢; exact hS)
      · have e1 : ((z - 1) == 0) = false := by simp [hz]
        have HV := Lib.hid (HG.out.trans (if_neg hz))
        clear hz
        go_wp2_with (((refine oL ?_; (first | refine sL1 hS rfl rfl rfl ?_ | refine sL5 hS rfl rfl ?_))))
        go_end0
        rw [HR.out]
        refine ⟨rfl, T2, w, (cvs.set q (.slice L5 m5 c5)), FA, nf, fc, Lib.hid ?_, ?_⟩
        · rw [HV.out]; exact ⟨HI.out.1, HC2.out⟩
        · rw [HV.out]
          first | exact hS | exact hS.re | (simp only [ints, List.map_set] at hS ⊢; exact hS)
end Go.Proofs.Ytmjmdncdmmcmaaa
