/- The machine of two-phase checkpointing: ask. Conditions: the machine is a call's own, its lists are short. -/
import Derived.Test.YtmjmdncdmmcmaaaGh
namespace Go.Proofs.Ytmjmdncdmmcmaaa
open Go.RowKit Tph
set_option linter.unusedVariables false
set_option linter.unusedSimpArgs false
set_option linter.unusedSectionVars false

theorem ans_par (t : TS) (q : Nat) : (t.ans q).par = t.par ∧ (t.ans q).aw = t.aw ∧ (t.ans q).ref = t.ref ∧ (t.ans q).ch = t.ch := by
  unfold TS.ans
  by_cases h1 : q = t.root
  · rw [if_pos h1]
    by_cases h2 : opOf t.ref q = true
    · rw [if_pos h2]; exact ⟨rfl, rfl, rfl, rfl⟩
    · rw [if_neg h2]; exact ⟨rfl, rfl, rfl, rfl⟩
  · rw [if_neg h1]
    by_cases h2 : opOf t.ref q = true
    · rw [if_pos h2]; exact ⟨rfl, rfl, rfl, rfl⟩
    · rw [if_neg h2]; exact ⟨rfl, rfl, rfl, rfl⟩
theorem chr_at {T : Nat → Prop} {u : World} {cvs : List Value} {ch : List (List Nat)} (h : Rw2 (ReV T u) cvs (ch.map nats)) {q : Nat} (hq : q < ch.length) : ∃ B c, cvs[q]? = some (.slice B (chR ch q).length c) ∧ (chR ch q).length ≤ c ∧ c ≤ 9223372036854775807 ∧ RI T u B (nats (chR ch q)) := by
  have h1 : q < cvs.length := by rw [h.n, List.length_map]; exact hq
  have h2 := h.k q h1 (by rw [List.length_map]; exact hq)
  rw [List.getElem_map] at h2
  obtain ⟨B, c, e, h3, h4, h5⟩ := h2
  have e2 : ch[q] = chR ch q := by simp [chR, hq]
  rw [e2, List.length_map] at h3 e
  rw [e2] at h5
  exact ⟨B, c, by rw [List.getElem?_eq_getElem h1, e], h3, h4, h5⟩
theorem chR_mem {ch : List (List Nat)} {q : Nat} (hq : q < ch.length) : chR ch q ∈ ch := by
  have e2 : ch[q] = chR ch q := by simp [chR, hq]
  rw [← e2]; exact List.getElem_mem hq
theorem chR_set_same {ch : List (List Nat)} {q : Nat} (hq : q < ch.length) (l : List Nat) : chR (ch.set q l) q = l := by simp [chR, hq]
set_option maxRecDepth 100000 in
set_option maxHeartbeats 6400000 in
theorem ask_st {w0 w u : World} {M T : Nat → Prop} {cs : List (Chunk w0 M)} (gm : Nat) (A1 : Option Addr) (c1 : Nat) (A2 : Option Addr) (c2 : Nat) (A3 : Option Addr) (c3 : Nat) (p : Pat) (root n : Nat) (UA : Option Addr) (uc gp kp gt kt ga ka gr kr gc kc gd kd : Nat) (par aw dec : List Int) (unw tent ref : List Bool) (ch : List (List Nat)) (cvs : List Value) (fl : List Nt) (FA : Option Addr) (nf fc : Nat) (q r : Nat) (hS : St w0 M (froz T u :: blk gm [.slice A1 p.len.length c1, .slice A2 p.ck.length c2, .slice A3 p.arcs.length c3, .int .i64 (root : Int), .slice UA n uc, .slice (some ⟨gp, 0, none⟩) n kp, .slice (some ⟨gt, 0, none⟩) n kt, .slice (some ⟨ga, 0, none⟩) n ka, .slice (some ⟨gr, 0, none⟩) n kr, .slice (some ⟨gc, 0, none⟩) n kc, .slice (some ⟨gd, 0, none⟩) n kd, .slice FA nf fc] 91 :: row (.slice (some ⟨gp, 0, none⟩) n kp) 3 1 n (ints par) :: row (.slice (some ⟨gt, 0, none⟩) n kt) 4 1 n (bools tent) :: row (.slice (some ⟨ga, 0, none⟩) n ka) 3 1 n (ints aw) :: row (.slice (some ⟨gr, 0, none⟩) n kr) 4 1 n (bools ref) :: row (.slice (some ⟨gc, 0, none⟩) n kc) 25 1 n cvs :: row (.slice (some ⟨gd, 0, none⟩) n kd) 3 1 n (ints dec) :: row (.slice FA nf fc) 97 3 nf (ntc fl) :: cs) w) (hb : nf ≤ 1800) (hq : q < n) (hp : par.length = n) (ht : tent.length = n) (ha : aw.length = n) (hr : ref.length = n) (hd : dec.length = n) (hc : ch.length = n) (hu : unw.length = n) (hun : RV T u UA (bools unw)) (hch : Rw2 (ReV T u) cvs (ch.map nats)) (hsm : ∀ l ∈ ch, l.length ≤ 5) (hpa : PatAt T u ⟨A1, c1, A2, c2, A3, c3⟩ p) (hg : Good p) (hn : p.len.length = n) :
    Calls Try.prog 62 #[.pointer (some ⟨gm, 0, none⟩), .int .i64 (q : Int), .int .i64 (r : Int)] w fun e w' => e = .returned (.tuple #[]) ∧ ∃ (T2 : Nat → Prop) (u2 : World) (cv2 : List Value) (F2 : Option Addr) (nf2 k2 : Nat), Hid (Into T T2 u u2 ∧ Rw2 (ReV T2 u2) cv2 (((⟨root, unw, par, tent, aw, ref, ch, dec, fl⟩ : TS).ask (srcL p) q r).ch.map nats)) ∧ St w0 M (froz T2 u2 :: blk gm [.slice A1 p.len.length c1, .slice A2 p.ck.length c2, .slice A3 p.arcs.length c3, .int .i64 (root : Int), .slice UA n uc, .slice (some ⟨gp, 0, none⟩) n kp, .slice (some ⟨gt, 0, none⟩) n kt, .slice (some ⟨ga, 0, none⟩) n ka, .slice (some ⟨gr, 0, none⟩) n kr, .slice (some ⟨gc, 0, none⟩) n kc, .slice (some ⟨gd, 0, none⟩) n kd, .slice F2 nf2 k2] 91 :: row (.slice (some ⟨gp, 0, none⟩) n kp) 3 1 n (ints ((⟨root, unw, par, tent, aw, ref, ch, dec, fl⟩ : TS).ask (srcL p) q r).par) :: row (.slice (some ⟨gt, 0, none⟩) n kt) 4 1 n (bools ((⟨root, unw, par, tent, aw, ref, ch, dec, fl⟩ : TS).ask (srcL p) q r).tent) :: row (.slice (some ⟨ga, 0, none⟩) n ka) 3 1 n (ints ((⟨root, unw, par, tent, aw, ref, ch, dec, fl⟩ : TS).ask (srcL p) q r).aw) :: row (.slice (some ⟨gr, 0, none⟩) n kr) 4 1 n (bools ((⟨root, unw, par, tent, aw, ref, ch, dec, fl⟩ : TS).ask (srcL p) q r).ref) :: row (.slice (some ⟨gc, 0, none⟩) n kc) 25 1 n cv2 :: row (.slice (some ⟨gd, 0, none⟩) n kd) 3 1 n (ints ((⟨root, unw, par, tent, aw, ref, ch, dec, fl⟩ : TS).ask (srcL p) q r).dec) :: row (.slice F2 nf2 k2) 97 3 nf2 (ntc ((⟨root, unw, par, tent, aw, ref, ch, dec, fl⟩ : TS).ask (srcL p) q r).fl) :: cs) w' := by
  have hq' : (q : Int) < (n : Int) := by omega
  obtain ⟨B, cB, hcv, hcB, hcB', hri⟩ := chr_at hch (q := q) (by omega)
  have hll := hsm _ (chR_mem (ch := ch) (q := q) (by omega))
  have hpq : q < par.length := by omega
  obtain ⟨bu, ou, rfl, hub, huc⟩ := hun q _ (bools_get (l := unw) (k := q) (by omega))
  have hfu : FC T u bu (ou + q) (.bool (opOf unw q)) := ⟨hub, huc⟩
  have HASK := Lib.hid (show (⟨root, unw, par, tent, aw, ref, ch, dec, fl⟩ : TS).ask (srcL p) q r = if opOf unw q then (⟨root, unw, par.set q (r : Int), tent, aw, ref.set q true, ch, dec, fl⟩ : TS).ans q else if (csOf (srcL p) q r) = [] then (⟨root, unw, par.set q (r : Int), tent.set q true, aw.set q ((csOf (srcL p) q r).length : Int), ref, ch.set q (csOf (srcL p) q r), dec, fl ++ (csOf (srcL p) q r).map (fun x => ⟨1, q, x⟩)⟩ : TS).ans q else (⟨root, unw, par.set q (r : Int), tent.set q true, aw.set q ((csOf (srcL p) q r).length : Int), ref, ch.set q (csOf (srcL p) q r), dec, fl ++ (csOf (srcL p) q r).map (fun x => ⟨1, q, x⟩)⟩ : TS) from rfl)
  have HD := Lib.hid (And.intro hcv (And.intro hri (And.intro hch (And.intro hpa (And.intro hg hub)))))
  have hcvl : cvs.length = n := by rw [hch.n, List.length_map]; exact hc
  have hn5 := hg.n5
  clear hcv hri hch hub huc hpa hg hun hsm
  have HN := Lib.hid hn
  clear hn
  generalize opOf unw q = b at *
  cases b with
  | true =>
    have HAS := Lib.hid (HASK.out.trans (if_pos rfl))
    go_enter Try.func62, Try.ntmps62
    go_wp2_with (first | (refine oS ?_; refine sS6 hS rfl rfl rfl (by omega) ?_; clear hS; intro w hS) | (go_at_call 95; refine (answer_st gm A1 c1 A2 c2 A3 c3 p root n (some ⟨bu, ou, none⟩) uc gp kp gt kt ga ka gr kr gc kc gd kd (par.set q (r : Int)) aw dec unw tent (ref.set q true) ch cvs fl FA nf fc q r B cB hS (by omega) hq (by rw [List.length_set]; exact hp) ht (by rw [List.length_set]; exact hr) hd HD.out.1 HD.out.2.1 hll (fun _ => nth_set_same hpq _)).mono ?_; rintro e w ⟨rfl, F2, nf2, k2, hS1⟩; clear hS; have hS := hS1; clear hS1) | (refine oL ?_; (first | refine sL1 hS rfl rfl rfl ?_ | refine sL7 hS rfl rfl ?_)) | (refine oS ?_; (((refine sS2 hS rfl rfl rfl ?_)); clear hS; intro w hS)))
    refine bodyPost_ret (results_none rfl _ _ _) rfl ?_
    refine ⟨rfl, T, u, cvs, F2, nf2, k2, ?_, ?_⟩
    · rw [HAS.out]
      refine Lib.hid ⟨fun k hk _ => ⟨hk, rfl⟩, ?_⟩
      rw [(ans_par _ _).2.2.2]; exact HD.out.2.2.1
    · rw [HAS.out, (ans_par _ _).1, (ans_par _ _).2.1, (ans_par _ _).2.2.1]
      exact hS
  | false =>
    have HAS := Lib.hid (HASK.out.trans (if_neg (by decide)))
    have hsl := srcL_len p q
    rw [HN.out] at hsl hn5
    go_enter Try.func62, Try.ntmps62
    go_wp2_with (first | (refine oS ?_; refine sS6 hS rfl rfl rfl (by omega) ?_; clear hS; intro w hS) | (refine oL ?_; refine st_ldp (us := [.slice A1 p.len.length c1, .slice A2 p.ck.length c2, .slice A3 p.arcs.length c3]) hS rfl rfl (by rfl) rfl ?_) | (go_at_call 55; refine (sources_any ⟨A1, c1, A2, c2, A3, c3⟩ p q _ (HD.out.2.2.2.1.into hS.frozInto) HD.out.2.2.2.2.1 (by rw [HN.out]; exact hq)).mono ?_; rintro e w ⟨L5, c5, rfl, ho, hx1⟩; replace hS := hS.addRow ho hx1; clear ho hx1) | (refine oL ?_; (first | refine sL1 hS rfl rfl rfl ?_ | refine sL7 hS rfl rfl ?_)) | (refine oS ?_; (((refine sS2 hS rfl rfl rfl ?_)); clear hS; intro w hS)))
    (try simp only [List.set_cons_zero, List.set_cons_succ] at hS)
    go_loopw [6, 8, 50] (fun s6 s8 s50 wr => ∃ (j m c6 k2 : Nat) (L6 F2 : Option Addr) (k : List Nat), j ≤ (srcL p q).length ∧ m ≤ j ∧ s50 = .int .i64 j ∧ s6 = .slice L6 m c6 ∧ Hid (k = ((srcL p q).take j).filter (fun x => x != r) ∧ k.length = m) ∧ St w0 M (froz T u :: blk gm [.slice A1 p.len.length c1, .slice A2 p.ck.length c2, .slice A3 p.arcs.length c3, .int .i64 (root : Int), .slice (some ⟨bu, ou, none⟩) n uc, .slice (some ⟨gp, 0, none⟩) n kp, .slice (some ⟨gt, 0, none⟩) n kt, .slice (some ⟨ga, 0, none⟩) n ka, .slice (some ⟨gr, 0, none⟩) n kr, .slice (some ⟨gc, 0, none⟩) n kc, .slice (some ⟨gd, 0, none⟩) n kd, .slice F2 (nf + m) k2] 91 :: row (.slice (some ⟨gp, 0, none⟩) n kp) 3 1 n (ints (par.set q (r : Int))) :: row (.slice (some ⟨gt, 0, none⟩) n kt) 4 1 n (bools (tent.set q true)) :: row (.slice (some ⟨ga, 0, none⟩) n ka) 3 1 n (ints aw) :: row (.slice (some ⟨gr, 0, none⟩) n kr) 4 1 n (bools ref) :: row (.slice (some ⟨gc, 0, none⟩) n kc) 25 1 n cvs :: row (.slice (some ⟨gd, 0, none⟩) n kd) 3 1 n (ints dec) :: row (.slice F2 (nf + m) k2) 97 3 (nf + m) (ntc (fl ++ k.map (fun x => (⟨1, q, x⟩ : Nt)))) :: row (.slice L6 m c6) 3 1 m (ints (nats k)) :: row (.slice L5 (srcL p q).length c5) 3 1 (srcL p q).length (ints (nats (srcL p q))) :: cs) wr) (fun _ _ s50 _ => (srcL p q).length - (intOf s50).toNat)
    case atStart =>
      refine ⟨0, 0, 0, fc, none, FA, [], by omega, by omega, rfl, rfl, Lib.hid ⟨rfl, rfl⟩, ?_⟩
      rw [List.map_nil, List.append_nil, Nat.add_zero]
      have hS0 : St w0 M (row (.slice none 0 0) 3 1 0 (ints (nats [])) :: _) _ := hS.addNil 3 1
      exact hS0.re
    case round =>
      clear hS
      obtain ⟨j, m, c6, k2, L6, F2, k, hj, hm, rfl, rfl, HK, hS⟩ := hrel
      by_cases hjl : j < (srcL p q).length
      · have hjl' : (j : Int) < ((srcL p q).length : Int) := by omega
        obtain ⟨g5, rfl⟩ := hS.rowSome L5 (by omega)
        have hgx : (ints (nats (srcL p q)))[j]? = some (.int .i64 (((srcL p q)[j] : Nat) : Int)) := by simp [ints, nats, hjl]
        have HTK := Lib.hid (show ((srcL p q).take (j + 1)).filter (fun x => x != r) = k ++ [(srcL p q)[j]].filter (fun x => x != r) by rw [List.take_succ_eq_append_getElem hjl, List.filter_append, HK.out.1])
        generalize (srcL p q)[j] = x at *
        by_cases he : x = r
        · have e1 : ((x : Int) != (r : Int)) = false := by simp [he]
          have HNX := Lib.hid (show ((srcL p q).take (j + 1)).filter (fun x => x != r) = k by rw [HTK.out]; simp [he])
          clear he HTK
          go_wp2_with (((refine oL ?_; ((refine sL5 hS rfl rfl ?_)))))
          go_roundw
          case measure => simp [intOf]; try omega
          exact ⟨j + 1, m, c6, k2, L6, F2, k, by omega, by omega, by go_num, rfl, Lib.hid ⟨HNX.out.symm, HK.out.2⟩, hS⟩
        · have e1 : ((x : Int) != (r : Int)) = true := by simp; omega
          have HNX := Lib.hid (show ((srcL p q).take (j + 1)).filter (fun x => x != r) = k ++ [x] by rw [HTK.out]; simp [he])
          clear he HTK
          go_wp2_with (first | (go_at_call 96; refine (post_st gm A1 c1 A2 c2 A3 c3 p root n (some ⟨bu, ou, none⟩) uc gp kp gt kt ga ka gr kr gc kc gd kd (par.set q (r : Int)) aw dec (tent.set q true) ref cvs (fl ++ k.map (fun x => (⟨1, q, x⟩ : Nt))) F2 (nf + m) k2 1 q x hS (by omega)).mono ?_; rintro e w ⟨rfl, F3, k3, hS1⟩; clear hS; have hS := hS1; clear hS1) | (refine oL ?_; ((refine sL5 hS rfl rfl ?_))) | (refine oP ?_; (((refine sP2 hS rfl rfl rfl ?_)); clear hS; (((fail_if_success guard_hyp L1); intro L1 cl1 w hL1 hM1 hS)))) | ((((refine oC ?_; (refine sC1 hS rfl rfl ?_)))); clear hS; (((fail_if_success guard_hyp g1); intro g1 w hS))))
          go_roundw
          case measure => simp [intOf]; try omega
          refine ⟨j + 1, m + 1, cl1, k3, L1, F3, k ++ [x], by omega, by omega, by go_num, rfl, Lib.hid ⟨HNX.out.symm, by rw [List.length_append, HK.out.2]; rfl⟩, ?_⟩
          have e2 : ints (nats (k ++ [x])) = ints (nats k) ++ [.int .i64 (x : Int)] := by simp [ints, nats]
          rw [e2, List.map_append, ← List.append_assoc]
          exact hS
      · have hjl' : ¬ (j : Int) < ((srcL p q).length : Int) := by omega
        have HE := Lib.hid (show k = csOf (srcL p) q r by have := HK.out.1; rw [List.take_of_length_le (by omega)] at this; exact this)
        have hkl := HK.out.2
        have hqa : q < aw.length := by omega
        have hcap := Lib.hid (hS.rowForm L6)
        go_upto_region 15 with (first | (refine oS ?_; refine sS3 (v := .slice L6 m c6) hS rfl rfl rfl ?_ (by rfl) (by omega); clear hS; intro w hS) | (refine oL ?_; ((refine sL1 hS rfl rfl rfl ?_))) | (refine oS ?_; (((refine sS2 hS rfl rfl rfl ?_)); clear hS; intro w hS)))
        have hS1 := (hS.re (ds := row (.slice L6 m c6) 3 1 m (ints (nats k)) :: froz T u :: blk gm [.slice A1 p.len.length c1, .slice A2 p.ck.length c2, .slice A3 p.arcs.length c3, .int .i64 (root : Int), .slice (some ⟨bu, ou, none⟩) n uc, .slice (some ⟨gp, 0, none⟩) n kp, .slice (some ⟨gt, 0, none⟩) n kt, .slice (some ⟨ga, 0, none⟩) n ka, .slice (some ⟨gr, 0, none⟩) n kr, .slice (some ⟨gc, 0, none⟩) n kc, .slice (some ⟨gd, 0, none⟩) n kd, .slice F2 (nf + m) k2] 91 :: row (.slice (some ⟨gp, 0, none⟩) n kp) 3 1 n (ints (par.set q (r : Int))) :: row (.slice (some ⟨gt, 0, none⟩) n kt) 4 1 n (bools (tent.set q true)) :: row (.slice (some ⟨ga, 0, none⟩) n ka) 3 1 n (ints (aw.set q (m : Int))) :: row (.slice (some ⟨gr, 0, none⟩) n kr) 4 1 n (bools ref) :: row (.slice (some ⟨gc, 0, none⟩) n kc) 25 1 n (cvs.set q (.slice L6 m c6)) :: row (.slice (some ⟨gd, 0, none⟩) n kd) 3 1 n (ints dec) :: row (.slice F2 (nf + m) k2) 97 3 (nf + m) (ntc (fl ++ k.map (fun x => (⟨1, q, x⟩ : Nt)))) :: cs)).freezeV
        clear hS
        obtain ⟨T2, hS, hi, hrv⟩ := hS1
        have hcm : m ≤ c6 ∧ c6 ≤ 9223372036854775807 := hcap.out
        have HI := Lib.hid (And.intro hi hrv)
        clear hi hrv
        have HXX := Lib.hid (show (⟨root, unw, par.set q (r : Int), tent.set q true, aw.set q ((csOf (srcL p) q r).length : Int), ref, ch.set q (csOf (srcL p) q r), dec, fl ++ (csOf (srcL p) q r).map (fun x => ⟨1, q, x⟩)⟩ : TS) = ⟨root, unw, par.set q (r : Int), tent.set q true, aw.set q (m : Int), ref, ch.set q k, dec, fl ++ k.map (fun x => ⟨1, q, x⟩)⟩ by rw [← HE.out, hkl])
        have HC2 := Lib.hid (show Rw2 (ReV T2 w) (cvs.set q (.slice L6 m c6)) ((ch.set q k).map nats) from by
          rw [List.map_set]
          exact (HD.out.2.2.1.mono (ReV.into HI.out.1)).set q ⟨L6, c6, by rw [List.length_map, hkl], by rw [List.length_map, hkl]; exact hcm.1, hcm.2, HI.out.2⟩)
        have hcq : (cvs.set q (.slice L6 m c6))[q]? = some (.slice L6 (chR (ch.set q k) q).length c6) := by
          rw [chR_set_same (by omega), hkl, List.getElem?_set_self (by omega)]
        have HCQ := Lib.hid (And.intro hcq (show RI T2 w L6 (nats (chR (ch.set q k) q)) by rw [chR_set_same (by omega)]; exact HI.out.2))
        have hk5 : (chR (ch.set q k) q).length ≤ 5 := by rw [chR_set_same (by omega)]; omega
        clear hcq
        by_cases hm0 : m = 0
        · have e1 : ((m : Int) == 0) = true := by simp [hm0]
          have HF := Lib.hid (HAS.out.trans (if_pos (show csOf (srcL p) q r = [] by rw [← HE.out]; exact List.eq_nil_of_length_eq_zero (by omega))))
          rw [HXX.out] at HF
          clear hm0
          go_wp2_with (((go_at_call 95; refine (answer_st gm A1 c1 A2 c2 A3 c3 p root n (some ⟨bu, ou, none⟩) uc gp kp gt kt ga ka gr kr gc kc gd kd (par.set q (r : Int)) (aw.set q (m : Int)) dec unw (tent.set q true) ref (ch.set q k) (cvs.set q (.slice L6 m c6)) (fl ++ k.map (fun x => (⟨1, q, x⟩ : Nt))) F2 (nf + m) k2 q r L6 c6 hS (by omega) hq (by rw [List.length_set]; exact hp) (by rw [List.length_set]; exact ht) hr hd HCQ.out.1 HCQ.out.2 hk5 (fun _ => nth_set_same hpq _)).mono ?_; rintro e w3 ⟨rfl, F3, nf3, k3, hS1⟩; clear hS; have hS := hS1; clear hS1)))
          go_end0
          (refine ⟨rfl, T2, w, cvs.set q (.slice L6 m c6), F3, nf3, k3, Lib.hid ⟨HI.out.1, ?_⟩, ?_⟩)
          · rw [HF.out, (ans_par _ _).2.2.2]; exact HC2.out
          · rw [HF.out, (ans_par _ _).1, (ans_par _ _).2.1, (ans_par _ _).2.2.1]
            exact hS
        · have e1 : ((m : Int) == 0) = false := by simp; omega
          have HF := Lib.hid (HAS.out.trans (if_neg (show ¬ csOf (srcL p) q r = [] by rw [← HE.out]; intro h; rw [h] at hkl; simp at hkl; omega)))
          rw [HXX.out] at HF
          clear hm0
          go_wp2_with (fail)
          go_end0
          (refine ⟨rfl, T2, w, cvs.set q (.slice L6 m c6), Lib.hid ⟨HI.out.1, ?_⟩, F2, nf + m, k2, ?_⟩)
          · rw [HF.out]; exact HC2.out
          · rw [HF.out]; exact hS
end Go.Proofs.Ytmjmdncdmmcmaaa
