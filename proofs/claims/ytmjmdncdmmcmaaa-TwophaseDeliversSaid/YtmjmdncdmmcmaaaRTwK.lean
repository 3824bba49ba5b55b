/- The reference's two-phase machine: ask. Conditions: the machine is a call's own, its lists are short. -/
import Derived.Test.YtmjmdncdmmcmaaaGi
import Derived.Test.YtmjmdncdmmcmaaaTwO
import Derived.Test.YtmjmdncdmmcmaaaClosP
namespace Go.Proofs.Ytmjmdncdmmcmaaa
open Go.RowKit Tph
set_option linter.unusedVariables false
set_option linter.unusedSimpArgs false
set_option linter.unusedSectionVars false

theorem kidsN_succ (p : Pat) (q r j : Nat) : (((List.range (j + 1)).filter (fun s => isSrc p s q)).filter (fun x => x != r)) = ((List.range j).filter (fun s => isSrc p s q)).filter (fun x => x != r) ++ (if isSrc p j q = true ∧ j ≠ r then [j] else []) := by
  rw [List.range_succ, List.filter_append, List.filter_append]
  congr 1
  by_cases h1 : isSrc p j q = true
  · by_cases h2 : j = r
    · subst h2; simp [h1]
    · simp [h1, h2]
  · simp [h1]
theorem nth_self {l : List Int} {q : Nat} (h : q < l.length) : l.set q (nth l q) = l := by rw [nth_eq h, List.set_getElem_self]
set_option maxRecDepth 100000 in
set_option maxHeartbeats 6400000 in
theorem rask_st {w0 w u : World} {M T : Nat → Prop} {cs : List (Chunk w0 M)} (gm : Nat) (A1 : Option Addr) (c1 : Nat) (A2 : Option Addr) (c2 : Nat) (A3 : Option Addr) (c3 : Nat) (p : Pat) (root n : Nat) (gu ku gp kp gt kt ga ka gr kr gc kc gd kd : Nat) (par aw dec : List Int) (unw tent ref : List Bool) (ch : List (List Nat)) (rs : List RwD) (fl : List Nt) (FA : Option Addr) (nf fc : Nat) (q r : Nat) (hS : St w0 M (froz T u :: blk gm [.slice A1 p.len.length c1, .slice A2 p.ck.length c2, .slice A3 p.arcs.length c3, .int .i64 (root : Int), .slice (some ⟨gu, 0, none⟩) n ku, .slice (some ⟨gp, 0, none⟩) n kp, .slice (some ⟨gt, 0, none⟩) n kt, .slice (some ⟨ga, 0, none⟩) n ka, .slice (some ⟨gr, 0, none⟩) n kr, .slice (some ⟨gc, 0, none⟩) n kc, .slice (some ⟨gd, 0, none⟩) n kd, .slice FA nf fc] 55 :: row (.slice (some ⟨gp, 0, none⟩) n kp) 3 1 n (ints par) :: row (.slice (some ⟨gt, 0, none⟩) n kt) 4 1 n (bools tent) :: row (.slice (some ⟨ga, 0, none⟩) n ka) 3 1 n (ints aw) :: row (.slice (some ⟨gr, 0, none⟩) n kr) 4 1 n (bools ref) :: row (.slice (some ⟨gc, 0, none⟩) n kc) 25 1 n (rs.map (·.1)) :: row (.slice (some ⟨gd, 0, none⟩) n kd) 3 1 n (ints dec) :: row (.slice FA nf fc) 97 3 nf (ntc fl) :: row (.slice (some ⟨gu, 0, none⟩) n ku) 4 1 n (bools unw) :: fam2 3 1 rs :: cs) w) (hb : nf ≤ 1800) (hq : q < n) (hp : par.length = n) (ht : tent.length = n) (ha : aw.length = n) (hr : ref.length = n) (hd : dec.length = n) (hc : ch.length = n) (hu : unw.length = n) (hF : FamN rs ch) (hsm : ∀ l ∈ ch, l.length ≤ 5) (hpa : PatAt T u ⟨A1, c1, A2, c2, A3, c3⟩ p) (hg : Good p) (hn : p.len.length = n) (hch0 : chR ch q = []) (haw0 : nth aw q = 0) :
    Calls Try.prog 64 #[.pointer (some ⟨gm, 0, none⟩), .int .i64 (q : Int), .int .i64 (r : Int)] w fun e w' => e = .returned (.tuple #[]) ∧ ∃ (rs2 : List RwD) (F2 : Option Addr) (nf2 k2 : Nat), Hid (FamN rs2 ((⟨root, unw, par, tent, aw, ref, ch, dec, fl⟩ : TS).ask (srcL p) q r).ch) ∧ St w0 M (froz T u :: blk gm [.slice A1 p.len.length c1, .slice A2 p.ck.length c2, .slice A3 p.arcs.length c3, .int .i64 (root : Int), .slice (some ⟨gu, 0, none⟩) n ku, .slice (some ⟨gp, 0, none⟩) n kp, .slice (some ⟨gt, 0, none⟩) n kt, .slice (some ⟨ga, 0, none⟩) n ka, .slice (some ⟨gr, 0, none⟩) n kr, .slice (some ⟨gc, 0, none⟩) n kc, .slice (some ⟨gd, 0, none⟩) n kd, .slice F2 nf2 k2] 55 :: row (.slice (some ⟨gp, 0, none⟩) n kp) 3 1 n (ints ((⟨root, unw, par, tent, aw, ref, ch, dec, fl⟩ : TS).ask (srcL p) q r).par) :: row (.slice (some ⟨gt, 0, none⟩) n kt) 4 1 n (bools ((⟨root, unw, par, tent, aw, ref, ch, dec, fl⟩ : TS).ask (srcL p) q r).tent) :: row (.slice (some ⟨ga, 0, none⟩) n ka) 3 1 n (ints ((⟨root, unw, par, tent, aw, ref, ch, dec, fl⟩ : TS).ask (srcL p) q r).aw) :: row (.slice (some ⟨gr, 0, none⟩) n kr) 4 1 n (bools ((⟨root, unw, par, tent, aw, ref, ch, dec, fl⟩ : TS).ask (srcL p) q r).ref) :: row (.slice (some ⟨gc, 0, none⟩) n kc) 25 1 n (rs2.map (·.1)) :: row (.slice (some ⟨gd, 0, none⟩) n kd) 3 1 n (ints ((⟨root, unw, par, tent, aw, ref, ch, dec, fl⟩ : TS).ask (srcL p) q r).dec) :: row (.slice F2 nf2 k2) 97 3 nf2 (ntc ((⟨root, unw, par, tent, aw, ref, ch, dec, fl⟩ : TS).ask (srcL p) q r).fl) :: row (.slice (some ⟨gu, 0, none⟩) n ku) 4 1 n (bools unw) :: fam2 3 1 rs2 :: cs) w' := by
  have hq' : (q : Int) < (n : Int) := by omega
  have hll := hsm _ (chR_mem (ch := ch) (q := q) (by omega))
  have hpq : q < par.length := by omega
  have hfu := opOf_at (l := unw) (q := q) (by omega)
  have hqa : q < aw.length := by omega
  have HASK := Lib.hid (show (⟨root, unw, par, tent, aw, ref, ch, dec, fl⟩ : TS).ask (srcL p) q r = if opOf unw q then (⟨root, unw, par.set q (r : Int), tent, aw, ref.set q true, ch, dec, fl⟩ : TS).ans q else if (csOf (srcL p) q r) = [] then (⟨root, unw, par.set q (r : Int), tent.set q true, aw.set q ((csOf (srcL p) q r).length : Int), ref, ch.set q (csOf (srcL p) q r), dec, fl ++ (csOf (srcL p) q r).map (fun x => ⟨1, q, x⟩)⟩ : TS).ans q else (⟨root, unw, par.set q (r : Int), tent.set q true, aw.set q ((csOf (srcL p) q r).length : Int), ref, ch.set q (csOf (srcL p) q r), dec, fl ++ (csOf (srcL p) q r).map (fun x => ⟨1, q, x⟩)⟩ : TS) from rfl)
  have HD := Lib.hid (And.intro hF (And.intro hpa (And.intro hg hn)))
  have HC0 := Lib.hid hch0
  have HA0 := Lib.hid (show aw.set q 0 = aw by rw [← haw0]; exact nth_self hqa)
  have hn5 := hg.n5
  rw [hn] at hn5
  have hlr : rs.length = n := by rw [hF.n]; exact hc
  clear hpa hg hn hsm hch0 haw0
  generalize opOf unw q = b at *
  cases b with
  | true =>
    have HAS := Lib.hid (HASK.out.trans (if_pos rfl))
    clear hF
    go_enter Try.func64, Try.ntmps64
    go_wp2_with (first | (refine oS ?_; refine sS6 hS rfl rfl rfl (by omega) ?_; clear hS; intro w hS) | (go_at_call 71; refine (ranswer_st gm A1 c1 A2 c2 A3 c3 p root n gu ku gp kp gt kt ga ka gr kr gc kc gd kd (par.set q (r : Int)) aw dec unw tent (ref.set q true) ch rs fl FA nf fc q r (hS.re (ds := froz T u :: blk gm [.slice A1 p.len.length c1, .slice A2 p.ck.length c2, .slice A3 p.arcs.length c3, .int .i64 (root : Int), .slice (some ⟨gu, 0, none⟩) n ku, .slice (some ⟨gp, 0, none⟩) n kp, .slice (some ⟨gt, 0, none⟩) n kt, .slice (some ⟨ga, 0, none⟩) n ka, .slice (some ⟨gr, 0, none⟩) n kr, .slice (some ⟨gc, 0, none⟩) n kc, .slice (some ⟨gd, 0, none⟩) n kd, .slice FA nf fc] 55 :: row (.slice (some ⟨gp, 0, none⟩) n kp) 3 1 n (ints (par.set q (r : Int))) :: row (.slice (some ⟨gt, 0, none⟩) n kt) 4 1 n (bools tent) :: row (.slice (some ⟨ga, 0, none⟩) n ka) 3 1 n (ints aw) :: row (.slice (some ⟨gr, 0, none⟩) n kr) 4 1 n (bools (ref.set q true)) :: row (.slice (some ⟨gc, 0, none⟩) n kc) 25 1 n (rs.map (·.1)) :: row (.slice (some ⟨gd, 0, none⟩) n kd) 3 1 n (ints dec) :: row (.slice FA nf fc) 97 3 nf (ntc fl) :: row (.slice (some ⟨gu, 0, none⟩) n ku) 4 1 n (bools unw) :: fam2 3 1 rs :: cs)) (by omega) hq (by rw [List.length_set]; exact hp) ht (by rw [List.length_set]; exact hr) hd hc HD.out.1 hll (fun _ => nth_set_same hpq _)).mono ?_; rintro e w ⟨rfl, F2, nf2, k2, hS1⟩; clear hS; have hS := hS1; clear hS1) | (refine oL ?_; (first | refine sL1 hS rfl rfl rfl ?_ | refine sL5 hS rfl rfl ?_)) | (refine oS ?_; (((refine sS2 hS rfl rfl rfl ?_)); clear hS; intro w hS)))
    refine bodyPost_ret (results_none rfl _ _ _) rfl ?_
    refine ⟨rfl, rs, F2, nf2, k2, ?_, ?_⟩
    · rw [HAS.out]
      refine Lib.hid ?_
      rw [(ans_par _ _).2.2.2]; exact HD.out.1
    · rw [HAS.out, (ans_par _ _).1, (ans_par _ _).2.1, (ans_par _ _).2.2.1]
      exact hS
  | false =>
    have HAS := Lib.hid (HASK.out.trans (if_neg (by decide)))
    obtain ⟨B, cB, hrs, hcv⟩ := hF.at_ (k := q) (by omega)
    rw [HC0.out] at hrs hcv
    have HRS := Lib.hid hrs
    have HCV := Lib.hid (show (rs.map (·.1)).set q (.slice B 0 cB) = rs.map (·.1) by
      obtain ⟨h1, h2⟩ := List.getElem?_eq_some_iff.1 hcv
      rw [← show (rs.map (·.1))[q] = .slice B 0 cB from h2, List.set_getElem_self])
    clear hrs hcv hF
    go_enter Try.func64, Try.ntmps64
    go_upto_region 5 with (first | (refine oS ?_; refine sS6 hS rfl rfl rfl (by omega) ?_; clear hS; intro w hS) | (refine oL ?_; (first | refine sL1 hS rfl rfl rfl ?_ | refine sL5 hS rfl rfl ?_)) | (refine oS ?_; (((refine sS2 hS rfl rfl rfl ?_)); clear hS; intro w hS)))
    have hS2 := (St.re (ds := fam2 3 1 rs :: froz T u :: blk gm [.slice A1 p.len.length c1, .slice A2 p.ck.length c2, .slice A3 p.arcs.length c3, .int .i64 (root : Int), .slice (some ⟨gu, 0, none⟩) n ku, .slice (some ⟨gp, 0, none⟩) n kp, .slice (some ⟨gt, 0, none⟩) n kt, .slice (some ⟨ga, 0, none⟩) n ka, .slice (some ⟨gr, 0, none⟩) n kr, .slice (some ⟨gc, 0, none⟩) n kc, .slice (some ⟨gd, 0, none⟩) n kd, .slice FA nf fc] 55 :: row (.slice (some ⟨gp, 0, none⟩) n kp) 3 1 n (ints (par.set q (r : Int))) :: row (.slice (some ⟨gt, 0, none⟩) n kt) 4 1 n (bools (tent.set q true)) :: row (.slice (some ⟨ga, 0, none⟩) n ka) 3 1 n (ints aw) :: row (.slice (some ⟨gr, 0, none⟩) n kr) 4 1 n (bools ref) :: row (.slice (some ⟨gc, 0, none⟩) n kc) 25 1 n (rs.map (·.1)) :: row (.slice (some ⟨gd, 0, none⟩) n kd) 3 1 n (ints dec) :: row (.slice FA nf fc) 97 3 nf (ntc fl) :: row (.slice (some ⟨gu, 0, none⟩) n ku) 4 1 n (bools unw) :: cs) hS).fam2Take HRS.out
    clear hS
    have hS := hS2
    clear hS2
    go_wp2_with (fail)
    go_loopw [6] (fun s6 wr => ∃ (j m c6 k2 : Nat) (B2 F2 : Option Addr) (k : List Nat), j ≤ n ∧ m ≤ j ∧ s6 = .int .i64 j ∧ Hid (k = ((List.range j).filter (fun s => isSrc p s q)).filter (fun x => x != r) ∧ k.length = m) ∧ St w0 M (row (.slice B2 m c6) 3 1 m (ints (nats k)) :: fam2 3 1 (rs.set q nilR2) :: froz T u :: blk gm [.slice A1 p.len.length c1, .slice A2 p.ck.length c2, .slice A3 p.arcs.length c3, .int .i64 (root : Int), .slice (some ⟨gu, 0, none⟩) n ku, .slice (some ⟨gp, 0, none⟩) n kp, .slice (some ⟨gt, 0, none⟩) n kt, .slice (some ⟨ga, 0, none⟩) n ka, .slice (some ⟨gr, 0, none⟩) n kr, .slice (some ⟨gc, 0, none⟩) n kc, .slice (some ⟨gd, 0, none⟩) n kd, .slice F2 (nf + m) k2] 55 :: row (.slice (some ⟨gp, 0, none⟩) n kp) 3 1 n (ints (par.set q (r : Int))) :: row (.slice (some ⟨gt, 0, none⟩) n kt) 4 1 n (bools (tent.set q true)) :: row (.slice (some ⟨ga, 0, none⟩) n ka) 3 1 n (ints (aw.set q (m : Int))) :: row (.slice (some ⟨gr, 0, none⟩) n kr) 4 1 n (bools ref) :: row (.slice (some ⟨gc, 0, none⟩) n kc) 25 1 n ((rs.map (·.1)).set q (.slice B2 m c6)) :: row (.slice (some ⟨gd, 0, none⟩) n kd) 3 1 n (ints dec) :: row (.slice F2 (nf + m) k2) 97 3 (nf + m) (ntc (fl ++ k.map (fun x => (⟨1, q, x⟩ : Nt)))) :: row (.slice (some ⟨gu, 0, none⟩) n ku) 4 1 n (bools unw) :: cs) wr) (fun s6 _ => n - (intOf s6).toNat)
    case atStart =>
      refine ⟨0, 0, cB, fc, B, FA, [], by omega, by omega, rfl, Lib.hid ⟨rfl, rfl⟩, ?_⟩
      rw [List.map_nil, List.append_nil, Nat.add_zero, HCV.out, show ((0 : Nat) : Int) = 0 from rfl, HA0.out]
      exact hS
    case round =>
      clear hS
      obtain ⟨j, m, c6, k2, B2, F2, k, hj, hm, rfl, HK, hS⟩ := hrel
      by_cases hjl : j < n
      · have hjl' : (j : Int) < (n : Int) := by omega
        have HSU := Lib.hid (kidsN_succ p q r j)
        rw [← HK.out.1] at HSU
        have hvl : q < ((rs.map (·.1)).set q (.slice B2 m c6)).length := by rw [List.length_set, List.length_map, hlr]; exact hq
        have hcq : ((rs.map (·.1)).set q (.slice B2 m c6))[q]? = some (.slice B2 m c6) := List.getElem?_set_self (by rw [List.length_map, hlr]; exact hq)
        have haq : (ints (aw.set q (m : Int)))[q]? = some (.int .i64 (m : Int)) := by rw [nth_at (by rw [List.length_set]; exact hqa), nth_set_same hqa]
        have hqa2 : q < (aw.set q (m : Int)).length := by rw [List.length_set]; exact hqa
        have HSS := Lib.hid (show ∀ v : Int, (aw.set q (m : Int)).set q v = aw.set q v from fun v => List.set_set ..)
        have HVV := Lib.hid (show ∀ v, ((rs.map (·.1)).set q (.slice B2 m c6)).set q v = (rs.map (·.1)).set q v from fun v => List.set_set ..)
        generalize hav : (rs.map (·.1)).set q (.slice B2 m c6) = cv2 at *
        generalize haa : aw.set q (m : Int) = aw2 at *
        have HAV := Lib.hid (And.intro hav haa)
        clear hav haa
        by_cases hjr : j = r
        · have e1 : ((j : Int) != (r : Int)) = false := by simp; omega
          have HN := Lib.hid (show ((List.range (j + 1)).filter (fun s => isSrc p s q)).filter (fun x => x != r) = k by rw [HSU.out, if_neg (fun h => h.2 hjr), List.append_nil])
          clear hjr
          go_upto_region 8 with (((refine oL ?_; ((refine sL1 hS rfl rfl rfl ?_)))))
          refine lR ?_
          refine lM rfl rfl ?_
          (try simp only [Act.put, nA, nB, nC])
          refine lM rfl rfl ?_
          (try simp only [Act.put, nA, nB, nC])
          refine lP rfl ?_
          (try simp only [Act.put, nA, nB, nC])
          refine lM rfl rfl ?_
          (try simp only [Act.put, nA, nB, nC])
          first | refine lQ rfl ?_ | refine lM rfl rfl ?_ | fail
          (try simp only [Act.put, nA, nB, nC])
          first | refine lQ rfl ?_ | refine lP rfl ?_ | fail
          (try simp only [Act.put, nA, nB, nC])
          first | refine lQ rfl ?_ | refine lP rfl ?_ | fail
          (try simp only [Act.put, nA, nB, nC])
          (refine lQ rfl ?_)
          (try simp only [Act.put, nA, nB, nC])
          first | refine lQ rfl ?_ | refine lM rfl rfl ?_ | fail
          (try simp only [Act.put, nA, nB, nC])
          first | refine lQ rfl ?_ | refine lM rfl rfl ?_ | fail
          (try simp only [Act.put, nA, nB, nC])
          refine lQ rfl ?_
          (try simp only [Act.put, nA, nB, nC])
          refine lP rfl ?_
          (try simp only [Act.put, nA, nB, nC])
          refine lZ ?_
          go_wp2_with (fail)
          go_roundw
          case measure => simp [intOf]; try omega
          exact ⟨j + 1, m, c6, k2, B2, F2, k, by omega, by omega, by go_num, Lib.hid ⟨HN.out.symm, HK.out.2⟩, by rw [HAV.out.1, HAV.out.2]; exact hS.re⟩
        · have e1 : ((j : Int) != (r : Int)) = true := by simp; omega
          have HJR := Lib.hid hjr
          obtain ⟨bb, hbb⟩ : ∃ bb, isSrc p j q = bb := ⟨_, rfl⟩
          have HBB := Lib.hid hbb
          clear hjr hbb
          cases bb with
          | false =>
            have HN := Lib.hid (show ((List.range (j + 1)).filter (fun s => isSrc p s q)).filter (fun x => x != r) = k by rw [HSU.out, if_neg (fun h => by rw [HBB.out] at h; exact absurd h.1 (by decide)), List.append_nil])
            go_upto_region 8 with (((refine oL ?_; ((refine sL1 hS rfl rfl rfl ?_)))))
            refine lR ?_
            refine lM rfl rfl ?_
            (try simp only [Act.put, nA, nB, nC])
            refine lM rfl rfl ?_
            (try simp only [Act.put, nA, nB, nC])
            refine lP rfl ?_
            (try simp only [Act.put, nA, nB, nC])
            refine lM rfl rfl ?_
            (try simp only [Act.put, nA, nB, nC])
            first | refine lQ rfl ?_ | refine lM rfl rfl ?_ | fail
            (try simp only [Act.put, nA, nB, nC])
            first | refine lQ rfl ?_ | refine lP rfl ?_ | fail
            (try simp only [Act.put, nA, nB, nC])
            first | refine lQ rfl ?_ | refine lP rfl ?_ | fail
            (try simp only [Act.put, nA, nB, nC])
            ((refine ⟨?_⟩; (refine st_ldp (us := [.slice A1 p.len.length c1, .slice A2 p.ck.length c2, .slice A3 p.arcs.length c3]) hS rfl rfl (by rfl) rfl ?_); refine WL.h ?_))
            (try simp only [Act.put, nA, nB, nC])
            first | refine lQ rfl ?_ | refine lM rfl rfl ?_ | fail
            (try simp only [Act.put, nA, nB, nC])
            first | refine lQ rfl ?_ | refine lM rfl rfl ?_ | fail
            (try simp only [Act.put, nA, nB, nC])
            ((refine ⟨?_⟩; (refine st_call rfl (by kernel_rfl) rfl ?_; go_at_call 97; refine (source_any ⟨A1, c1, A2, c2, A3, c3⟩ p j q _ (HD.out.2.1.into hS.frozInto) HD.out.2.2.1 (by rw [HD.out.2.2.2]; exact hjl) (by rw [HD.out.2.2.2]; exact hq)).mono ?_; rintro e w ⟨rfl, hx1⟩; rw [HBB.out]; replace hS := hS.ext hx1; clear hx1); refine WL.h ?_))
            (try simp only [Act.put, nA, nB, nC])
            refine lP rfl ?_
            (try simp only [Act.put, nA, nB, nC])
            refine lZ ?_
            go_wp2_with (fail)
            go_roundw
            case measure => simp [intOf]; try omega
            exact ⟨j + 1, m, c6, k2, B2, F2, k, by omega, by omega, by go_num, Lib.hid ⟨HN.out.symm, HK.out.2⟩, by rw [HAV.out.1, HAV.out.2]; exact hS.re⟩
          | true =>
            have HN := Lib.hid (show ((List.range (j + 1)).filter (fun s => isSrc p s q)).filter (fun x => x != r) = k ++ [j] by rw [HSU.out, if_pos ⟨HBB.out, HJR.out⟩])
            go_upto_region 8 with (((refine oL ?_; ((refine sL1 hS rfl rfl rfl ?_)))))
            refine lR ?_
            refine lM rfl rfl ?_
            (try simp only [Act.put, nA, nB, nC])
            refine lM rfl rfl ?_
            (try simp only [Act.put, nA, nB, nC])
            refine lP rfl ?_
            (try simp only [Act.put, nA, nB, nC])
            refine lM rfl rfl ?_
            (try simp only [Act.put, nA, nB, nC])
            first | refine lQ rfl ?_ | refine lM rfl rfl ?_ | fail
            (try simp only [Act.put, nA, nB, nC])
            first | refine lQ rfl ?_ | refine lP rfl ?_ | fail
            (try simp only [Act.put, nA, nB, nC])
            first | refine lQ rfl ?_ | refine lP rfl ?_ | fail
            (try simp only [Act.put, nA, nB, nC])
            ((refine ⟨?_⟩; (refine st_ldp (us := [.slice A1 p.len.length c1, .slice A2 p.ck.length c2, .slice A3 p.arcs.length c3]) hS rfl rfl (by rfl) rfl ?_); refine WL.h ?_))
            (try simp only [Act.put, nA, nB, nC])
            first | refine lQ rfl ?_ | refine lM rfl rfl ?_ | fail
            (try simp only [Act.put, nA, nB, nC])
            first | refine lQ rfl ?_ | refine lM rfl rfl ?_ | fail
            (try simp only [Act.put, nA, nB, nC])
            ((refine ⟨?_⟩; (refine st_call rfl (by kernel_rfl) rfl ?_; go_at_call 97; refine (source_any ⟨A1, c1, A2, c2, A3, c3⟩ p j q _ (HD.out.2.1.into hS.frozInto) HD.out.2.2.1 (by rw [HD.out.2.2.2]; exact hjl) (by rw [HD.out.2.2.2]; exact hq)).mono ?_; rintro e w ⟨rfl, hx1⟩; rw [HBB.out]; replace hS := hS.ext hx1; clear hx1); refine WL.h ?_))
            (try simp only [Act.put, nA, nB, nC])
            refine lP rfl ?_
            (try simp only [Act.put, nA, nB, nC])
            refine lZ ?_
            go_upto_region 9 with (fail)
            refine dr_start1 [16] 0 hS (by kernel_rfl) rfl ?_; clear hS; intro w hS
            refine dM hS 0 rfl rfl rfl ?_
            (try simp only [Act.put, nA, nB, nC])
            refine dP hS 1 rfl rfl ?_
            (try simp only [Act.put, nA, nB, nC])
            refine dP hS 2 rfl rfl ?_
            (try simp only [Act.put, nA, nB, nC])
            (refine dL1 hS 3 rfl rfl rfl rfl ?_)
            (try simp only [Act.put, nA, nB, nC])
            refine dM hS 4 rfl rfl rfl ?_
            (try simp only [Act.put, nA, nB, nC])
            refine dM hS 5 rfl rfl rfl ?_
            (try simp only [Act.put, nA, nB, nC])
            refine dP hS 6 rfl rfl ?_
            (try simp only [Act.put, nA, nB, nC])
            refine dP hS 7 rfl rfl ?_
            (try simp only [Act.put, nA, nB, nC])
            (refine dL1 hS 8 rfl rfl rfl rfl ?_)
            (try simp only [Act.put, nA, nB, nC])
            refine dM hS 9 rfl rfl rfl ?_
            (try simp only [Act.put, nA, nB, nC])
            refine dP hS 10 rfl rfl ?_
            (try simp only [Act.put, nA, nB, nC])
            (refine dL5 hS 11 rfl rfl rfl ?_)
            (try simp only [Act.put, nA, nB, nC])
            refine dM hS 12 rfl rfl rfl ?_
            (try simp only [Act.put, nA, nB, nC])
            refine dr_one 13 (by kernel_rfl) rfl ?_
            first | (refine st_str hS rfl rfl rfl rfl hvl ?_; clear hS; intro w hS) | ((first | refine sC0 hS rfl ?_ | refine sC1 hS rfl rfl ?_ | refine sC2 hS rfl rfl ?_ | refine sC3 hS rfl rfl rfl ?_ | refine sC4 hS rfl rfl rfl ?_); clear hS; first | ((fail_if_success guard_hyp g1); intro g1 w hS) | ((fail_if_success guard_hyp g2); intro g2 w hS) | ((fail_if_success guard_hyp g3); intro g3 w hS) | fail) | fail
            (try simp only [Act.put, nA, nB, nC])
            refine dr_end hS ?_
            refine dr_one 14 (by kernel_rfl) rfl ?_
            first | (refine st_str hS rfl rfl rfl rfl hvl ?_; clear hS; intro w hS) | ((first | refine sP1 hS rfl rfl rfl ?_ | refine sP2 hS rfl rfl rfl ?_ | refine sP3 hS rfl rfl rfl ?_); clear hS; first | ((fail_if_success guard_hyp L1); intro L1 cl1 w hL1 hM1 hS) | ((fail_if_success guard_hyp L2); intro L2 cl2 w hL2 hM2 hS) | ((fail_if_success guard_hyp L3); intro L3 cl3 w hL3 hM3 hS) | fail) | fail
            (try simp only [Act.put, nA, nB, nC])
            refine dr_end hS ?_
            refine dP hS 15 rfl rfl ?_
            (try simp only [Act.put, nA, nB, nC])
            refine dr_one 16 (by kernel_rfl) rfl ?_
            first | (refine st_str hS rfl rfl rfl rfl hvl ?_; clear hS; intro w hS) | ((first | refine sS1 hS rfl rfl rfl ?_ | refine sS2 hS rfl rfl rfl ?_ | refine sS3 hS rfl rfl rfl ?_ | refine sS4 hS rfl rfl rfl ?_ | refine sS5 hS rfl rfl rfl ?_); clear hS; intro w hS) | fail
            (try simp only [Act.put, nA, nB, nC])
            refine dr_late (by kernel_rfl) ?_
            refine dr_done (by kernel_rfl) ?_
            all_goals
              go_wp2_with (first | (refine oL ?_; (first | refine sL1 hS rfl rfl rfl ?_ | refine sL5 hS rfl rfl ?_)) | (refine oS ?_; ((first | refine sS1 hS rfl rfl rfl ?_ | refine sS2 hS rfl rfl rfl ?_); clear hS; intro w hS)) | (refine oP ?_; (((refine sP2 hS rfl rfl rfl ?_)); clear hS; (((fail_if_success guard_hyp L2); intro L2 cl2 w hL2 hM2 hS)))) | ((((refine oC ?_; (refine sC2 hS rfl rfl ?_)))); clear hS; (((fail_if_success guard_hyp g2); intro g2 w hS))))
              go_roundw
              case measure => simp [intOf]; try omega
              (try simp only [List.set_cons_zero, List.set_cons_succ] at hS)
              rw [HVV.out] at hS
              refine ⟨j + 1, m + 1, cl1, cl2, L1, L2, k ++ [j], by omega, by omega, by go_num, Lib.hid ⟨HN.out.symm, by rw [List.length_append, HK.out.2]; rfl⟩, ?_⟩
              have e2 : ints (nats (k ++ [j])) = ints (nats k) ++ [.int .i64 (j : Int)] := by simp [ints, nats]
              rw [e2, List.map_append, ← List.append_assoc, List.map_cons, List.map_nil, ntc_snoc, ← HSS.out, ← show (m : Int) + 1 = ((m + 1 : Nat) : Int) from by omega, ← Nat.add_assoc]
              exact hS.re
      · have hjl' : ¬ (j : Int) < (n : Int) := by omega
        have hjn : j = n := by omega
        have HE := Lib.hid (show k = csOf (srcL p) q r by have := HK.out.1; rw [hjn] at this; rw [this, csOf, srcL, HD.out.2.2.2])
        have hkl := HK.out.2
        go_upto_region 12 with (((refine oL ?_; ((refine sL1 hS rfl rfl rfl ?_)))))
        have hS2 := hS.fam2Put (j := q)
        clear hS
        rw [List.set_set] at hS2
        have hS3 : St w0 M (froz T u :: blk gm [.slice A1 p.len.length c1, .slice A2 p.ck.length c2, .slice A3 p.arcs.length c3, .int .i64 (root : Int), .slice (some ⟨gu, 0, none⟩) n ku, .slice (some ⟨gp, 0, none⟩) n kp, .slice (some ⟨gt, 0, none⟩) n kt, .slice (some ⟨ga, 0, none⟩) n ka, .slice (some ⟨gr, 0, none⟩) n kr, .slice (some ⟨gc, 0, none⟩) n kc, .slice (some ⟨gd, 0, none⟩) n kd, .slice F2 (nf + m) k2] 55 :: row (.slice (some ⟨gp, 0, none⟩) n kp) 3 1 n (ints (par.set q (r : Int))) :: row (.slice (some ⟨gt, 0, none⟩) n kt) 4 1 n (bools (tent.set q true)) :: row (.slice (some ⟨ga, 0, none⟩) n ka) 3 1 n (ints (aw.set q (m : Int))) :: row (.slice (some ⟨gr, 0, none⟩) n kr) 4 1 n (bools ref) :: row (.slice (some ⟨gc, 0, none⟩) n kc) 25 1 n ((rs.set q (.slice B2 m c6, m, ints (nats k))).map (·.1)) :: row (.slice (some ⟨gd, 0, none⟩) n kd) 3 1 n (ints dec) :: row (.slice F2 (nf + m) k2) 97 3 (nf + m) (ntc (fl ++ k.map (fun x => (⟨1, q, x⟩ : Nt)))) :: row (.slice (some ⟨gu, 0, none⟩) n ku) 4 1 n (bools unw) :: fam2 3 1 (rs.set q (.slice B2 m c6, m, ints (nats k))) :: cs) _ := (by rw [fst_setN]; exact hS2.re)
        clear hS2
        have hS := hS3
        clear hS3
        have HXX := Lib.hid (show (⟨root, unw, par.set q (r : Int), tent.set q true, aw.set q ((csOf (srcL p) q r).length : Int), ref, ch.set q (csOf (srcL p) q r), dec, fl ++ (csOf (srcL p) q r).map (fun x => ⟨1, q, x⟩)⟩ : TS) = ⟨root, unw, par.set q (r : Int), tent.set q true, aw.set q (m : Int), ref, ch.set q k, dec, fl ++ k.map (fun x => ⟨1, q, x⟩)⟩ by rw [← HE.out, hkl])
        have HF2 := Lib.hid (show FamN (rs.set q (.slice B2 m c6, m, ints (nats k))) (ch.set q k) from by have h := HD.out.1.set q B2 c6 k; rw [hkl] at h; exact h)
        generalize rs.set q (.slice B2 m c6, m, ints (nats k)) = rs3 at *
        have hk5 : (chR (ch.set q k) q).length ≤ 5 := by rw [chR_set_same (by omega)]; omega
        have haq : (ints (aw.set q (m : Int)))[q]? = some (.int .i64 (m : Int)) := by rw [nth_at (by rw [List.length_set]; exact hqa), nth_set_same hqa]
        by_cases hm0 : m = 0
        · have e1 : ((m : Int) == 0) = true := by simp [hm0]
          have HF := Lib.hid (HAS.out.trans (if_pos (show csOf (srcL p) q r = [] by rw [← HE.out]; exact List.eq_nil_of_length_eq_zero (by omega))))
          rw [HXX.out] at HF
          clear hm0
          go_wp2_with (first | (go_at_call 71; refine (ranswer_st gm A1 c1 A2 c2 A3 c3 p root n gu ku gp kp gt kt ga ka gr kr gc kc gd kd (par.set q (r : Int)) (aw.set q (m : Int)) dec unw (tent.set q true) ref (ch.set q k) rs3 (fl ++ k.map (fun x => (⟨1, q, x⟩ : Nt))) F2 (nf + m) k2 q r hS (by omega) hq (by rw [List.length_set]; exact hp) (by rw [List.length_set]; exact ht) hr hd (by rw [List.length_set]; exact hc) HF2.out hk5 (fun _ => nth_set_same hpq _)).mono ?_; rintro e w3 ⟨rfl, F3, nf3, k3, hS1⟩; clear hS; have hS := hS1; clear hS1) | (refine oL ?_; (first | refine sL1 hS rfl rfl rfl ?_ | refine sL5 hS rfl rfl ?_)))
          first | go_end0 | refine bodyPost_ret (results_none rfl _ _ _) rfl ?_
          refine ⟨rfl, rs3, F3, nf3, k3, Lib.hid ?_, ?_⟩
          · rw [HF.out, (ans_par _ _).2.2.2]; exact HF2.out
          · rw [HF.out, (ans_par _ _).1, (ans_par _ _).2.1, (ans_par _ _).2.2.1]
            exact hS
        · have e1 : ((m : Int) == 0) = false := by simp; omega
          have HF := Lib.hid (HAS.out.trans (if_neg (show ¬ csOf (srcL p) q r = [] by rw [← HE.out]; intro h; rw [h] at hkl; simp at hkl; omega)))
          rw [HXX.out] at HF
          clear hm0
          go_wp2_with (((refine oL ?_; (first | refine sL1 hS rfl rfl rfl ?_ | refine sL5 hS rfl rfl ?_))))
          first | go_end0 | refine bodyPost_ret (results_none rfl _ _ _) rfl ?_
          first | refine ⟨rfl, rs3, F2, nf + m, k2, Lib.hid ?_, ?_⟩ | refine ⟨rfl, rs3, Lib.hid ?_, F2, nf + m, k2, ?_⟩
          · rw [HF.out]; exact HF2.out
          · rw [HF.out]; exact hS
end Go.Proofs.Ytmjmdncdmmcmaaa
