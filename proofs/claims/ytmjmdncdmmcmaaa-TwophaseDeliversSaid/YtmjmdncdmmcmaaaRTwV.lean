/- rollbacknetref24.Deliver of a note in flight. Conditions: the machine lies in memory, the note fits it. -/
import Derived.Test.YtmjmdncdmmcmaaaRTwC
namespace Go.Proofs.Ytmjmdncdmmcmaaa
open Go.RowKit Tph
set_option linter.unusedVariables false
set_option linter.unusedSimpArgs false
set_option linter.unusedSectionVars false

theorem ntc_take (l : List Nt) (k : Nat) : (ntc l).take (k * 3) = ntc (l.take k) := by
  induction k generalizing l with
  | zero => simp [ntc]
  | succ k ih =>
    cases l with
    | nil => simp [ntc]
    | cons x l =>
      have h1 : ntc (x :: l) = ntCells x ++ ntc l := rfl
      have h2 : ntc ((x :: l).take (k + 1)) = ntCells x ++ ntc (l.take k) := rfl
      rw [h1, h2, ← ih l, Nat.succ_mul, Nat.add_comm, List.take_append, List.take_of_length_le (by show 3 ≤ 3 + k * 3; omega), show (ntCells x).length = 3 from rfl, Nat.add_sub_cancel_left]
theorem nt_at {l : List Nt} {i : Nat} (hi : i < l.length) : ∀ (j : Nat) v, ([.int .i64 (l.getD i ⟨0, 0, 0⟩).kd, .int .i64 ((l.getD i ⟨0, 0, 0⟩).fr : Int), .int .i64 ((l.getD i ⟨0, 0, 0⟩).to : Int)] : List Value)[j]? = some v → (ntc l)[i * 3 + j]? = some v := by
  have hl : l.getD i ⟨0, 0, 0⟩ = l[i] := by simp [hi]
  rw [hl]
  exact fun j v hv => flat_at (f := ntCells) (sz := 3) (fun _ => rfl) hi j v hv
theorem parN_nthD {l : List Int} {q : Nat} (h : q < l.length) : nth l q = parN l q := by
  unfold parN nth
  rw [List.getD_eq_getElem?_getD, List.getD_eq_getElem?_getD, List.getElem?_eq_getElem h]
  rfl
/-- what the reference's Begin and Deliver return -/
theorem fin_rt {S T : Nat → Prop} {w0 w u : World} (gm : Nat) (A1 : Option Addr) (c1 : Nat) (A2 : Option Addr) (c2 : Nat) (A3 : Option Addr) (c3 : Nat) (p : Pat) (root n : Nat) (gu ku gp kp gt kt ga ka gr kr gc kc gd kd : Nat) (unw : List Bool) (t : TS) (rs : List RwD) (FA : Option Addr) (nf fc : Nat) {cs : List (Chunk w0 (fun k => S k ∧ k < w0.heap.size))} (hS : St w0 (fun k => S k ∧ k < w0.heap.size) (froz T u :: blk gm [.slice A1 p.len.length c1, .slice A2 p.ck.length c2, .slice A3 p.arcs.length c3, .int .i64 (root : Int), .slice (some ⟨gu, 0, none⟩) n ku, .slice (some ⟨gp, 0, none⟩) n kp, .slice (some ⟨gt, 0, none⟩) n kt, .slice (some ⟨ga, 0, none⟩) n ka, .slice (some ⟨gr, 0, none⟩) n kr, .slice (some ⟨gc, 0, none⟩) n kc, .slice (some ⟨gd, 0, none⟩) n kd, .slice FA nf fc] 55 :: row (.slice (some ⟨gp, 0, none⟩) n kp) 3 1 n (ints t.par) :: row (.slice (some ⟨gt, 0, none⟩) n kt) 4 1 n (bools t.tent) :: row (.slice (some ⟨ga, 0, none⟩) n ka) 3 1 n (ints t.aw) :: row (.slice (some ⟨gr, 0, none⟩) n kr) 4 1 n (bools t.ref) :: row (.slice (some ⟨gc, 0, none⟩) n kc) 25 1 n (rs.map (·.1)) :: row (.slice (some ⟨gd, 0, none⟩) n kd) 3 1 n (ints t.dec) :: row (.slice FA nf fc) 97 3 nf (ntc t.fl) :: row (.slice (some ⟨gu, 0, none⟩) n ku) 4 1 n (bools unw) :: fam2 3 1 rs :: cs) w) (hF : FamN rs t.ch) (hr : t.root = root) (hu : t.unw = unw) (hi : Into (fun k => S k ∧ k < w0.heap.size) T w0 u) (hp : PatAt T u ⟨A1, c1, A2, c2, A3, c3⟩ p) : RetT S w0 p n t (.returned (.tuple #[.agg #[.slice A1 p.len.length c1, .slice A2 p.ck.length c2, .slice A3 p.arcs.length c3, .int .i64 (root : Int), .slice (some ⟨gu, 0, none⟩) n ku, .slice (some ⟨gp, 0, none⟩) n kp, .slice (some ⟨gt, 0, none⟩) n kt, .slice (some ⟨ga, 0, none⟩) n ka, .slice (some ⟨gr, 0, none⟩) n kr, .slice (some ⟨gc, 0, none⟩) n kc, .slice (some ⟨gd, 0, none⟩) n kd, .slice FA nf fc], .int .i64 0])) w := by
  have h1 := hS.famFN (e := 3) (sz := 1) (rs := rs) (by simp)
  have hf := own_fx (hS.rowOk (v := .slice FA nf fc))
  rw [ntc_len] at hf
  have hnf : nf = t.fl.length := by omega
  refine ⟨⟨A1, c1, A2, c2, A3, c3, some ⟨gu, 0, none⟩, ku, some ⟨gp, 0, none⟩, kp, some ⟨gt, 0, none⟩, kt, some ⟨ga, 0, none⟩, ka, some ⟨gr, 0, none⟩, kr, some ⟨gc, 0, none⟩, kc, some ⟨gd, 0, none⟩, kd, FA, fc⟩, by rw [hr, ← hnf]; rfl, ⟨hp.into hS.ornF, by rw [hu]; exact hS.rvF, hS.rvF, hS.rvF, hS.rvF, hS.rvF, ⟨_, hS.rvF, hF.res h1⟩, hS.rvF, hS.rvF, ?_⟩, hS.extF (intoTr hi hS.ornF)⟩
  rw [← hnf]
  exact hf.2
set_option maxRecDepth 100000 in
set_option maxHeartbeats 6400000 in
theorem rdeliver_any {S : Nat → Prop} (x : TX) (p : Pat) (t : TS) (n k : Nat) (w0 : World) (h : TpAt S w0 x p t) (hl : TsL n t) (hg : Good p) (hn : p.len.length = n) (hk : k < t.fl.length) (hok : DlvOk n t k) (hun : ∀ q, q < n → (nth t.par q < 0 → nth t.par q = -1) ∧ (nth t.par q = -1 → chR t.ch q = [] ∧ nth t.aw q = 0)) :
    Calls Try.prog 35 #[x.val p t.root n t.fl.length, .int .i64 (k : Int)] w0 (RetT S w0 p n (t.step (srcL p) k)) := by
  have hS := St.startF w0 S
  obtain ⟨A1, c1, A2, c2, A3, c3, UA, uc, PA, pc, EA, ec, WA, wc, RA0, rc, CA, cc, DA, dc, FA, fc⟩ := x
  obtain ⟨root, unw, par, tent, aw, ref, ch, dec, fl⟩ := t
  have HT := Lib.hid h.here
  obtain ⟨kz5, hfr, hto, hpk, haw, hsm, hfl⟩ := hok
  simp only at kz5 hfr hto hpk haw hsm hfl hk hun
  have hn5 := hg.n5
  rw [hn] at hn5
  have HLL := Lib.hid hl
  have HG := Lib.hid (And.intro hg hn)
  have HST := Lib.hid (show (⟨root, unw, par, tent, aw, ref, ch, dec, fl.take k ++ fl.drop (k + 1)⟩ : TS).dlv (srcL p) (fl.getD k ⟨0, 0, 0⟩) = (⟨root, unw, par, tent, aw, ref, ch, dec, fl⟩ : TS).step (srcL p) k from rfl)
  have HAT := Lib.hid (nt_at hk)
  have HFL := Lib.hid (show (ntc fl).length = fl.length * 3 from ntc_len fl)
  have hnq := hun _ hto
  simp only [TX.val, TX.cells] at *
  generalize (fl.getD k ⟨0, 0, 0⟩) = y at *
  obtain ⟨kz, fr, q⟩ := y
  simp only at hnq
  have HK := Lib.hid (And.intro kz5 (And.intro hfr (And.intro hto (And.intro hpk (And.intro haw (And.intro hsm hnq))))))
  have hn0 : 0 < n := Nat.lt_of_le_of_lt (Nat.zero_le _) hto
  clear h hl hg hn kz5 hfr hto hpk haw hsm hun hnq
  generalize hnf : fl.length = nf at *
  have HNF := Lib.hid hnf
  clear hnf
  have hk' : (k : Int) < (nf : Int) := by omega
  have d0 : decide ((k : Int) < 0) = false := decide_eq_false (by omega)
  have d1 : decide ((nf : Int) ≤ (k : Int)) = false := decide_eq_false (by omega)
  have d1n : decide (nf ≤ k) = false := decide_eq_false (by omega)
  obtain ⟨RR, hRR⟩ : ∃ RR : Ending → World → Prop, RR = RetT S w0 p n ((⟨root, unw, par, tent, aw, ref, ch, dec, fl⟩ : TS).step (srcL p) k) := ⟨_, rfl⟩
  rw [← hRR]
  have HR := Lib.hid hRR
  clear hRR
  go_enter Try.func35, Try.ntmps35
  go_wp2_with (first | (refine oL ?_; (first | refine sL1 hS rfl rfl rfl ?_ | refine sL2 hS rfl rfl rfl ?_)) | ((first | (refine oB ?_; (refine sB1 hS rfl rfl ?_)) | refine sN1 hS rfl ?_); clear hS; first | ((fail_if_success guard_hyp g1); intro g1 w hS) | ((fail_if_success guard_hyp g2); intro g2 w hS)))
  clear d0 d1 d1n
  replace hS : St w0 (fun k => S k ∧ k < w0.heap.size) (froz (fun k => S k ∧ k < w0.heap.size) w0 :: blk g2 tp0 55 :: blk g1 [.slice A1 p.len.length c1, .slice A2 p.ck.length c2, .slice A3 p.arcs.length c3, .int .i64 (root : Int), .slice UA n uc, .slice PA n pc, .slice EA n ec, .slice WA n wc, .slice RA0 n rc, .slice CA n cc, .slice DA n dc, .slice FA nf fc] 55 :: []) _ := hS.re
  refine (rcopy_st A1 c1 A2 c2 A3 c3 UA uc PA pc EA ec WA wc RA0 rc CA cc DA dc FA fc p root unw par tent aw ref ch dec fl n nf hS HT.out HLL.out hn5 HNF.out (by omega) (fun l hl => Nat.le_trans (HK.out.2.2.2.2.2.1 l hl) (by omega))).mono ?_
  rintro e w2 ⟨Lu, ku, Lp, kp, Lt, kt, La, ka, Lr, kr, Lc, kc, Ld, kd, Lf, kf, rs, rfl, HF, hS2⟩
  replace hS := hS2
  clear hS2
  obtain ⟨gu, rfl⟩ := hS.rowSome Lu hn0
  obtain ⟨gp, rfl⟩ := hS.rowSome Lp hn0
  obtain ⟨gt, rfl⟩ := hS.rowSome Lt hn0
  obtain ⟨ga, rfl⟩ := hS.rowSome La hn0
  obtain ⟨gr, rfl⟩ := hS.rowSome Lr hn0
  obtain ⟨gc, rfl⟩ := hS.rowSome Lc hn0
  obtain ⟨gd, rfl⟩ := hS.rowSome Ld hn0
  obtain ⟨gF, rfl⟩ := hS.rowSome Lf (by omega)
  have f3 := (hS.rowForm (some ⟨gF, 0, none⟩) (k := nf) (c := kf)).1
  go_upto_region 5 with (first | (refine oL ?_; refine sR8 (o := k * 3) hS rfl rfl HAT.out rfl ?_) | (refine oL ?_; ((refine sL1 hS rfl rfl rfl ?_))) | (refine oS ?_; (((refine sS4 hS rfl rfl rfl ?_)); clear hS; intro w hS)) | (((refine sN1 hS rfl ?_)); clear hS; first | ((fail_if_success guard_hyp g3); intro g3 w hS) | ((fail_if_success guard_hyp g4); intro g4 w hS)))
  replace hS : St w0 (fun k => S k ∧ k < w0.heap.size) (froz (fun k => S k ∧ k < w0.heap.size) w0 :: blk g3 [.slice A1 p.len.length c1, .slice A2 p.ck.length c2, .slice A3 p.arcs.length c3, .int .i64 (root : Int), .slice (some ⟨gu, 0, none⟩) n ku, .slice (some ⟨gp, 0, none⟩) n kp, .slice (some ⟨gt, 0, none⟩) n kt, .slice (some ⟨ga, 0, none⟩) n ka, .slice (some ⟨gr, 0, none⟩) n kr, .slice (some ⟨gc, 0, none⟩) n kc, .slice (some ⟨gd, 0, none⟩) n kd, .slice (some ⟨gF, 0, none⟩) nf kf] 55 :: row (.slice (some ⟨gp, 0, none⟩) n kp) 3 1 n (ints par) :: row (.slice (some ⟨gt, 0, none⟩) n kt) 4 1 n (bools tent) :: row (.slice (some ⟨ga, 0, none⟩) n ka) 3 1 n (ints aw) :: row (.slice (some ⟨gr, 0, none⟩) n kr) 4 1 n (bools ref) :: row (.slice (some ⟨gc, 0, none⟩) n kc) 25 1 n (rs.map (·.1)) :: row (.slice (some ⟨gd, 0, none⟩) n kd) 3 1 n (ints dec) :: row (.slice (some ⟨gF, 0, none⟩) nf kf) 97 3 nf (ntc fl) :: row (.slice (some ⟨gu, 0, none⟩) n ku) 4 1 n (bools unw) :: fam2 3 1 rs :: blk g4 [.int .i64 kz, .int .i64 (fr : Int), .int .i64 (q : Int)] 97 :: blk g2 tp0 55 :: blk g1 [.slice A1 p.len.length c1, .slice A2 p.ck.length c2, .slice A3 p.arcs.length c3, .int .i64 (root : Int), .slice UA n uc, .slice PA n pc, .slice EA n ec, .slice WA n wc, .slice RA0 n rc, .slice CA n cc, .slice DA n dc, .slice FA nf fc] 55 :: []) _ := hS.re
  have hk1 : k + 1 ≤ nf := by omega
  obtain ⟨FA2, hFA2⟩ : ∃ FA2, FA2 = fromA (some ⟨gF, 0, none⟩) (k + 1) kf 3 := ⟨_, rfl⟩
  have HFA := Lib.hid hFA2
  have HTL := Lib.hid (show (ntc (fl.drop (k + 1))).length = (nf - (k + 1)) * 3 from by rw [ntc_len, List.length_drop, HNF.out])
  clear hFA2
  refine dr_start1 [11] 8 hS (by kernel_rfl) rfl ?_; clear hS; intro w hS
  refine dP hS 0 rfl rfl ?_
  (try simp only [Act.put, nA, nB, nC])
  (refine dL1 hS 1 rfl rfl rfl rfl ?_)
  (try simp only [Act.put, nA, nB, nC])
  refine dM hS 2 rfl rfl rfl ?_
  (try simp only [Act.put, nA, nB, nC])
  (refine dTo (sz := 3) Try.underlying53 (by kernel_rfl) (fun h => by cases h) (fun a h => by cases h; rfl) (by omega) f3 hS 3 rfl rfl rfl rfl ?_)
  (try simp only [Act.put, nA, nB, nC])
  refine dP hS 4 rfl rfl ?_
  (try simp only [Act.put, nA, nB, nC])
  (refine dL1 hS 5 rfl rfl rfl rfl ?_)
  (try simp only [Act.put, nA, nB, nC])
  refine dM hS 6 rfl rfl rfl ?_
  (try simp only [Act.put, nA, nB, nC])
  refine dP hS 7 rfl rfl ?_
  (try simp only [Act.put, nA, nB, nC])
  (refine dFrom (sz := 3) HFA.out Try.underlying53 (by kernel_rfl) (fun h => by cases h) (fun a h => by cases h; rfl) hk1 f3 hS 8 rfl rfl rfl rfl ?_)
  (try simp only [Act.put, nA, nB, nC])
  refine dr_one 9 (by kernel_rfl) rfl ?_
  have hrv : RV All w FA2 (ntc (fl.drop (k + 1))) := (by rw [← ntc_drop, HFA.out]; exact RV.fromA (hS.rv (A := some ⟨gF, 0, none⟩) (k := nf) (c := kf)) HFL.out f3 (k + 1)); have hX := hS.shrink (A := some ⟨gF, 0, none⟩) (n := nf) (c := kf) k (by omega); refine st_appG (m := nf - (k + 1)) hX rfl (v := .slice (some ⟨gF, 0, none⟩) k kf) rfl rfl hrv HTL.out (oneCell_ntc _) (by omega) ?_; clear hS hX hrv; intro F3 f3c w hF3 hF4 hS
  (try simp only [Act.put, nA, nB, nC])
  refine dr_end hS ?_
  refine dP hS 10 rfl rfl ?_
  (try simp only [Act.put, nA, nB, nC])
  refine dr_one 11 (by kernel_rfl) rfl ?_
  (((refine sS1 hS rfl rfl rfl ?_)); clear hS; intro w hS)
  (try simp only [Act.put, nA, nB, nC])
  refine dr_late (by kernel_rfl) ?_
  refine dr_done (by kernel_rfl) ?_
  rw [ntc_take, ← ntc_app] at hS
  generalize hmf2 : k + (nf - (k + 1)) = mf at *
  have hmf3 : mf ≤ 1800 := by omega
  clear hmf2 hk' hk hk1
  generalize fl.take k ++ fl.drop (k + 1) = fl2 at *
  go_upto_region 7 with (((refine oL ?_; ((refine sL1 hS rfl rfl rfl ?_)))))
  (try simp only [List.set_cons_zero, List.set_cons_succ] at hS)
  replace hS : St w0 (fun k => S k ∧ k < w0.heap.size) (froz (fun k => S k ∧ k < w0.heap.size) w0 :: blk g3 [.slice A1 p.len.length c1, .slice A2 p.ck.length c2, .slice A3 p.arcs.length c3, .int .i64 (root : Int), .slice (some ⟨gu, 0, none⟩) n ku, .slice (some ⟨gp, 0, none⟩) n kp, .slice (some ⟨gt, 0, none⟩) n kt, .slice (some ⟨ga, 0, none⟩) n ka, .slice (some ⟨gr, 0, none⟩) n kr, .slice (some ⟨gc, 0, none⟩) n kc, .slice (some ⟨gd, 0, none⟩) n kd, .slice F3 mf f3c] 55 :: row (.slice (some ⟨gp, 0, none⟩) n kp) 3 1 n (ints par) :: row (.slice (some ⟨gt, 0, none⟩) n kt) 4 1 n (bools tent) :: row (.slice (some ⟨ga, 0, none⟩) n ka) 3 1 n (ints aw) :: row (.slice (some ⟨gr, 0, none⟩) n kr) 4 1 n (bools ref) :: row (.slice (some ⟨gc, 0, none⟩) n kc) 25 1 n (rs.map (·.1)) :: row (.slice (some ⟨gd, 0, none⟩) n kd) 3 1 n (ints dec) :: row (.slice F3 mf f3c) 97 3 mf (ntc fl2) :: row (.slice (some ⟨gu, 0, none⟩) n ku) 4 1 n (bools unw) :: fam2 3 1 rs :: blk g4 [.int .i64 kz, .int .i64 (fr : Int), .int .i64 (q : Int)] 97 :: blk g2 tp0 55 :: blk g1 [.slice A1 p.len.length c1, .slice A2 p.ck.length c2, .slice A3 p.arcs.length c3, .int .i64 (root : Int), .slice UA n uc, .slice PA n pc, .slice EA n ec, .slice WA n wc, .slice RA0 n rc, .slice CA n cc, .slice DA n dc, .slice FA nf fc] 55 :: []) _ := hS.re
  obtain ⟨hkz, hfr, hq, hpk, haw, hsm, hm1, h0⟩ := HK.out
  have HSM := Lib.hid hsm
  have HM1 := Lib.hid hm1
  have hq' : (q : Int) < (n : Int) := by omega
  have hpq := nth_at (l := par) (q := q) (by rw [HLL.out.p]; exact hq)
  have hrq := opOf_at (l := ref) (q := q) (by rw [HLL.out.r]; exact hq)
  have htq := opOf_at (l := tent) (q := q) (by rw [HLL.out.te]; exact hq)
  have haq := nth_at (l := aw) (q := q) (by rw [HLL.out.a]; exact hq)
  have hqa : q < aw.length := by rw [HLL.out.a]; exact hq
  have hqr : q < ref.length := by rw [HLL.out.r]; exact hq
  have haq2 := nth_at (l := aw.set q (nth aw q - 1)) (q := q) (by rw [List.length_set]; exact hqa)
  rw [nth_set_same hqa] at haq2
  have hll := hsm _ (chR_mem (ch := ch) (q := q) (by rw [HLL.out.c]; exact hq))
  have hpn : parN par q = nth par q := (parN_nthD (by rw [HLL.out.p]; exact hq)).symm
  have HPN := Lib.hid hpn
  have H0 := Lib.hid h0
  clear hsm hm1 hpn h0
  by_cases h1 : kz = 1
  · have HV0 := Lib.hid (show (⟨root, unw, par, tent, aw, ref, ch, dec, fl2⟩ : TS).dlv (srcL p) (⟨kz, fr, q⟩ : Nt) = if parN par q = -1 then (⟨root, unw, par, tent, aw, ref, ch, dec, fl2⟩ : TS).ask (srcL p) q fr else if opOf ref q = true then (⟨root, unw, par, tent, aw, ref, ch, dec, fl2⟩ : TS).post ⟨3, q, fr⟩ else (⟨root, unw, par, tent, aw, ref, ch, dec, fl2⟩ : TS).post ⟨2, q, fr⟩ from if_pos h1)
    rw [HPN.out] at HV0
    clear hkz hpk haw haq haq2
    subst h1
    by_cases hz : nth par q = -1
    · have HV := Lib.hid (HV0.out.trans (if_pos hz))
      have HM0 := Lib.hid (H0.out hz)
      rw [hz] at hpq
      clear HV0 hz
      go_wp2_with (first | (go_at_call 64; refine (rask_st g3 A1 c1 A2 c2 A3 c3 p root n gu ku gp kp gt kt ga ka gr kr gc kc gd kd par aw dec unw tent ref ch rs fl2 F3 mf f3c q fr (hS.re (ds := froz (fun k => S k ∧ k < w0.heap.size) w0 :: blk g3 [.slice A1 p.len.length c1, .slice A2 p.ck.length c2, .slice A3 p.arcs.length c3, .int .i64 (root : Int), .slice (some ⟨gu, 0, none⟩) n ku, .slice (some ⟨gp, 0, none⟩) n kp, .slice (some ⟨gt, 0, none⟩) n kt, .slice (some ⟨ga, 0, none⟩) n ka, .slice (some ⟨gr, 0, none⟩) n kr, .slice (some ⟨gc, 0, none⟩) n kc, .slice (some ⟨gd, 0, none⟩) n kd, .slice F3 mf f3c] 55 :: row (.slice (some ⟨gp, 0, none⟩) n kp) 3 1 n (ints par) :: row (.slice (some ⟨gt, 0, none⟩) n kt) 4 1 n (bools tent) :: row (.slice (some ⟨ga, 0, none⟩) n ka) 3 1 n (ints aw) :: row (.slice (some ⟨gr, 0, none⟩) n kr) 4 1 n (bools ref) :: row (.slice (some ⟨gc, 0, none⟩) n kc) 25 1 n (rs.map (·.1)) :: row (.slice (some ⟨gd, 0, none⟩) n kd) 3 1 n (ints dec) :: row (.slice F3 mf f3c) 97 3 mf (ntc fl2) :: row (.slice (some ⟨gu, 0, none⟩) n ku) 4 1 n (bools unw) :: fam2 3 1 rs :: blk g4 [.int .i64 1, .int .i64 (fr : Int), .int .i64 (q : Int)] 97 :: blk g2 tp0 55 :: blk g1 [.slice A1 p.len.length c1, .slice A2 p.ck.length c2, .slice A3 p.arcs.length c3, .int .i64 (root : Int), .slice UA n uc, .slice PA n pc, .slice EA n ec, .slice WA n wc, .slice RA0 n rc, .slice CA n cc, .slice DA n dc, .slice FA nf fc] 55 :: [])) (by omega) hq HLL.out.p HLL.out.te HLL.out.a HLL.out.r HLL.out.d HLL.out.c HLL.out.u HF.out HSM.out HT.out.pat HG.out.1 HG.out.2 (HM0.out).1 (HM0.out).2).mono ?_; rintro e w3 ⟨rfl, rs2, F2, nf2, k2, HF2, hS1⟩; clear hS; have hS := hS1; clear hS1) | (refine oL ?_; (first | refine sL1 hS rfl rfl rfl ?_ | refine sL2 hS rfl rfl rfl ?_ | refine sL5 hS rfl rfl ?_)) | (refine oS ?_; (((refine sS4 hS rfl rfl rfl ?_)); clear hS; intro w hS)))
      go_wp2_with (fail)
      (try simp only [List.set_cons_zero, List.set_cons_succ] at hS)
      refine st_retCT hS rfl rfl rfl rfl rfl ?_
      rw [HR.out, ← HST.out, HV.out]
      exact fin_rt g3 A1 c1 A2 c2 A3 c3 p root n gu ku gp kp gt kt ga ka gr kr gc kc gd kd unw ((⟨root, unw, par, tent, aw, ref, ch, dec, fl2⟩ : TS).ask (srcL p) q fr) rs2 F2 nf2 k2 hS (HF2.out) (ask_root.1) (ask_root.2) (fun k hk _ => ⟨hk, rfl⟩) HT.out.pat
    · have HV1 := Lib.hid (HV0.out.trans (if_neg hz))
      have e1 : decide (nth par q < 0) = false := decide_eq_false (fun h => hz (HM1.out h))
      clear HV0 hz
      generalize opOf ref q = b at *
      generalize nth par q = z at *
      cases b with
      | true =>
        have HV := Lib.hid (HV1.out.trans (if_pos rfl))
        go_wp2_with (first | (refine oL ?_; (first | refine sL1 hS rfl rfl rfl ?_ | refine sL2 hS rfl rfl rfl ?_ | refine sL5 hS rfl rfl ?_)) | (refine oS ?_; ((first | refine sS1 hS rfl rfl rfl ?_ | refine sS4 hS rfl rfl rfl ?_); clear hS; intro w hS)) | (refine oP ?_; (((refine sP2 hS rfl rfl rfl ?_)); clear hS; (((fail_if_success guard_hyp L1); intro L1 cl1 w hL1 hM1 hS)))) | ((((refine oC ?_; (refine sC2 hS rfl rfl ?_)))); clear hS; (((fail_if_success guard_hyp g5); intro g5 w hS))))
        (try simp only [List.set_cons_zero, List.set_cons_succ] at hS)
        refine st_retCT hS rfl rfl rfl rfl rfl ?_
        rw [HR.out, ← HST.out, HV.out]
        rw [show ntc fl2 ++ [.int .i64 3, .int .i64 (q : Int), .int .i64 (fr : Int)] = ntc (fl2 ++ [⟨3, q, fr⟩]) from (ntc_snoc fl2 ⟨3, q, fr⟩).symm] at hS
        have hS2 : St w0 (fun k => S k ∧ k < w0.heap.size) (froz (fun k => S k ∧ k < w0.heap.size) w0 :: blk g3 [.slice A1 p.len.length c1, .slice A2 p.ck.length c2, .slice A3 p.arcs.length c3, .int .i64 (root : Int), .slice (some ⟨gu, 0, none⟩) n ku, .slice (some ⟨gp, 0, none⟩) n kp, .slice (some ⟨gt, 0, none⟩) n kt, .slice (some ⟨ga, 0, none⟩) n ka, .slice (some ⟨gr, 0, none⟩) n kr, .slice (some ⟨gc, 0, none⟩) n kc, .slice (some ⟨gd, 0, none⟩) n kd, .slice L1 (mf + 1) cl1] 55 :: row (.slice (some ⟨gp, 0, none⟩) n kp) 3 1 n (ints par) :: row (.slice (some ⟨gt, 0, none⟩) n kt) 4 1 n (bools tent) :: row (.slice (some ⟨ga, 0, none⟩) n ka) 3 1 n (ints aw) :: row (.slice (some ⟨gr, 0, none⟩) n kr) 4 1 n (bools ref) :: row (.slice (some ⟨gc, 0, none⟩) n kc) 25 1 n (rs.map (·.1)) :: row (.slice (some ⟨gd, 0, none⟩) n kd) 3 1 n (ints dec) :: row (.slice L1 (mf + 1) cl1) 97 3 (mf + 1) (ntc (fl2 ++ [⟨3, q, fr⟩])) :: row (.slice (some ⟨gu, 0, none⟩) n ku) 4 1 n (bools unw) :: fam2 3 1 rs :: []) _ := hS.re
        exact fin_rt g3 A1 c1 A2 c2 A3 c3 p root n gu ku gp kp gt kt ga ka gr kr gc kc gd kd unw ((⟨root, unw, par, tent, aw, ref, ch, dec, fl2⟩ : TS).post ⟨3, q, fr⟩) rs L1 (mf + 1) cl1 hS2 HF.out rfl rfl (fun k hk _ => ⟨hk, rfl⟩) HT.out.pat
      | false =>
        have HV := Lib.hid (HV1.out.trans (if_neg (by decide)))
        go_wp2_with (first | (refine oL ?_; (first | refine sL1 hS rfl rfl rfl ?_ | refine sL2 hS rfl rfl rfl ?_ | refine sL5 hS rfl rfl ?_)) | (refine oS ?_; ((first | refine sS1 hS rfl rfl rfl ?_ | refine sS4 hS rfl rfl rfl ?_); clear hS; intro w hS)) | (refine oP ?_; (((refine sP2 hS rfl rfl rfl ?_)); clear hS; (((fail_if_success guard_hyp L1); intro L1 cl1 w hL1 hM1 hS)))) | ((((refine oC ?_; (refine sC2 hS rfl rfl ?_)))); clear hS; (((fail_if_success guard_hyp g5); intro g5 w hS))))
        (try simp only [List.set_cons_zero, List.set_cons_succ] at hS)
        refine st_retCT hS rfl rfl rfl rfl rfl ?_
        rw [HR.out, ← HST.out, HV.out]
        rw [show ntc fl2 ++ [.int .i64 2, .int .i64 (q : Int), .int .i64 (fr : Int)] = ntc (fl2 ++ [⟨2, q, fr⟩]) from (ntc_snoc fl2 ⟨2, q, fr⟩).symm] at hS
        have hS2 : St w0 (fun k => S k ∧ k < w0.heap.size) (froz (fun k => S k ∧ k < w0.heap.size) w0 :: blk g3 [.slice A1 p.len.length c1, .slice A2 p.ck.length c2, .slice A3 p.arcs.length c3, .int .i64 (root : Int), .slice (some ⟨gu, 0, none⟩) n ku, .slice (some ⟨gp, 0, none⟩) n kp, .slice (some ⟨gt, 0, none⟩) n kt, .slice (some ⟨ga, 0, none⟩) n ka, .slice (some ⟨gr, 0, none⟩) n kr, .slice (some ⟨gc, 0, none⟩) n kc, .slice (some ⟨gd, 0, none⟩) n kd, .slice L1 (mf + 1) cl1] 55 :: row (.slice (some ⟨gp, 0, none⟩) n kp) 3 1 n (ints par) :: row (.slice (some ⟨gt, 0, none⟩) n kt) 4 1 n (bools tent) :: row (.slice (some ⟨ga, 0, none⟩) n ka) 3 1 n (ints aw) :: row (.slice (some ⟨gr, 0, none⟩) n kr) 4 1 n (bools ref) :: row (.slice (some ⟨gc, 0, none⟩) n kc) 25 1 n (rs.map (·.1)) :: row (.slice (some ⟨gd, 0, none⟩) n kd) 3 1 n (ints dec) :: row (.slice L1 (mf + 1) cl1) 97 3 (mf + 1) (ntc (fl2 ++ [⟨2, q, fr⟩])) :: row (.slice (some ⟨gu, 0, none⟩) n ku) 4 1 n (bools unw) :: fam2 3 1 rs :: []) _ := hS.re
        exact fin_rt g3 A1 c1 A2 c2 A3 c3 p root n gu ku gp kp gt kt ga ka gr kr gc kc gd kd unw ((⟨root, unw, par, tent, aw, ref, ch, dec, fl2⟩ : TS).post ⟨2, q, fr⟩) rs L1 (mf + 1) cl1 hS2 HF.out rfl rfl (fun k hk _ => ⟨hk, rfl⟩) HT.out.pat
  · rcases (show kz = 4 ∨ kz = 5 ∨ kz = 2 ∨ kz = 3 from by rcases hkz with h | h | h | h | h; exact absurd h h1; exact .inr (.inr (.inl h)); exact .inr (.inr (.inr h)); exact .inl h; exact .inr (.inl h)) with rfl | rfl | rfl | rfl
    · have HV0 := Lib.hid (show (⟨root, unw, par, tent, aw, ref, ch, dec, fl2⟩ : TS).dlv (srcL p) (⟨4, fr, q⟩ : Nt) = if opOf tent q = true then (⟨root, unw, par, tent, aw, ref, ch, dec, fl2⟩ : TS).dcd q 1 else (⟨root, unw, par, tent, aw, ref, ch, dec, fl2⟩ : TS) from by unfold TS.dlv; rw [if_neg (show ¬ (4 : Int) = 1 by decide), if_neg (show ¬ ((4 : Int) = 2 ∨ (4 : Int) = 3) by decide), if_pos rfl])
      obtain ⟨B, cB, hrs, hcv⟩ := HF.out.at_ (k := q) (by rw [HLL.out.c]; exact hq)
      have HRS := Lib.hid hrs
      clear hrs hcv
      clear hkz hpk haw haq haq2 h1
      generalize opOf tent q = b at *
      cases b with
      | true =>
        have HV := Lib.hid (HV0.out.trans (if_pos rfl))
        go_wp2_with (first | (go_at_call 72; refine (rdecide_st g3 A1 c1 A2 c2 A3 c3 p root n gu ku gp kp gt kt ga ka gr kr gc kc gd kd par aw dec unw tent ref rs fl2 F3 mf f3c q 1 (chR ch q) B cB (hS.re (ds := froz (fun k => S k ∧ k < w0.heap.size) w0 :: blk g3 [.slice A1 p.len.length c1, .slice A2 p.ck.length c2, .slice A3 p.arcs.length c3, .int .i64 (root : Int), .slice (some ⟨gu, 0, none⟩) n ku, .slice (some ⟨gp, 0, none⟩) n kp, .slice (some ⟨gt, 0, none⟩) n kt, .slice (some ⟨ga, 0, none⟩) n ka, .slice (some ⟨gr, 0, none⟩) n kr, .slice (some ⟨gc, 0, none⟩) n kc, .slice (some ⟨gd, 0, none⟩) n kd, .slice F3 mf f3c] 55 :: row (.slice (some ⟨gp, 0, none⟩) n kp) 3 1 n (ints par) :: row (.slice (some ⟨gt, 0, none⟩) n kt) 4 1 n (bools tent) :: row (.slice (some ⟨ga, 0, none⟩) n ka) 3 1 n (ints aw) :: row (.slice (some ⟨gr, 0, none⟩) n kr) 4 1 n (bools ref) :: row (.slice (some ⟨gc, 0, none⟩) n kc) 25 1 n (rs.map (·.1)) :: row (.slice (some ⟨gd, 0, none⟩) n kd) 3 1 n (ints dec) :: row (.slice F3 mf f3c) 97 3 mf (ntc fl2) :: row (.slice (some ⟨gu, 0, none⟩) n ku) 4 1 n (bools unw) :: fam2 3 1 rs :: blk g4 [.int .i64 4, .int .i64 (fr : Int), .int .i64 (q : Int)] 97 :: blk g2 tp0 55 :: blk g1 [.slice A1 p.len.length c1, .slice A2 p.ck.length c2, .slice A3 p.arcs.length c3, .int .i64 (root : Int), .slice UA n uc, .slice PA n pc, .slice EA n ec, .slice WA n wc, .slice RA0 n rc, .slice CA n cc, .slice DA n dc, .slice FA nf fc] 55 :: [])) (by omega) hq HLL.out.te HLL.out.d HRS.out hll (.inl rfl)).mono ?_; rintro e w3 ⟨rfl, F2, k2, hS1⟩; clear hS; have hS := hS1; clear hS1) | (refine oL ?_; (first | refine sL1 hS rfl rfl rfl ?_ | refine sL2 hS rfl rfl rfl ?_ | refine sL5 hS rfl rfl ?_)) | (refine oS ?_; (((refine sS4 hS rfl rfl rfl ?_)); clear hS; intro w hS)))
        go_wp2_with (fail)
        (try simp only [List.set_cons_zero, List.set_cons_succ] at hS)
        refine st_retCT hS rfl rfl rfl rfl rfl ?_
        rw [HR.out, ← HST.out, HV.out]
        exact fin_rt g3 A1 c1 A2 c2 A3 c3 p root n gu ku gp kp gt kt ga ka gr kr gc kc gd kd unw ((⟨root, unw, par, tent, aw, ref, ch, dec, fl2⟩ : TS).dcd q 1) rs F2 (mf + (chR ch q).length) k2 hS (HF.out) (rfl) (rfl) (fun k hk _ => ⟨hk, rfl⟩) HT.out.pat
      | false =>
        have HV := Lib.hid (HV0.out.trans (if_neg (by decide)))
        go_wp2_with (first | (refine oL ?_; (first | refine sL1 hS rfl rfl rfl ?_ | refine sL2 hS rfl rfl rfl ?_ | refine sL5 hS rfl rfl ?_)) | (refine oS ?_; (((refine sS4 hS rfl rfl rfl ?_)); clear hS; intro w hS)))
        (try simp only [List.set_cons_zero, List.set_cons_succ] at hS)
        refine st_retCT hS rfl rfl rfl rfl rfl ?_
        rw [HR.out, ← HST.out, HV.out]
        have hS2 : St w0 (fun k => S k ∧ k < w0.heap.size) (froz (fun k => S k ∧ k < w0.heap.size) w0 :: blk g3 [.slice A1 p.len.length c1, .slice A2 p.ck.length c2, .slice A3 p.arcs.length c3, .int .i64 (root : Int), .slice (some ⟨gu, 0, none⟩) n ku, .slice (some ⟨gp, 0, none⟩) n kp, .slice (some ⟨gt, 0, none⟩) n kt, .slice (some ⟨ga, 0, none⟩) n ka, .slice (some ⟨gr, 0, none⟩) n kr, .slice (some ⟨gc, 0, none⟩) n kc, .slice (some ⟨gd, 0, none⟩) n kd, .slice F3 mf f3c] 55 :: row (.slice (some ⟨gp, 0, none⟩) n kp) 3 1 n (ints par) :: row (.slice (some ⟨gt, 0, none⟩) n kt) 4 1 n (bools tent) :: row (.slice (some ⟨ga, 0, none⟩) n ka) 3 1 n (ints aw) :: row (.slice (some ⟨gr, 0, none⟩) n kr) 4 1 n (bools ref) :: row (.slice (some ⟨gc, 0, none⟩) n kc) 25 1 n (rs.map (·.1)) :: row (.slice (some ⟨gd, 0, none⟩) n kd) 3 1 n (ints dec) :: row (.slice F3 mf f3c) 97 3 mf (ntc fl2) :: row (.slice (some ⟨gu, 0, none⟩) n ku) 4 1 n (bools unw) :: fam2 3 1 rs :: []) _ := hS.re
        exact fin_rt g3 A1 c1 A2 c2 A3 c3 p root n gu ku gp kp gt kt ga ka gr kr gc kc gd kd unw ((⟨root, unw, par, tent, aw, ref, ch, dec, fl2⟩ : TS)) rs F3 mf f3c hS2 (HF.out) (rfl) (rfl) (fun k hk _ => ⟨hk, rfl⟩) HT.out.pat
    · have HV0 := Lib.hid (show (⟨root, unw, par, tent, aw, ref, ch, dec, fl2⟩ : TS).dlv (srcL p) (⟨5, fr, q⟩ : Nt) = if opOf tent q = true then (if nth aw q = 0 then (⟨root, unw, par, tent, aw, ref, ch, dec, fl2⟩ : TS).dcd q 2 else { (⟨root, unw, par, tent, aw, ref, ch, dec, fl2⟩ : TS) with ref := ref.set q true }) else (⟨root, unw, par, tent, aw, ref, ch, dec, fl2⟩ : TS) from by unfold TS.dlv; rw [if_neg (show ¬ (5 : Int) = 1 by decide), if_neg (show ¬ ((5 : Int) = 2 ∨ (5 : Int) = 3) by decide), if_neg (show ¬ (5 : Int) = 4 by decide)])
      obtain ⟨B, cB, hrs, hcv⟩ := HF.out.at_ (k := q) (by rw [HLL.out.c]; exact hq)
      have HRS := Lib.hid hrs
      clear hrs hcv
      clear hkz hpk haw haq2 h1
      generalize opOf tent q = b at *
      generalize nth aw q = z at *
      cases b with
      | true =>
        by_cases hz : z = 0
        · have e1 : (z == 0) = true := by simp [hz]
          have HV := Lib.hid ((HV0.out.trans (if_pos rfl)).trans (if_pos hz))
          clear hz
          go_upto_region 26 with (((refine oL ?_; ((refine sL1 hS rfl rfl rfl ?_)))))
          refine lR ?_
          refine lP rfl ?_
          (try simp only [Act.put, nA, nB, nC])
          (refine ⟨?_⟩; (((refine sL1 hS rfl rfl rfl ?_))); refine WL.h ?_)
          (try simp only [Act.put, nA, nB, nC])
          refine lM rfl rfl ?_
          (try simp only [Act.put, nA, nB, nC])
          refine lP rfl ?_
          (try simp only [Act.put, nA, nB, nC])
          (refine ⟨?_⟩; (((refine sL5 hS rfl rfl ?_))); refine WL.h ?_)
          (try simp only [Act.put, nA, nB, nC])
          refine lM rfl rfl ?_
          (try simp only [Act.put, nA, nB, nC])
          first | refine lQ rfl ?_ | refine lP rfl ?_ | fail
          (try simp only [Act.put, nA, nB, nC])
          ((refine ⟨?_⟩; (((refine sL1 hS rfl rfl rfl ?_))); refine WL.h ?_))
          (try simp only [Act.put, nA, nB, nC])
          first | refine lQ rfl ?_ | refine lM rfl rfl ?_ | fail
          (try simp only [Act.put, nA, nB, nC])
          first | refine lQ rfl ?_ | refine lP rfl ?_ | fail
          (try simp only [Act.put, nA, nB, nC])
          ((refine ⟨?_⟩; (((refine sL5 hS rfl rfl ?_))); refine WL.h ?_))
          (try simp only [Act.put, nA, nB, nC])
          first | refine lQ rfl ?_ | refine lP rfl ?_ | fail
          (try simp only [Act.put, nA, nB, nC])
          refine lP rfl ?_
          (try simp only [Act.put, nA, nB, nC])
          refine lZ ?_
          go_wp2_with (first | (go_at_call 72; refine (rdecide_st g3 A1 c1 A2 c2 A3 c3 p root n gu ku gp kp gt kt ga ka gr kr gc kc gd kd par aw dec unw tent ref rs fl2 F3 mf f3c q 2 (chR ch q) B cB (hS.re (ds := froz (fun k => S k ∧ k < w0.heap.size) w0 :: blk g3 [.slice A1 p.len.length c1, .slice A2 p.ck.length c2, .slice A3 p.arcs.length c3, .int .i64 (root : Int), .slice (some ⟨gu, 0, none⟩) n ku, .slice (some ⟨gp, 0, none⟩) n kp, .slice (some ⟨gt, 0, none⟩) n kt, .slice (some ⟨ga, 0, none⟩) n ka, .slice (some ⟨gr, 0, none⟩) n kr, .slice (some ⟨gc, 0, none⟩) n kc, .slice (some ⟨gd, 0, none⟩) n kd, .slice F3 mf f3c] 55 :: row (.slice (some ⟨gp, 0, none⟩) n kp) 3 1 n (ints par) :: row (.slice (some ⟨gt, 0, none⟩) n kt) 4 1 n (bools tent) :: row (.slice (some ⟨ga, 0, none⟩) n ka) 3 1 n (ints aw) :: row (.slice (some ⟨gr, 0, none⟩) n kr) 4 1 n (bools ref) :: row (.slice (some ⟨gc, 0, none⟩) n kc) 25 1 n (rs.map (·.1)) :: row (.slice (some ⟨gd, 0, none⟩) n kd) 3 1 n (ints dec) :: row (.slice F3 mf f3c) 97 3 mf (ntc fl2) :: row (.slice (some ⟨gu, 0, none⟩) n ku) 4 1 n (bools unw) :: fam2 3 1 rs :: blk g4 [.int .i64 5, .int .i64 (fr : Int), .int .i64 (q : Int)] 97 :: blk g2 tp0 55 :: blk g1 [.slice A1 p.len.length c1, .slice A2 p.ck.length c2, .slice A3 p.arcs.length c3, .int .i64 (root : Int), .slice UA n uc, .slice PA n pc, .slice EA n ec, .slice WA n wc, .slice RA0 n rc, .slice CA n cc, .slice DA n dc, .slice FA nf fc] 55 :: [])) (by omega) hq HLL.out.te HLL.out.d HRS.out hll (.inr rfl)).mono ?_; rintro e w3 ⟨rfl, F2, k2, hS1⟩; clear hS; have hS := hS1; clear hS1) | (refine oL ?_; ((refine sL2 hS rfl rfl rfl ?_))) | (refine oS ?_; (((refine sS4 hS rfl rfl rfl ?_)); clear hS; intro w hS)))
          go_wp2_with (fail)
          (try simp only [List.set_cons_zero, List.set_cons_succ] at hS)
          refine st_retCT hS rfl rfl rfl rfl rfl ?_
          rw [HR.out, ← HST.out, HV.out]
          exact fin_rt g3 A1 c1 A2 c2 A3 c3 p root n gu ku gp kp gt kt ga ka gr kr gc kc gd kd unw ((⟨root, unw, par, tent, aw, ref, ch, dec, fl2⟩ : TS).dcd q 2) rs F2 (mf + (chR ch q).length) k2 hS (HF.out) (rfl) (rfl) (fun k hk _ => ⟨hk, rfl⟩) HT.out.pat
        · have e1 : (z == 0) = false := by simp [hz]
          have HV := Lib.hid ((HV0.out.trans (if_pos rfl)).trans (if_neg hz))
          clear hz
          go_upto_region 26 with (((refine oL ?_; ((refine sL1 hS rfl rfl rfl ?_)))))
          refine lR ?_
          refine lP rfl ?_
          (try simp only [Act.put, nA, nB, nC])
          (refine ⟨?_⟩; (((refine sL1 hS rfl rfl rfl ?_))); refine WL.h ?_)
          (try simp only [Act.put, nA, nB, nC])
          refine lM rfl rfl ?_
          (try simp only [Act.put, nA, nB, nC])
          refine lP rfl ?_
          (try simp only [Act.put, nA, nB, nC])
          (refine ⟨?_⟩; (((refine sL5 hS rfl rfl ?_))); refine WL.h ?_)
          (try simp only [Act.put, nA, nB, nC])
          refine lM rfl rfl ?_
          (try simp only [Act.put, nA, nB, nC])
          first | refine lQ rfl ?_ | refine lP rfl ?_ | fail
          (try simp only [Act.put, nA, nB, nC])
          ((refine ⟨?_⟩; (((refine sL1 hS rfl rfl rfl ?_))); refine WL.h ?_))
          (try simp only [Act.put, nA, nB, nC])
          first | refine lQ rfl ?_ | refine lM rfl rfl ?_ | fail
          (try simp only [Act.put, nA, nB, nC])
          first | refine lQ rfl ?_ | refine lP rfl ?_ | fail
          (try simp only [Act.put, nA, nB, nC])
          ((refine ⟨?_⟩; (((refine sL5 hS rfl rfl ?_))); refine WL.h ?_))
          (try simp only [Act.put, nA, nB, nC])
          first | refine lQ rfl ?_ | refine lP rfl ?_ | fail
          (try simp only [Act.put, nA, nB, nC])
          refine lP rfl ?_
          (try simp only [Act.put, nA, nB, nC])
          refine lZ ?_
          go_wp2_with (first | (refine oS ?_; refine sS6 hS rfl rfl rfl hqr ?_; clear hS; intro w hS) | (refine oL ?_; (first | refine sL1 hS rfl rfl rfl ?_ | refine sL2 hS rfl rfl rfl ?_ | refine sL5 hS rfl rfl ?_)) | (refine oS ?_; (((refine sS4 hS rfl rfl rfl ?_)); clear hS; intro w hS)))
          go_wp2_with (fail)
          (try simp only [List.set_cons_zero, List.set_cons_succ] at hS)
          refine st_retCT hS rfl rfl rfl rfl rfl ?_
          rw [HR.out, ← HST.out, HV.out]
          have hS2 : St w0 (fun k => S k ∧ k < w0.heap.size) (froz (fun k => S k ∧ k < w0.heap.size) w0 :: blk g3 [.slice A1 p.len.length c1, .slice A2 p.ck.length c2, .slice A3 p.arcs.length c3, .int .i64 (root : Int), .slice (some ⟨gu, 0, none⟩) n ku, .slice (some ⟨gp, 0, none⟩) n kp, .slice (some ⟨gt, 0, none⟩) n kt, .slice (some ⟨ga, 0, none⟩) n ka, .slice (some ⟨gr, 0, none⟩) n kr, .slice (some ⟨gc, 0, none⟩) n kc, .slice (some ⟨gd, 0, none⟩) n kd, .slice F3 mf f3c] 55 :: row (.slice (some ⟨gp, 0, none⟩) n kp) 3 1 n (ints par) :: row (.slice (some ⟨gt, 0, none⟩) n kt) 4 1 n (bools tent) :: row (.slice (some ⟨ga, 0, none⟩) n ka) 3 1 n (ints aw) :: row (.slice (some ⟨gr, 0, none⟩) n kr) 4 1 n (bools (ref.set q true)) :: row (.slice (some ⟨gc, 0, none⟩) n kc) 25 1 n (rs.map (·.1)) :: row (.slice (some ⟨gd, 0, none⟩) n kd) 3 1 n (ints dec) :: row (.slice F3 mf f3c) 97 3 mf (ntc fl2) :: row (.slice (some ⟨gu, 0, none⟩) n ku) 4 1 n (bools unw) :: fam2 3 1 rs :: []) _ := hS.re
          exact fin_rt g3 A1 c1 A2 c2 A3 c3 p root n gu ku gp kp gt kt ga ka gr kr gc kc gd kd unw ({ (⟨root, unw, par, tent, aw, ref, ch, dec, fl2⟩ : TS) with ref := ref.set q true }) rs F3 mf f3c hS2 (HF.out) (rfl) (rfl) (fun k hk _ => ⟨hk, rfl⟩) HT.out.pat
      | false =>
        have HV := Lib.hid (HV0.out.trans (if_neg (by decide)))
        go_upto_region 26 with (((refine oL ?_; ((refine sL1 hS rfl rfl rfl ?_)))))
        refine lR ?_
        refine lP rfl ?_
        (try simp only [Act.put, nA, nB, nC])
        (refine ⟨?_⟩; (((refine sL1 hS rfl rfl rfl ?_))); refine WL.h ?_)
        (try simp only [Act.put, nA, nB, nC])
        refine lM rfl rfl ?_
        (try simp only [Act.put, nA, nB, nC])
        refine lP rfl ?_
        (try simp only [Act.put, nA, nB, nC])
        (refine ⟨?_⟩; (((refine sL5 hS rfl rfl ?_))); refine WL.h ?_)
        (try simp only [Act.put, nA, nB, nC])
        refine lM rfl rfl ?_
        (try simp only [Act.put, nA, nB, nC])
        first | refine lQ rfl ?_ | refine lP rfl ?_ | fail
        (try simp only [Act.put, nA, nB, nC])
        (refine lQ rfl ?_)
        (try simp only [Act.put, nA, nB, nC])
        first | refine lQ rfl ?_ | refine lM rfl rfl ?_ | fail
        (try simp only [Act.put, nA, nB, nC])
        first | refine lQ rfl ?_ | refine lP rfl ?_ | fail
        (try simp only [Act.put, nA, nB, nC])
        (refine lQ rfl ?_)
        (try simp only [Act.put, nA, nB, nC])
        first | refine lQ rfl ?_ | refine lP rfl ?_ | fail
        (try simp only [Act.put, nA, nB, nC])
        refine lP rfl ?_
        (try simp only [Act.put, nA, nB, nC])
        refine lZ ?_
        go_wp2_with (first | (refine oL ?_; (first | refine sL1 hS rfl rfl rfl ?_ | refine sL2 hS rfl rfl rfl ?_ | refine sL5 hS rfl rfl ?_)) | (refine oS ?_; (((refine sS4 hS rfl rfl rfl ?_)); clear hS; intro w hS)))
        (try simp only [List.set_cons_zero, List.set_cons_succ] at hS)
        refine st_retCT hS rfl rfl rfl rfl rfl ?_
        rw [HR.out, ← HST.out, HV.out]
        have hS2 : St w0 (fun k => S k ∧ k < w0.heap.size) (froz (fun k => S k ∧ k < w0.heap.size) w0 :: blk g3 [.slice A1 p.len.length c1, .slice A2 p.ck.length c2, .slice A3 p.arcs.length c3, .int .i64 (root : Int), .slice (some ⟨gu, 0, none⟩) n ku, .slice (some ⟨gp, 0, none⟩) n kp, .slice (some ⟨gt, 0, none⟩) n kt, .slice (some ⟨ga, 0, none⟩) n ka, .slice (some ⟨gr, 0, none⟩) n kr, .slice (some ⟨gc, 0, none⟩) n kc, .slice (some ⟨gd, 0, none⟩) n kd, .slice F3 mf f3c] 55 :: row (.slice (some ⟨gp, 0, none⟩) n kp) 3 1 n (ints par) :: row (.slice (some ⟨gt, 0, none⟩) n kt) 4 1 n (bools tent) :: row (.slice (some ⟨ga, 0, none⟩) n ka) 3 1 n (ints aw) :: row (.slice (some ⟨gr, 0, none⟩) n kr) 4 1 n (bools ref) :: row (.slice (some ⟨gc, 0, none⟩) n kc) 25 1 n (rs.map (·.1)) :: row (.slice (some ⟨gd, 0, none⟩) n kd) 3 1 n (ints dec) :: row (.slice F3 mf f3c) 97 3 mf (ntc fl2) :: row (.slice (some ⟨gu, 0, none⟩) n ku) 4 1 n (bools unw) :: fam2 3 1 rs :: []) _ := hS.re
        exact fin_rt g3 A1 c1 A2 c2 A3 c3 p root n gu ku gp kp gt kt ga ka gr kr gc kc gd kd unw ((⟨root, unw, par, tent, aw, ref, ch, dec, fl2⟩ : TS)) rs F3 mf f3c hS2 (HF.out) (rfl) (rfl) (fun k hk _ => ⟨hk, rfl⟩) HT.out.pat
    · obtain ⟨pk, hpk⟩ := hpk (by decide)
      have HPK := Lib.hid hpk
      have HG2 := Lib.hid (show (⟨root, unw, par, tent, aw, ref, ch, dec, fl2⟩ : TS).dlv (srcL p) (⟨2, fr, q⟩ : Nt) = if nth (aw.set q (nth aw q - 1)) q = 0 then ({ (⟨root, unw, par, tent, aw, ref, ch, dec, fl2⟩ : TS) with aw := (aw.set q (nth aw q - 1)) } : TS).ans q else { (⟨root, unw, par, tent, aw, ref, ch, dec, fl2⟩ : TS) with aw := (aw.set q (nth aw q - 1)) } from by unfold TS.dlv; rw [if_neg (show ¬ (2 : Int) = 1 by decide), if_pos (show ((2 : Int) = 2 ∨ (2 : Int) = 3) by decide)]; unfold TS.got; rw [if_neg (show ¬ (2 : Int) = 3 by decide)])
      rw [nth_set_same hqa] at HG2
      clear hkz hpk h1
      obtain ⟨haw0, haw1⟩ := haw
      generalize nth aw q = z at *
      by_cases hz : z - 1 = 0
      · have e1 : ((z - 1) == 0) = true := by simp [hz]
        have HV := Lib.hid (HG2.out.trans (if_pos hz))
        clear hz
        go_wp2_with (first | (go_at_call 71; refine (ranswer_st g3 A1 c1 A2 c2 A3 c3 p root n gu ku gp kp gt kt ga ka gr kr gc kc gd kd par (aw.set q (z - 1)) dec unw tent ref ch rs fl2 F3 mf f3c q pk (hS.re (ds := froz (fun k => S k ∧ k < w0.heap.size) w0 :: blk g3 [.slice A1 p.len.length c1, .slice A2 p.ck.length c2, .slice A3 p.arcs.length c3, .int .i64 (root : Int), .slice (some ⟨gu, 0, none⟩) n ku, .slice (some ⟨gp, 0, none⟩) n kp, .slice (some ⟨gt, 0, none⟩) n kt, .slice (some ⟨ga, 0, none⟩) n ka, .slice (some ⟨gr, 0, none⟩) n kr, .slice (some ⟨gc, 0, none⟩) n kc, .slice (some ⟨gd, 0, none⟩) n kd, .slice F3 mf f3c] 55 :: row (.slice (some ⟨gp, 0, none⟩) n kp) 3 1 n (ints par) :: row (.slice (some ⟨gt, 0, none⟩) n kt) 4 1 n (bools tent) :: row (.slice (some ⟨ga, 0, none⟩) n ka) 3 1 n (ints (aw.set q (z - 1))) :: row (.slice (some ⟨gr, 0, none⟩) n kr) 4 1 n (bools ref) :: row (.slice (some ⟨gc, 0, none⟩) n kc) 25 1 n (rs.map (·.1)) :: row (.slice (some ⟨gd, 0, none⟩) n kd) 3 1 n (ints dec) :: row (.slice F3 mf f3c) 97 3 mf (ntc fl2) :: row (.slice (some ⟨gu, 0, none⟩) n ku) 4 1 n (bools unw) :: fam2 3 1 rs :: blk g4 [.int .i64 2, .int .i64 (fr : Int), .int .i64 (q : Int)] 97 :: blk g2 tp0 55 :: blk g1 [.slice A1 p.len.length c1, .slice A2 p.ck.length c2, .slice A3 p.arcs.length c3, .int .i64 (root : Int), .slice UA n uc, .slice PA n pc, .slice EA n ec, .slice WA n wc, .slice RA0 n rc, .slice CA n cc, .slice DA n dc, .slice FA nf fc] 55 :: [])) (by omega) hq HLL.out.p HLL.out.te (by (exact HLL.out.r)) HLL.out.d (by (exact HLL.out.c)) HF.out hll (fun _ => HPK.out)).mono ?_; rintro e w3 ⟨rfl, F2, nf2, k2, hS1⟩; clear hS; have hS := hS1; clear hS1) | (refine oL ?_; (first | refine sL1 hS rfl rfl rfl ?_ | refine sL2 hS rfl rfl rfl ?_ | refine sL5 hS rfl rfl ?_)) | (refine oS ?_; ((first | refine sS2 hS rfl rfl rfl ?_ | refine sS4 hS rfl rfl rfl ?_); clear hS; intro w hS)))
        go_wp2_with (fail)
        (try simp only [List.set_cons_zero, List.set_cons_succ] at hS)
        refine st_retCT hS rfl rfl rfl rfl rfl ?_
        rw [HR.out, ← HST.out, HV.out]
        have hF4 : FamN rs (((⟨root, unw, par, tent, (aw.set q (z - 1)), ref, ch, dec, fl2⟩ : TS)).ans q).ch := by rw [(ans_par _ _).2.2.2]; exact HF.out
        have hS2 : St w0 (fun k => S k ∧ k < w0.heap.size) (froz (fun k => S k ∧ k < w0.heap.size) w0 :: blk g3 [.slice A1 p.len.length c1, .slice A2 p.ck.length c2, .slice A3 p.arcs.length c3, .int .i64 (root : Int), .slice (some ⟨gu, 0, none⟩) n ku, .slice (some ⟨gp, 0, none⟩) n kp, .slice (some ⟨gt, 0, none⟩) n kt, .slice (some ⟨ga, 0, none⟩) n ka, .slice (some ⟨gr, 0, none⟩) n kr, .slice (some ⟨gc, 0, none⟩) n kc, .slice (some ⟨gd, 0, none⟩) n kd, .slice F2 nf2 k2] 55 :: row (.slice (some ⟨gp, 0, none⟩) n kp) 3 1 n (ints (((⟨root, unw, par, tent, (aw.set q (z - 1)), ref, ch, dec, fl2⟩ : TS)).ans q).par) :: row (.slice (some ⟨gt, 0, none⟩) n kt) 4 1 n (bools (((⟨root, unw, par, tent, (aw.set q (z - 1)), ref, ch, dec, fl2⟩ : TS)).ans q).tent) :: row (.slice (some ⟨ga, 0, none⟩) n ka) 3 1 n (ints (((⟨root, unw, par, tent, (aw.set q (z - 1)), ref, ch, dec, fl2⟩ : TS)).ans q).aw) :: row (.slice (some ⟨gr, 0, none⟩) n kr) 4 1 n (bools (((⟨root, unw, par, tent, (aw.set q (z - 1)), ref, ch, dec, fl2⟩ : TS)).ans q).ref) :: row (.slice (some ⟨gc, 0, none⟩) n kc) 25 1 n (rs.map (·.1)) :: row (.slice (some ⟨gd, 0, none⟩) n kd) 3 1 n (ints (((⟨root, unw, par, tent, (aw.set q (z - 1)), ref, ch, dec, fl2⟩ : TS)).ans q).dec) :: row (.slice F2 nf2 k2) 97 3 nf2 (ntc (((⟨root, unw, par, tent, (aw.set q (z - 1)), ref, ch, dec, fl2⟩ : TS)).ans q).fl) :: row (.slice (some ⟨gu, 0, none⟩) n ku) 4 1 n (bools unw) :: fam2 3 1 rs :: []) w := by rw [(ans_par _ _).1, (ans_par _ _).2.1, (ans_par _ _).2.2.1]; exact hS.re
        exact fin_rt g3 A1 c1 A2 c2 A3 c3 p root n gu ku gp kp gt kt ga ka gr kr gc kc gd kd unw (((⟨root, unw, par, tent, (aw.set q (z - 1)), ref, ch, dec, fl2⟩ : TS)).ans q) rs F2 nf2 k2 hS2 hF4 (ans_root.1) (ans_root.2) (fun k hk _ => ⟨hk, rfl⟩) HT.out.pat
      · have e1 : ((z - 1) == 0) = false := by simp [hz]
        have HV := Lib.hid (HG2.out.trans (if_neg hz))
        clear hz
        go_wp2_with (first | (refine oL ?_; (first | refine sL1 hS rfl rfl rfl ?_ | refine sL2 hS rfl rfl rfl ?_ | refine sL5 hS rfl rfl ?_)) | (refine oS ?_; ((first | refine sS2 hS rfl rfl rfl ?_ | refine sS4 hS rfl rfl rfl ?_); clear hS; intro w hS)))
        (try simp only [List.set_cons_zero, List.set_cons_succ] at hS)
        refine st_retCT hS rfl rfl rfl rfl rfl ?_
        rw [HR.out, ← HST.out, HV.out]
        have hS2 : St w0 (fun k => S k ∧ k < w0.heap.size) (froz (fun k => S k ∧ k < w0.heap.size) w0 :: blk g3 [.slice A1 p.len.length c1, .slice A2 p.ck.length c2, .slice A3 p.arcs.length c3, .int .i64 (root : Int), .slice (some ⟨gu, 0, none⟩) n ku, .slice (some ⟨gp, 0, none⟩) n kp, .slice (some ⟨gt, 0, none⟩) n kt, .slice (some ⟨ga, 0, none⟩) n ka, .slice (some ⟨gr, 0, none⟩) n kr, .slice (some ⟨gc, 0, none⟩) n kc, .slice (some ⟨gd, 0, none⟩) n kd, .slice F3 mf f3c] 55 :: row (.slice (some ⟨gp, 0, none⟩) n kp) 3 1 n (ints par) :: row (.slice (some ⟨gt, 0, none⟩) n kt) 4 1 n (bools tent) :: row (.slice (some ⟨ga, 0, none⟩) n ka) 3 1 n (ints (aw.set q (z - 1))) :: row (.slice (some ⟨gr, 0, none⟩) n kr) 4 1 n (bools ref) :: row (.slice (some ⟨gc, 0, none⟩) n kc) 25 1 n (rs.map (·.1)) :: row (.slice (some ⟨gd, 0, none⟩) n kd) 3 1 n (ints dec) :: row (.slice F3 mf f3c) 97 3 mf (ntc fl2) :: row (.slice (some ⟨gu, 0, none⟩) n ku) 4 1 n (bools unw) :: fam2 3 1 rs :: []) _ := hS.re
        exact fin_rt g3 A1 c1 A2 c2 A3 c3 p root n gu ku gp kp gt kt ga ka gr kr gc kc gd kd unw ((⟨root, unw, par, tent, (aw.set q (z - 1)), ref, ch, dec, fl2⟩ : TS)) rs F3 mf f3c hS2 (HF.out) (rfl) (rfl) (fun k hk _ => ⟨hk, rfl⟩) HT.out.pat
    · obtain ⟨pk, hpk⟩ := hpk (by decide)
      have HPK := Lib.hid hpk
      have HG2 := Lib.hid (show (⟨root, unw, par, tent, aw, ref, ch, dec, fl2⟩ : TS).dlv (srcL p) (⟨3, fr, q⟩ : Nt) = if nth (aw.set q (nth aw q - 1)) q = 0 then (⟨root, unw, par, tent, (aw.set q (nth aw q - 1)), ref.set q true, ch.set q ((chR ch q).filter (fun y => y != fr)), dec, fl2⟩ : TS).ans q else (⟨root, unw, par, tent, (aw.set q (nth aw q - 1)), ref.set q true, ch.set q ((chR ch q).filter (fun y => y != fr)), dec, fl2⟩ : TS) from by unfold TS.dlv; rw [if_neg (show ¬ (3 : Int) = 1 by decide), if_pos (show ((3 : Int) = 2 ∨ (3 : Int) = 3) by decide)]; unfold TS.got; rw [if_pos rfl])
      rw [nth_set_same hqa] at HG2
      obtain ⟨B, cB, hrs, hcv⟩ := HF.out.at_ (k := q) (by rw [HLL.out.c]; exact hq)
      have HRS := Lib.hid hrs
      clear hkz hpk h1 hrs
      obtain ⟨haw0, haw1⟩ := haw
      generalize nth aw q = z at *
      have hfl := List.length_filter_le (fun y => y != fr) (chR ch q)
      have hvl : q < (rs.map (·.1)).length := by rw [HF.out.hv, HLL.out.c]; exact hq
      go_upto_region 18 with (first | (refine oL ?_; (first | refine sL1 hS rfl rfl rfl ?_ | refine sL5 hS rfl rfl ?_)) | (refine oS ?_; (((refine sS2 hS rfl rfl rfl ?_)); clear hS; intro w hS)))
      (try simp only [List.set_cons_zero, List.set_cons_succ] at hS)
      have hS2 := (St.re (ds := fam2 3 1 rs :: froz (fun k => S k ∧ k < w0.heap.size) w0 :: blk g3 [.slice A1 p.len.length c1, .slice A2 p.ck.length c2, .slice A3 p.arcs.length c3, .int .i64 (root : Int), .slice (some ⟨gu, 0, none⟩) n ku, .slice (some ⟨gp, 0, none⟩) n kp, .slice (some ⟨gt, 0, none⟩) n kt, .slice (some ⟨ga, 0, none⟩) n ka, .slice (some ⟨gr, 0, none⟩) n kr, .slice (some ⟨gc, 0, none⟩) n kc, .slice (some ⟨gd, 0, none⟩) n kd, .slice F3 mf f3c] 55 :: row (.slice (some ⟨gp, 0, none⟩) n kp) 3 1 n (ints par) :: row (.slice (some ⟨gt, 0, none⟩) n kt) 4 1 n (bools tent) :: row (.slice (some ⟨ga, 0, none⟩) n ka) 3 1 n (ints (aw.set q (z - 1))) :: row (.slice (some ⟨gr, 0, none⟩) n kr) 4 1 n (bools ref) :: row (.slice (some ⟨gc, 0, none⟩) n kc) 25 1 n (rs.map (·.1)) :: row (.slice (some ⟨gd, 0, none⟩) n kd) 3 1 n (ints dec) :: row (.slice F3 mf f3c) 97 3 mf (ntc fl2) :: row (.slice (some ⟨gu, 0, none⟩) n ku) 4 1 n (bools unw) :: blk g4 [.int .i64 3, .int .i64 (fr : Int), .int .i64 (q : Int)] 97 :: blk g2 tp0 55 :: blk g1 [.slice A1 p.len.length c1, .slice A2 p.ck.length c2, .slice A3 p.arcs.length c3, .int .i64 (root : Int), .slice UA n uc, .slice PA n pc, .slice EA n ec, .slice WA n wc, .slice RA0 n rc, .slice CA n cc, .slice DA n dc, .slice FA nf fc] 55 :: []) hS).fam2Take HRS.out
      clear hS
      have hS := hS2
      clear hS2
      refine dr_start0 [12]  hS (by kernel_rfl) rfl ?_; clear hS; intro w hS
      refine dP hS 0 rfl rfl ?_
      (try simp only [Act.put, nA, nB, nC])
      (refine dL1 hS 1 rfl rfl rfl rfl ?_)
      (try simp only [Act.put, nA, nB, nC])
      refine dM hS 2 rfl rfl rfl ?_
      (try simp only [Act.put, nA, nB, nC])
      refine dP hS 3 rfl rfl ?_
      (try simp only [Act.put, nA, nB, nC])
      (refine dL1 hS 4 rfl rfl rfl rfl ?_)
      (try simp only [Act.put, nA, nB, nC])
      refine dM hS 5 rfl rfl rfl ?_
      (try simp only [Act.put, nA, nB, nC])
      refine dP hS 6 rfl rfl ?_
      (try simp only [Act.put, nA, nB, nC])
      (refine dL5 hS 7 rfl rfl rfl ?_)
      (try simp only [Act.put, nA, nB, nC])
      refine dP hS 8 rfl rfl ?_
      (try simp only [Act.put, nA, nB, nC])
      (refine dL1 hS 9 rfl rfl rfl rfl ?_)
      (try simp only [Act.put, nA, nB, nC])
      refine dr_one 10 (by kernel_rfl) rfl ?_
      (refine st_call rfl (by kernel_rfl) rfl ?_; go_at_call 70; refine (rwithout_any (S := All) B cB (chR ch q).length (chR ch q) fr _ hS.ri rfl (by omega)).mono ?_; rintro e w ⟨L5, c5, rfl, ho, hx⟩; replace hS := hS.addRow ho hx; clear ho hx)
      (try simp only [Act.put, nA, nB, nC])
      refine dr_end hS ?_
      refine dP hS 11 rfl rfl ?_
      (try simp only [Act.put, nA, nB, nC])
      refine dr_one 12 (by kernel_rfl) rfl ?_
      first | (refine st_str hS rfl rfl rfl rfl hvl ?_; clear hS; intro w hS) | ((first | refine sS1 hS rfl rfl rfl ?_ | refine sS2 hS rfl rfl rfl ?_ | refine sS3 hS rfl rfl rfl ?_ | refine sS4 hS rfl rfl rfl ?_ | refine sS5 hS rfl rfl rfl ?_); clear hS; intro w hS) | fail
      (try simp only [Act.put, nA, nB, nC])
      refine dr_late (by kernel_rfl) ?_
      refine dr_done (by kernel_rfl) ?_
      have HFI := Lib.hid (show (chR ch q).filter (fun y => y != fr) = (chR ch q).filter (fun y => y != fr) from rfl)
      generalize (chR ch q).filter (fun y => y != fr) = fi at *
      generalize hm5 : fi.length = m5 at *
      have HM5 := Lib.hid hm5
      clear hm5
      have hS2 := (St.re (ds := row (.slice L5 m5 c5) 3 1 m5 (ints (nats fi)) :: fam2 3 1 (rs.set q nilR2) :: froz (fun k => S k ∧ k < w0.heap.size) w0 :: blk g3 [.slice A1 p.len.length c1, .slice A2 p.ck.length c2, .slice A3 p.arcs.length c3, .int .i64 (root : Int), .slice (some ⟨gu, 0, none⟩) n ku, .slice (some ⟨gp, 0, none⟩) n kp, .slice (some ⟨gt, 0, none⟩) n kt, .slice (some ⟨ga, 0, none⟩) n ka, .slice (some ⟨gr, 0, none⟩) n kr, .slice (some ⟨gc, 0, none⟩) n kc, .slice (some ⟨gd, 0, none⟩) n kd, .slice F3 mf f3c] 55 :: row (.slice (some ⟨gp, 0, none⟩) n kp) 3 1 n (ints par) :: row (.slice (some ⟨gt, 0, none⟩) n kt) 4 1 n (bools tent) :: row (.slice (some ⟨ga, 0, none⟩) n ka) 3 1 n (ints (aw.set q (z - 1))) :: row (.slice (some ⟨gr, 0, none⟩) n kr) 4 1 n (bools ref) :: row (.slice (some ⟨gc, 0, none⟩) n kc) 25 1 n ((rs.map (·.1)).set q (.slice L5 m5 c5)) :: row (.slice (some ⟨gd, 0, none⟩) n kd) 3 1 n (ints dec) :: row (.slice F3 mf f3c) 97 3 mf (ntc fl2) :: row (.slice (some ⟨gu, 0, none⟩) n ku) 4 1 n (bools unw) :: blk g4 [.int .i64 3, .int .i64 (fr : Int), .int .i64 (q : Int)] 97 :: blk g2 tp0 55 :: blk g1 [.slice A1 p.len.length c1, .slice A2 p.ck.length c2, .slice A3 p.arcs.length c3, .int .i64 (root : Int), .slice UA n uc, .slice PA n pc, .slice EA n ec, .slice WA n wc, .slice RA0 n rc, .slice CA n cc, .slice DA n dc, .slice FA nf fc] 55 :: []) hS).fam2Put (j := q)
      clear hS
      rw [List.set_set] at hS2
      have HF3 := Lib.hid (show FamN (rs.set q (.slice L5 m5 c5, m5, ints (nats fi))) (ch.set q fi) from by have h := HF.out.set q L5 c5 fi; rw [HM5.out] at h; exact h)
      have hS3 : St w0 (fun k => S k ∧ k < w0.heap.size) (froz (fun k => S k ∧ k < w0.heap.size) w0 :: blk g3 [.slice A1 p.len.length c1, .slice A2 p.ck.length c2, .slice A3 p.arcs.length c3, .int .i64 (root : Int), .slice (some ⟨gu, 0, none⟩) n ku, .slice (some ⟨gp, 0, none⟩) n kp, .slice (some ⟨gt, 0, none⟩) n kt, .slice (some ⟨ga, 0, none⟩) n ka, .slice (some ⟨gr, 0, none⟩) n kr, .slice (some ⟨gc, 0, none⟩) n kc, .slice (some ⟨gd, 0, none⟩) n kd, .slice F3 mf f3c] 55 :: row (.slice (some ⟨gp, 0, none⟩) n kp) 3 1 n (ints par) :: row (.slice (some ⟨gt, 0, none⟩) n kt) 4 1 n (bools tent) :: row (.slice (some ⟨ga, 0, none⟩) n ka) 3 1 n (ints (aw.set q (z - 1))) :: row (.slice (some ⟨gr, 0, none⟩) n kr) 4 1 n (bools ref) :: row (.slice (some ⟨gc, 0, none⟩) n kc) 25 1 n ((rs.set q (.slice L5 m5 c5, m5, ints (nats fi))).map (·.1)) :: row (.slice (some ⟨gd, 0, none⟩) n kd) 3 1 n (ints dec) :: row (.slice F3 mf f3c) 97 3 mf (ntc fl2) :: row (.slice (some ⟨gu, 0, none⟩) n ku) 4 1 n (bools unw) :: fam2 3 1 (rs.set q (.slice L5 m5 c5, m5, ints (nats fi))) :: blk g4 [.int .i64 3, .int .i64 (fr : Int), .int .i64 (q : Int)] 97 :: blk g2 tp0 55 :: blk g1 [.slice A1 p.len.length c1, .slice A2 p.ck.length c2, .slice A3 p.arcs.length c3, .int .i64 (root : Int), .slice UA n uc, .slice PA n pc, .slice EA n ec, .slice WA n wc, .slice RA0 n rc, .slice CA n cc, .slice DA n dc, .slice FA nf fc] 55 :: []) w := by rw [fst_setN]; exact hS2.re
      clear hS2
      have hS := hS3
      clear hS3
      generalize rs.set q (.slice L5 m5 c5, m5, ints (nats fi)) = rs3 at *
      have hl5 : (chR (ch.set q fi) q).length ≤ 5 := by rw [chR_set_same (by rw [HLL.out.c]; exact hq), HM5.out]; omega
      by_cases hz : z - 1 = 0
      · have e1 : ((z - 1) == 0) = true := by simp [hz]
        have HV := Lib.hid (HG2.out.trans (if_pos hz))
        clear hz
        go_wp2_with (first | (refine oS ?_; refine sS6 hS rfl rfl rfl hqr ?_; clear hS; intro w hS) | (go_at_call 71; refine (ranswer_st g3 A1 c1 A2 c2 A3 c3 p root n gu ku gp kp gt kt ga ka gr kr gc kc gd kd par (aw.set q (z - 1)) dec unw tent (ref.set q true) (ch.set q fi) rs3 fl2 F3 mf f3c q pk (hS.re (ds := froz (fun k => S k ∧ k < w0.heap.size) w0 :: blk g3 [.slice A1 p.len.length c1, .slice A2 p.ck.length c2, .slice A3 p.arcs.length c3, .int .i64 (root : Int), .slice (some ⟨gu, 0, none⟩) n ku, .slice (some ⟨gp, 0, none⟩) n kp, .slice (some ⟨gt, 0, none⟩) n kt, .slice (some ⟨ga, 0, none⟩) n ka, .slice (some ⟨gr, 0, none⟩) n kr, .slice (some ⟨gc, 0, none⟩) n kc, .slice (some ⟨gd, 0, none⟩) n kd, .slice F3 mf f3c] 55 :: row (.slice (some ⟨gp, 0, none⟩) n kp) 3 1 n (ints par) :: row (.slice (some ⟨gt, 0, none⟩) n kt) 4 1 n (bools tent) :: row (.slice (some ⟨ga, 0, none⟩) n ka) 3 1 n (ints (aw.set q (z - 1))) :: row (.slice (some ⟨gr, 0, none⟩) n kr) 4 1 n (bools (ref.set q true)) :: row (.slice (some ⟨gc, 0, none⟩) n kc) 25 1 n (rs3.map (·.1)) :: row (.slice (some ⟨gd, 0, none⟩) n kd) 3 1 n (ints dec) :: row (.slice F3 mf f3c) 97 3 mf (ntc fl2) :: row (.slice (some ⟨gu, 0, none⟩) n ku) 4 1 n (bools unw) :: fam2 3 1 rs3 :: blk g4 [.int .i64 3, .int .i64 (fr : Int), .int .i64 (q : Int)] 97 :: blk g2 tp0 55 :: blk g1 [.slice A1 p.len.length c1, .slice A2 p.ck.length c2, .slice A3 p.arcs.length c3, .int .i64 (root : Int), .slice UA n uc, .slice PA n pc, .slice EA n ec, .slice WA n wc, .slice RA0 n rc, .slice CA n cc, .slice DA n dc, .slice FA nf fc] 55 :: [])) (by omega) hq HLL.out.p HLL.out.te (by ((rw [List.length_set]; exact HLL.out.r))) HLL.out.d (by ((rw [List.length_set]; exact HLL.out.c))) HF3.out hl5 (fun _ => HPK.out)).mono ?_; rintro e w3 ⟨rfl, F2, nf2, k2, hS1⟩; clear hS; have hS := hS1; clear hS1) | (refine oL ?_; (first | refine sL1 hS rfl rfl rfl ?_ | refine sL2 hS rfl rfl rfl ?_ | refine sL5 hS rfl rfl ?_)) | (refine oS ?_; (((refine sS4 hS rfl rfl rfl ?_)); clear hS; intro w hS)))
        go_wp2_with (fail)
        (try simp only [List.set_cons_zero, List.set_cons_succ] at hS)
        refine st_retCT hS rfl rfl rfl rfl rfl ?_
        rw [HR.out, ← HST.out, HV.out]
        have hF4 : FamN rs3 (((⟨root, unw, par, tent, (aw.set q (z - 1)), ref.set q true, (ch.set q fi), dec, fl2⟩ : TS)).ans q).ch := by rw [(ans_par _ _).2.2.2]; exact HF3.out
        have hS2 : St w0 (fun k => S k ∧ k < w0.heap.size) (froz (fun k => S k ∧ k < w0.heap.size) w0 :: blk g3 [.slice A1 p.len.length c1, .slice A2 p.ck.length c2, .slice A3 p.arcs.length c3, .int .i64 (root : Int), .slice (some ⟨gu, 0, none⟩) n ku, .slice (some ⟨gp, 0, none⟩) n kp, .slice (some ⟨gt, 0, none⟩) n kt, .slice (some ⟨ga, 0, none⟩) n ka, .slice (some ⟨gr, 0, none⟩) n kr, .slice (some ⟨gc, 0, none⟩) n kc, .slice (some ⟨gd, 0, none⟩) n kd, .slice F2 nf2 k2] 55 :: row (.slice (some ⟨gp, 0, none⟩) n kp) 3 1 n (ints (((⟨root, unw, par, tent, (aw.set q (z - 1)), ref.set q true, (ch.set q fi), dec, fl2⟩ : TS)).ans q).par) :: row (.slice (some ⟨gt, 0, none⟩) n kt) 4 1 n (bools (((⟨root, unw, par, tent, (aw.set q (z - 1)), ref.set q true, (ch.set q fi), dec, fl2⟩ : TS)).ans q).tent) :: row (.slice (some ⟨ga, 0, none⟩) n ka) 3 1 n (ints (((⟨root, unw, par, tent, (aw.set q (z - 1)), ref.set q true, (ch.set q fi), dec, fl2⟩ : TS)).ans q).aw) :: row (.slice (some ⟨gr, 0, none⟩) n kr) 4 1 n (bools (((⟨root, unw, par, tent, (aw.set q (z - 1)), ref.set q true, (ch.set q fi), dec, fl2⟩ : TS)).ans q).ref) :: row (.slice (some ⟨gc, 0, none⟩) n kc) 25 1 n (rs3.map (·.1)) :: row (.slice (some ⟨gd, 0, none⟩) n kd) 3 1 n (ints (((⟨root, unw, par, tent, (aw.set q (z - 1)), ref.set q true, (ch.set q fi), dec, fl2⟩ : TS)).ans q).dec) :: row (.slice F2 nf2 k2) 97 3 nf2 (ntc (((⟨root, unw, par, tent, (aw.set q (z - 1)), ref.set q true, (ch.set q fi), dec, fl2⟩ : TS)).ans q).fl) :: row (.slice (some ⟨gu, 0, none⟩) n ku) 4 1 n (bools unw) :: fam2 3 1 rs3 :: []) w := by rw [(ans_par _ _).1, (ans_par _ _).2.1, (ans_par _ _).2.2.1]; exact hS.re
        exact fin_rt g3 A1 c1 A2 c2 A3 c3 p root n gu ku gp kp gt kt ga ka gr kr gc kc gd kd unw (((⟨root, unw, par, tent, (aw.set q (z - 1)), ref.set q true, (ch.set q fi), dec, fl2⟩ : TS)).ans q) rs3 F2 nf2 k2 hS2 hF4 (ans_root.1) (ans_root.2) (fun k hk _ => ⟨hk, rfl⟩) HT.out.pat
      · have e1 : ((z - 1) == 0) = false := by simp [hz]
        have HV := Lib.hid (HG2.out.trans (if_neg hz))
        clear hz
        go_wp2_with (first | (refine oS ?_; refine sS6 hS rfl rfl rfl hqr ?_; clear hS; intro w hS) | (refine oL ?_; (first | refine sL1 hS rfl rfl rfl ?_ | refine sL2 hS rfl rfl rfl ?_ | refine sL5 hS rfl rfl ?_)) | (refine oS ?_; (((refine sS4 hS rfl rfl rfl ?_)); clear hS; intro w hS)))
        go_wp2_with (fail)
        (try simp only [List.set_cons_zero, List.set_cons_succ] at hS)
        refine st_retCT hS rfl rfl rfl rfl rfl ?_
        rw [HR.out, ← HST.out, HV.out]
        have hS2 : St w0 (fun k => S k ∧ k < w0.heap.size) (froz (fun k => S k ∧ k < w0.heap.size) w0 :: blk g3 [.slice A1 p.len.length c1, .slice A2 p.ck.length c2, .slice A3 p.arcs.length c3, .int .i64 (root : Int), .slice (some ⟨gu, 0, none⟩) n ku, .slice (some ⟨gp, 0, none⟩) n kp, .slice (some ⟨gt, 0, none⟩) n kt, .slice (some ⟨ga, 0, none⟩) n ka, .slice (some ⟨gr, 0, none⟩) n kr, .slice (some ⟨gc, 0, none⟩) n kc, .slice (some ⟨gd, 0, none⟩) n kd, .slice F3 mf f3c] 55 :: row (.slice (some ⟨gp, 0, none⟩) n kp) 3 1 n (ints par) :: row (.slice (some ⟨gt, 0, none⟩) n kt) 4 1 n (bools tent) :: row (.slice (some ⟨ga, 0, none⟩) n ka) 3 1 n (ints (aw.set q (z - 1))) :: row (.slice (some ⟨gr, 0, none⟩) n kr) 4 1 n (bools (ref.set q true)) :: row (.slice (some ⟨gc, 0, none⟩) n kc) 25 1 n (rs3.map (·.1)) :: row (.slice (some ⟨gd, 0, none⟩) n kd) 3 1 n (ints dec) :: row (.slice F3 mf f3c) 97 3 mf (ntc fl2) :: row (.slice (some ⟨gu, 0, none⟩) n ku) 4 1 n (bools unw) :: fam2 3 1 rs3 :: []) _ := hS.re
        exact fin_rt g3 A1 c1 A2 c2 A3 c3 p root n gu ku gp kp gt kt ga ka gr kr gc kc gd kd unw ((⟨root, unw, par, tent, (aw.set q (z - 1)), ref.set q true, (ch.set q fi), dec, fl2⟩ : TS)) rs3 F3 mf f3c hS2 (HF3.out) (rfl) (rfl) (fun k hk _ => ⟨hk, rfl⟩) HT.out.pat
end Go.Proofs.Ytmjmdncdmmcmaaa
