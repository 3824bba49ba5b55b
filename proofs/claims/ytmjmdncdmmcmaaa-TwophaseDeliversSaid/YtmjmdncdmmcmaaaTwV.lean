/- twophase.Deliver of a note in flight. Conditions: the machine lies in memory, the note fits it. -/
import Derived.Test.YtmjmdncdmmcmaaaTwU
import Derived.Test.YtmjmdncdmmcmaaaClones
import Derived.Defers
import Derived.Recover
import Derived.Deep.DeepCutAuto
namespace Go.Proofs.Ytmjmdncdmmcmaaa
open Go.RowKit Tph
set_option linter.unusedVariables false
set_option linter.unusedSimpArgs false
set_option linter.unusedSectionVars false

/-- the deferred function of Deliver finds nothing to recover -/
theorem catch_idle (p p' : Addr) (w : World) :
    CallsD Try.prog 65 #[.pointer (some p), .pointer (some p')] .returning w fun e u' w' => e = .returned (.tuple #[]) ∧ u' = .returning ∧ w' = w := by
  refine callsD_of_wpS Try.func65 rfl fun c₀ cs hu => ?_
  apply wpS_seq
  apply wpS_region
  simp [wpOpsS, go_sem, recoverD, hu, Try.ntmps65, Exit.thenS]
  refine wpS_cond (t := false) (by simp [Act.eval, Array.replicate]) ?_
  simp only [Bool.false_eq_true, if_false]
  refine wpS_of_wp (wp_skip ?_)
  cases c₀
  simp_all [bodyPostS, results, Try.results65]
theorem results_put {fn : Func} {tmps : Array Value} {d s s2 : Tmp} {ty ty2 : TypeId} {v : Value} (hres : fn.results = #[.cell s ty, .cell s2 ty2]) (hd : (s != d && s2 != d) = true) : results fn (tmps.setIfInBounds d v) = results fn tmps := by
  rw [Bool.and_eq_true, bne_iff_ne, bne_iff_ne] at hd
  have h2 : ∀ t : Tmp, t ≠ d → (tmps.setIfInBounds d v).getD t undef = tmps.getD t undef := fun t ht => by
    simp only [Array.getD_eq_getD_getElem?]
    rw [Array.getElem?_setIfInBounds_ne (Ne.symm ht)]
  unfold results
  rw [hres]
  simp only [Array.mapM_eq_mapM_toList, List.mapM_cons, List.mapM_nil, h2 s hd.1, h2 s2 hd.2]
theorem leaves_congr {P : Program} {fn : Func} {t1 t2 : Array Value} {R : Ending → World → Prop} (h : results fn t1 = results fn t2) : ∀ (ds : List Deferred) (u : FrameMode) (w : World), Leaves P fn t1 R ds u w → Leaves P fn t2 R ds u w
  | [], .returning, w, hl => by obtain ⟨v, h1, h2⟩ := hl; exact ⟨v, by rw [← h]; exact h1, h2⟩
  | [], .panicking chain, w, hl => hl
  | [], .run, w, hl => hl
  | d :: ds, u, w, hl => by
    obtain ⟨hu, fv, cap, f, args, ht, hi, hc⟩ := hl
    refine ⟨hu, fv, cap, f, args, ht, hi, hc.mono ?_⟩
    intro e u' w' he
    cases e with
    | returned v => exact leaves_congr h ds _ _ he
    | panicked chain => exact leaves_congr h ds _ _ he
    | outgrown => exact he
theorem leaves_put {P : Program} {fn : Func} {R : Ending → World → Prop} {chain : List PanicEntry} {a : Act} {d s s2 : Tmp} {ty ty2 : TypeId} {v : Value} {w : World} (hres : fn.results = #[.cell s ty, .cell s2 ty2]) (hd : (s != d && s2 != d) = true) (h : bodyPostD P fn R (.panic chain) (a.put (some d) v) w) : bodyPostD P fn R (.panic chain) a w :=
  leaves_congr (P := P) (results_put (v := v) hres hd) _ _ _ h
/-- two results that lie in blocks -/
theorem st_res2 {P : Program} {w w0 : World} {M : Nat → Prop} {cs : List (Chunk w0 M)} {f f2 : Chunk w0 M → List (Chunk w0 M)} {fn : Func} {tmps : Array Value} {s s2 : Tmp} {ty ty2 t t2 : TypeId} {n g g2 : Nat} {vs : List Value} {v2 : Value} (hS : St w0 M cs w) (hres : fn.results = #[.cell s ty, .cell s2 ty2]) (hp : tmps.toList[s]? = some (.pointer (some ⟨g, 0, none⟩))) (hp2 : tmps.toList[s2]? = some (.pointer (some ⟨g2, 0, none⟩))) [hb : PickB g cs vs t f] [hT : TyN P ty n] (hl : vs.length = n) [hb2 : PickB g2 cs [v2] t2 f2] [hT2 : Ty1 P ty2] :
    (results fn tmps).run P w = .ok (.tuple #[.agg vs.toArray, v2]) w := by
  have h1 := run_loadN (P := P) (w := w) (b := g) (o := 0) hT hl (fun i u hu => by rw [Nat.zero_add]; exact cell_of_heap ((hb.eq ▸ hS : St w0 M (f (blk g vs t)) w).at_ hb.gap : w.heap[g]? = _) (by simpa using hu))
  have h2 := run_load1 (P := P) (w := w) (b := g2) (o := 0) hT2 (cell_of_heap ((hb2.eq ▸ hS : St w0 M (f2 (blk g2 [v2] t2)) w).at_ hb2.gap : w.heap[g2]? = _) rfl)
  simp only [Instr.loadAt, Instr.sureAddr, Sem.run_bind, Sem.run_pure, Result.andThen_ok] at h1 h2
  have hg : (tmps[s]?).getD undef = .pointer (some ⟨g, 0, none⟩) := by rw [← Array.getElem?_toList, hp]; rfl
  have hg2 : (tmps[s2]?).getD undef = .pointer (some ⟨g2, 0, none⟩) := by rw [← Array.getElem?_toList, hp2]; rfl
  simp [results, hres, hg, hg2, h1, h2, asAddr]
theorem dTo {P : Program} {ops : Array Oper} {Q : Exit → Act → World → Prop} {a : Act} {w w0 : World} {M : Nat → Prop} {cs fx : List (Chunk w0 M)} {md : Region.Mode} {fuel : Nat} {listed : Array Bool} {late : List Nat} {d : Option Tmp} {tt t e : TypeId} {pos : String} {af : Array Edge} {gd : Option (Nat × Bool)} {x y : Operand} {A : Option Addr} {k n c sz : Nat} (hu : P.underlying t = some (.slice e)) (hs : (P.info? e).map (·.size) = some sz) (hA : A = none → n = 0 ∧ c = 0) (hB : ∀ a, A = some a → a.spot = none) (hk : k ≤ n) (hc : n ≤ c) (hS : St w0 M cs w) (i : Nat) [hsb : SubC fx cs]
    (hi : ops[i]? = some ⟨d, .slice t x none (some y) none, tt, pos, af, gd⟩) (hw : Region.wanted ⟨d, .slice t x none (some y) none, tt, pos, af, gd⟩ (yielded ops a.tmps) = true) (hx' : oval a x = some (.slice A n c)) (hy' : oval a y = some (.int .i64 (k : Int)))
    (h : wpAnyL P md ops Q (SF w0 M fx) late fuel (listed.setIfInBounds i true) (a.put d (.slice A k c)) w) (hno : Region.noSelect ops = true := by kernel_rfl) (hf : (Region.free md ops listed i && lateOk md ops late i) = true := by kernel_rfl) (hr : (Region.ready md ops listed).contains i = true := by kernel_rfl) (hQ : ∀ c a v w, Q (.panic c) (a.put d v) w → Q (.panic c) a w := by exact fun _ _ _ _ h => h) : wpAnyL P md ops Q (SF w0 M fx) late (fuel + 1) listed a w :=
  dr_pure hS i hi hno hf hr hQ hw (fun w => by simp only [execOp, oval_eval hx', oval_eval hy', Option.map_none, Option.map_some, Sem.run_bind, run_to hu hs hA hB hk hc, Result.andThen_ok, Sem.run_pure]) h
theorem nt_fcs {T : Nat → Prop} {u : World} {A : Option Addr} {l : List Nt} (h : RV T u A (ntc l)) {i : Nat} (hi : i < l.length) : ∃ b o, A = some ⟨b, o, none⟩ ∧ FCs T u b (o + i * 3) [.int .i64 (l.getD i ⟨0, 0, 0⟩).kd, .int .i64 ((l.getD i ⟨0, 0, 0⟩).fr : Int), .int .i64 ((l.getD i ⟨0, 0, 0⟩).to : Int)] := by
  have hl : l.getD i ⟨0, 0, 0⟩ = l[i] := by simp [hi]
  rw [hl]
  have hat := fun j v hv => flat_at (f := ntCells) (sz := 3) (fun _ => rfl) hi j v hv
  obtain ⟨b, o, rfl, ht, hc⟩ := h (i * 3 + 0) _ (hat 0 _ rfl)
  refine ⟨b, o, rfl, ht, fun j v hv => ?_⟩
  obtain ⟨b', o', e, _, hc'⟩ := h (i * 3 + j) v (hat j v hv)
  injection e with e
  injection e with e1 e2
  subst e1 e2
  rw [Nat.add_assoc]
  exact hc'
/-- what a note must be for Deliver to take it -/
structure DlvOk (n : Nat) (t : TS) (k : Nat) : Prop where
  kz : (t.fl.getD k ⟨0, 0, 0⟩).kd = 1 ∨ (t.fl.getD k ⟨0, 0, 0⟩).kd = 2 ∨ (t.fl.getD k ⟨0, 0, 0⟩).kd = 3 ∨ (t.fl.getD k ⟨0, 0, 0⟩).kd = 4 ∨ (t.fl.getD k ⟨0, 0, 0⟩).kd = 5
  fr : (t.fl.getD k ⟨0, 0, 0⟩).fr < n
  tt : (t.fl.getD k ⟨0, 0, 0⟩).to < n
  pk : (t.fl.getD k ⟨0, 0, 0⟩).kd ≠ 1 → ∃ pk : Nat, nth t.par (t.fl.getD k ⟨0, 0, 0⟩).to = (pk : Int)
  aw : 0 ≤ nth t.aw (t.fl.getD k ⟨0, 0, 0⟩).to ∧ nth t.aw (t.fl.getD k ⟨0, 0, 0⟩).to ≤ 1000
  sm : ∀ l ∈ t.ch, l.length ≤ 5
  fl : t.fl.length ≤ 1800
theorem oneCell_bls (l : List Bool) : ∀ u ∈ bools l, u.oneCell' = true := fun u hu => by simp only [bools, List.mem_map] at hu; obtain ⟨x, _, rfl⟩ := hu; rfl
theorem oneCell_ntc (l : List Nt) : ∀ u ∈ ntc l, u.oneCell' = true := fun u hu => by
  simp only [ntc, List.mem_flatMap] at hu
  obtain ⟨x, _, hx⟩ := hu
  simp only [ntCells, List.mem_cons, List.not_mem_nil, or_false] at hx
  rcases hx with rfl | rfl | rfl <;> rfl
theorem ntc_app (l m : List Nt) : ntc (l ++ m) = ntc l ++ ntc m := by simp [ntc]
theorem ntc_drop (l : List Nt) (k : Nat) : (ntc l).drop (k * 3) = ntc (l.drop k) := by
  induction k generalizing l with
  | zero => simp
  | succ k ih =>
    cases l with
    | nil => simp [ntc]
    | cons x l =>
      have h1 : ntc (x :: l) = ntCells x ++ ntc l := rfl
      rw [h1, Nat.succ_mul, Nat.add_comm, ← List.drop_drop, List.drop_left' (show (ntCells x).length = 3 from rfl), ih, List.drop_succ_cons]
theorem St.allF {w0 w u : World} {M T : Nat → Prop} {cs : List (Chunk w0 M)} {f : Chunk w0 M → List (Chunk w0 M)} (h : St w0 M cs w) [hp : PickF cs T u f] : Into T All u w := fun k hk hl => ⟨trivial, (h.frozInto k hk hl).2⟩
theorem RV.takeN {T : Nat → Prop} {u : World} {A : Option Addr} {l : List Nt} (h : RV T u A (ntc l)) (k : Nat) : RV T u A (ntc (l.take k)) := by
  intro j v hv
  refine h j v ?_
  have h1 : ntc l = ntc (l.take k) ++ ntc (l.drop k) := by rw [← ntc_app, List.take_append_drop]
  rw [h1, List.getElem?_append_left (List.getElem?_eq_some_iff.1 hv).1]
  exact hv
set_option maxRecDepth 100000 in
set_option maxHeartbeats 6400000 in
theorem deliver_any {S : Nat → Prop} (x : TX) (p : Pat) (t : TS) (n k : Nat) (w0 : World) (h : TpAt S w0 x p t) (hl : TsL n t) (hg : Good p) (hn : p.len.length = n) (hk : k < t.fl.length) (hok : DlvOk n t k) :
    Calls Try.prog 34 #[x.val p t.root n t.fl.length, .int .i64 (k : Int)] w0 (RetT S w0 p n (t.step (srcL p) k)) := by
  have hS := St.startF w0 S
  have hmf : ∀ (fn : Fn) (first cap : Array Value) (w : World), (Instr.makeFunc fn first cap).run Try.prog w = .ok (.func fn first cap) w := fun _ _ _ _ => rfl
  obtain ⟨A1, c1, A2, c2, A3, c3, UA, uc, PA, pc, EA, ec, WA, wc, RA0, rc, CA, cc, DA, dc, FA, fc⟩ := x
  obtain ⟨root, unw, par, tent, aw, ref, ch, dec, fl⟩ := t
  have HT := Lib.hid h.here
  obtain ⟨kz5, hfr, hto, hpk, haw, hsm, hfl⟩ := hok
  simp only at kz5 hfr hto hpk haw hsm hfl hk
  obtain ⟨cvs, hcv, hrc⟩ := HT.out.ch
  obtain ⟨f1, f2, f3, f4⟩ := HT.out.fx
  obtain ⟨bf, of, hFA, hfcs⟩ := nt_fcs HT.out.fl hk
  simp only at hcv hrc f1 f2 f3 f4 hFA
  subst hFA
  have hn5 := hg.n5
  rw [hn] at hn5
  have HRC := Lib.hid hrc
  have HLL := Lib.hid hl
  have HCV := Lib.hid (And.intro hcv (And.intro (show cvs.length = n by rw [hrc.n, List.length_map]; exact hl.c) (hrc.ones (fun _ _ => ReV.one))))
  have HLn := Lib.hid (show (ints par).length = n ∧ (bools tent).length = n ∧ (ints aw).length = n ∧ (bools ref).length = n ∧ (ints dec).length = n from ⟨by rw [ints, List.length_map]; exact hl.p, by rw [bools_len]; exact hl.te, by rw [ints, List.length_map]; exact hl.a, by rw [bools_len]; exact hl.r, by rw [ints, List.length_map]; exact hl.d⟩)
  have HG := Lib.hid (And.intro hg hn)
  have HST := Lib.hid (show (⟨root, unw, par, tent, aw, ref, ch, dec, fl.take k ++ fl.drop (k + 1)⟩ : TS).dlv (srcL p) (fl.getD k ⟨0, 0, 0⟩) = (⟨root, unw, par, tent, aw, ref, ch, dec, fl⟩ : TS).step (srcL p) k from rfl)
  have HFL := Lib.hid (show (ntc fl).length = fl.length * 3 from ntc_len fl)
  simp only [TX.val, TX.cells] at *
  generalize (fl.getD k ⟨0, 0, 0⟩) = y at *
  obtain ⟨kz, fr, q⟩ := y
  have HK := Lib.hid (And.intro kz5 (And.intro hfr (And.intro hto (And.intro hpk (And.intro haw hsm)))))
  have hn0 : 0 < n := Nat.lt_of_le_of_lt (Nat.zero_le _) hto
  clear h hcv hrc hl hg hn kz5 hfr hto hpk haw hsm
  generalize hnf : fl.length = nf at *
  have HNF := Lib.hid hnf
  clear hnf
  have HA := Lib.hid f1
  have HB := Lib.hid f2
  have hk' : (k : Int) < (nf : Int) := by omega
  have d0 : decide ((k : Int) < 0) = false := decide_eq_false (by omega)
  have d1 : decide ((nf : Int) ≤ (k : Int)) = false := decide_eq_false (by omega)
  have d1n : decide (nf ≤ k) = false := decide_eq_false (by omega)
  clear f1 f2
  obtain ⟨RR, hRR⟩ : ∃ RR : Ending → World → Prop, RR = RetT S w0 p n ((⟨root, unw, par, tent, aw, ref, ch, dec, fl⟩ : TS).step (srcL p) k) := ⟨_, rfl⟩
  rw [← hRR]
  have HR := Lib.hid hRR
  clear hRR
  go_enter_defers Try.func34, Try.ntmps34
  go_wp2_with (first | (refine oL ?_; (first | refine sL1 hS rfl rfl rfl ?_ | refine sL6 hS rfl rfl ?_)) | (refine oS ?_; (((refine sS4 hS rfl rfl rfl ?_)); clear hS; intro w hS)) | ((first | (refine oB ?_; (refine sB1 hS rfl rfl ?_)) | refine sN1 hS rfl ?_); clear hS; first | ((fail_if_success guard_hyp g1); intro g1 w hS) | ((fail_if_success guard_hyp g2); intro g2 w hS) | ((fail_if_success guard_hyp g3); intro g3 w hS) | ((fail_if_success guard_hyp g4); intro g4 w hS)))
  refine (cloneVI_any PA pc n (ints par) _ (HT.out.par.into hS.frozInto) HLn.out.1 (oneCell_ints _) (by omega)).mono ?_
  rintro e w ⟨Lp, kp, rfl, ho, hx1⟩
  replace hS := hS.addRow ho hx1
  clear ho hx1
  go_wp2_with (first | (refine oL ?_; ((refine sL1 hS rfl rfl rfl ?_))) | (refine oS ?_; (((refine sS1 hS rfl rfl rfl ?_)); clear hS; intro w hS)))
  refine (cloneVB_any EA ec n (bools tent) _ (HT.out.tent.into hS.frozInto) HLn.out.2.1 (oneCell_bls _) (by omega)).mono ?_
  rintro e w ⟨Lt, kt, rfl, ho, hx1⟩
  replace hS := hS.addRow ho hx1
  clear ho hx1
  go_wp2_with (first | (refine oL ?_; ((refine sL1 hS rfl rfl rfl ?_))) | (refine oS ?_; (((refine sS1 hS rfl rfl rfl ?_)); clear hS; intro w hS)))
  refine (cloneVI_any WA wc n (ints aw) _ (HT.out.aw.into hS.frozInto) HLn.out.2.2.1 (oneCell_ints _) (by omega)).mono ?_
  rintro e w ⟨La, ka, rfl, ho, hx1⟩
  replace hS := hS.addRow ho hx1
  clear ho hx1
  go_wp2_with (first | (refine oL ?_; ((refine sL1 hS rfl rfl rfl ?_))) | (refine oS ?_; (((refine sS1 hS rfl rfl rfl ?_)); clear hS; intro w hS)))
  refine (cloneVB_any RA0 rc n (bools ref) _ (HT.out.ref.into hS.frozInto) HLn.out.2.2.2.1 (oneCell_bls _) (by omega)).mono ?_
  rintro e w ⟨Lr, kr, rfl, ho, hx1⟩
  replace hS := hS.addRow ho hx1
  clear ho hx1
  go_wp2_with (first | (refine oL ?_; ((refine sL1 hS rfl rfl rfl ?_))) | (refine oS ?_; (((refine sS1 hS rfl rfl rfl ?_)); clear hS; intro w hS)))
  refine (cloneVR_any CA cc n cvs _ (HCV.out.1.into hS.frozInto) HCV.out.2.1 HCV.out.2.2 (by omega)).mono ?_
  rintro e w ⟨Lc, kc, rfl, ho, hx1⟩
  replace hS := hS.addRow ho hx1
  clear ho hx1
  go_wp2_with (first | (refine oL ?_; ((refine sL1 hS rfl rfl rfl ?_))) | (refine oS ?_; (((refine sS1 hS rfl rfl rfl ?_)); clear hS; intro w hS)))
  refine (cloneVI_any DA dc n (ints dec) _ (HT.out.dec.into hS.frozInto) HLn.out.2.2.2.2 (oneCell_ints _) (by omega)).mono ?_
  rintro e w ⟨Ld, kd, rfl, ho, hx1⟩
  replace hS := hS.addRow ho hx1
  clear ho hx1
  go_wp2_with (((refine oS ?_; (((refine sS1 hS rfl rfl rfl ?_)); clear hS; intro w hS))))
  obtain ⟨gp, rfl⟩ := hS.rowSome Lp hn0
  obtain ⟨gt, rfl⟩ := hS.rowSome Lt hn0
  obtain ⟨ga, rfl⟩ := hS.rowSome La hn0
  obtain ⟨gr, rfl⟩ := hS.rowSome Lr hn0
  obtain ⟨gc, rfl⟩ := hS.rowSome Lc hn0
  obtain ⟨gd, rfl⟩ := hS.rowSome Ld hn0
  simp only [List.set_cons_zero, List.set_cons_succ] at hS
  replace hS : St w0 (fun k => S k ∧ k < w0.heap.size) (blk g1 [.slice A1 p.len.length c1, .slice A2 p.ck.length c2, .slice A3 p.arcs.length c3, .int .i64 (root : Int), .slice UA n uc, .slice (some ⟨gp, 0, none⟩) n kp, .slice (some ⟨gt, 0, none⟩) n kt, .slice (some ⟨ga, 0, none⟩) n ka, .slice (some ⟨gr, 0, none⟩) n kr, .slice (some ⟨gc, 0, none⟩) n kc, .slice (some ⟨gd, 0, none⟩) n kd, .slice (some ⟨bf, of, none⟩) nf fc] 55 :: froz (fun k => S k ∧ k < w0.heap.size) w0 :: row (.slice (some ⟨gp, 0, none⟩) n kp) 3 1 n (ints par) :: row (.slice (some ⟨gt, 0, none⟩) n kt) 4 1 n (bools tent) :: row (.slice (some ⟨ga, 0, none⟩) n ka) 3 1 n (ints aw) :: row (.slice (some ⟨gr, 0, none⟩) n kr) 4 1 n (bools ref) :: row (.slice (some ⟨gc, 0, none⟩) n kc) 25 1 n cvs :: row (.slice (some ⟨gd, 0, none⟩) n kd) 3 1 n (ints dec) :: blk g4 [.int .i64 kz, .int .i64 (fr : Int), .int .i64 (q : Int)] 97 :: blk g3 [.int .i64 0] 36 :: blk g2 tp0 55 :: []) w := hS.re
  have hk1 : k + 1 ≤ nf := by omega
  obtain ⟨FA2, hFA2⟩ : ∃ FA2, FA2 = fromA (some ⟨bf, of, none⟩) (k + 1) fc 3 := ⟨_, rfl⟩
  have HFA := Lib.hid hFA2
  have HRV := Lib.hid (show RV (fun k => S k ∧ k < w0.heap.size) w0 FA2 (ntc (fl.drop (k + 1))) from by rw [← ntc_drop, hFA2]; exact RV.fromA HT.out.fl HFL.out f3 (k + 1))
  have HTL := Lib.hid (show (ntc (fl.take k)).length = k * 3 ∧ (ntc (fl.drop (k + 1))).length = (nf - (k + 1)) * 3 from ⟨by rw [ntc_len, List.length_take, HNF.out]; congr 1; omega, by rw [ntc_len, List.length_drop, HNF.out]⟩)
  clear hFA2
  refine dr_start0 [12]  hS (by kernel_rfl) rfl ?_; clear hS; intro w hS
  refine dP hS 0 rfl rfl ?_ (hQ := fun _ _ _ _ h => leaves_put rfl rfl h)
  (try simp only [Act.put, nA, nB, nC])
  (refine dL1 hS 1 rfl rfl rfl rfl ?_ (hQ := fun _ _ _ _ h => leaves_put rfl rfl h))
  (try simp only [Act.put, nA, nB, nC])
  refine dM hS 2 rfl rfl rfl ?_ (hQ := fun _ _ _ _ h => leaves_put rfl rfl h)
  (try simp only [Act.put, nA, nB, nC])
  (refine dTo (sz := 3) Try.underlying53 (by kernel_rfl) HA.out HB.out (by omega) f3 hS 3 rfl rfl rfl rfl ?_ (hQ := fun _ _ _ _ h => leaves_put rfl rfl h))
  (try simp only [Act.put, nA, nB, nC])
  refine dP hS 4 rfl rfl ?_ (hQ := fun _ _ _ _ h => leaves_put rfl rfl h)
  (try simp only [Act.put, nA, nB, nC])
  (refine dL1 hS 5 rfl rfl rfl rfl ?_ (hQ := fun _ _ _ _ h => leaves_put rfl rfl h))
  (try simp only [Act.put, nA, nB, nC])
  refine dM hS 6 rfl rfl rfl ?_ (hQ := fun _ _ _ _ h => leaves_put rfl rfl h)
  (try simp only [Act.put, nA, nB, nC])
  refine dP hS 7 rfl rfl ?_ (hQ := fun _ _ _ _ h => leaves_put rfl rfl h)
  (try simp only [Act.put, nA, nB, nC])
  (refine dFrom (sz := 3) HFA.out Try.underlying53 (by kernel_rfl) HA.out HB.out hk1 f3 hS 8 rfl rfl rfl rfl ?_ (hQ := fun _ _ _ _ h => leaves_put rfl rfl h))
  (try simp only [Act.put, nA, nB, nC])
  refine dr_one 9 (by kernel_rfl) rfl ?_
  (((refine sC3 hS rfl rfl rfl ?_)); clear hS; (((fail_if_success guard_hyp g5); intro g5 w hS)))
  (try simp only [Act.put, nA, nB, nC])
  refine dr_end hS ?_
  refine dr_one 10 (by kernel_rfl) rfl ?_
  (refine st_call rfl (by kernel_rfl) rfl ?_; go_at_call 68; have hX := hS.blkRw (g := g5) (n := 2) (sz := 1) (by rfl) (by omega); refine (concat_any (S := All) (some ⟨g5, 0, none⟩) 2 (some ⟨bf, of, none⟩) FA2 k fc (nf - (k + 1)) (fc - (k + 1)) (ntc (fl.take k)) (ntc (fl.drop (k + 1))) _ hX.rv ((HT.out.fl.takeN k).into hS.allF) (HRV.out.into hS.allF) HTL.out.1 HTL.out.2 (oneCell_ntc _) (oneCell_ntc _) (by omega)).mono ?_; rintro e w ⟨L2, cl2, rfl, ho, hx1⟩; replace hS := hS.addRow ho hx1; clear ho hx1 hX)
  (try simp only [Act.put, nA, nB, nC])
  refine dr_end hS ?_
  refine dP hS 11 rfl rfl ?_ (hQ := fun _ _ _ _ h => leaves_put rfl rfl h)
  (try simp only [Act.put, nA, nB, nC])
  refine dr_one 12 (by kernel_rfl) rfl ?_
  (((refine sS1 hS rfl rfl rfl ?_)); clear hS; intro w hS)
  (try simp only [Act.put, nA, nB, nC])
  refine dr_late (by kernel_rfl) ?_
  refine dr_done (by kernel_rfl) ?_
  rw [← ntc_app] at hS
  generalize hmf2 : k + (nf - (k + 1)) = mf at *
  have hmf3 : mf ≤ 1800 := by omega
  clear hmf2
  go_wp2_with (first | (refine oL ?_; ((refine sL2 hS rfl rfl rfl ?_))) | ((((refine oB ?_; (refine sB1 hS rfl rfl ?_)))); clear hS; (((fail_if_success guard_hyp g6); intro g6 w hS))))
  replace hS : St w0 (fun k => S k ∧ k < w0.heap.size) (froz (fun k => S k ∧ k < w0.heap.size) w0 :: blk g6 [.slice A1 p.len.length c1, .slice A2 p.ck.length c2, .slice A3 p.arcs.length c3, .int .i64 (root : Int), .slice UA n uc, .slice (some ⟨gp, 0, none⟩) n kp, .slice (some ⟨gt, 0, none⟩) n kt, .slice (some ⟨ga, 0, none⟩) n ka, .slice (some ⟨gr, 0, none⟩) n kr, .slice (some ⟨gc, 0, none⟩) n kc, .slice (some ⟨gd, 0, none⟩) n kd, .slice L2 mf cl2] 91 :: row (.slice (some ⟨gp, 0, none⟩) n kp) 3 1 n (ints par) :: row (.slice (some ⟨gt, 0, none⟩) n kt) 4 1 n (bools tent) :: row (.slice (some ⟨ga, 0, none⟩) n ka) 3 1 n (ints aw) :: row (.slice (some ⟨gr, 0, none⟩) n kr) 4 1 n (bools ref) :: row (.slice (some ⟨gc, 0, none⟩) n kc) 25 1 n cvs :: row (.slice (some ⟨gd, 0, none⟩) n kd) 3 1 n (ints dec) :: row (.slice L2 mf cl2) 97 3 mf (ntc (fl.take k ++ fl.drop (k + 1))) :: blk g3 [.int .i64 0] 36 :: blk g2 tp0 55 :: []) w := hS.re
  refine (handle_st g6 A1 c1 A2 c2 A3 c3 p root n UA uc gp kp gt kt ga ka gr kr gc kc gd kd par aw dec unw tent ref ch cvs (fl.take k ++ fl.drop (k + 1)) L2 mf cl2 kz fr q hS hmf3 HK.out.2.2.1 HLL.out.p HLL.out.te HLL.out.a HLL.out.r HLL.out.d HLL.out.c HLL.out.u HT.out.un HRC.out HK.out.2.2.2.2.2 HT.out.pat HG.out.1 HG.out.2 HK.out.1 HK.out.2.1 HK.out.2.2.2.1 HK.out.2.2.2.2.1).mono ?_
  rintro e w3 ⟨rfl, T2, u2, cv2, F2, nf2, k2, HT2, hS1⟩
  clear hS
  have hS := hS1
  clear hS1
  rw [HST.out] at hS HT2
  have HRU := Lib.hid (show ((⟨root, unw, par, tent, aw, ref, ch, dec, fl⟩ : TS).step (srcL p) k).root = root ∧ ((⟨root, unw, par, tent, aw, ref, ch, dec, fl⟩ : TS).step (srcL p) k).unw = unw from ⟨dlv_root.1, dlv_root.2⟩)
  generalize (⟨root, unw, par, tent, aw, ref, ch, dec, fl⟩ : TS).step (srcL p) k = t2 at *
  go_wp2_with (first | (refine oL ?_; ((refine sL2 hS rfl rfl rfl ?_))) | (refine oS ?_; ((first | refine sS1 hS rfl rfl rfl ?_ | refine sS4 hS rfl rfl rfl ?_); clear hS; intro w hS)))
  (try simp only [List.set_cons_zero] at hS)
  refine leaves_cons (f := 65) (args := #[.pointer (some ⟨g2, 0, none⟩), .pointer (some ⟨g3, 0, none⟩)]) (by simp) (by simp [go_sem]) ?_
  refine (catch_idle ⟨g2, 0, none⟩ ⟨g3, 0, none⟩ _).mono ?_
  rintro e u' w'' ⟨rfl, rfl, rfl⟩
  rw [HR.out]
  refine ⟨_, st_res2 hS rfl rfl rfl rfl, ?_⟩
  have hf := own_fx (hS.rowOk (v := .slice F2 nf2 k2))
  rw [ntc_len] at hf
  have hnf : nf2 = t2.fl.length := by omega
  refine ⟨⟨A1, c1, A2, c2, A3, c3, UA, uc, some ⟨gp, 0, none⟩, kp, some ⟨gt, 0, none⟩, kt, some ⟨ga, 0, none⟩, ka, some ⟨gr, 0, none⟩, kr, some ⟨gc, 0, none⟩, kc, some ⟨gd, 0, none⟩, kd, F2, k2⟩, by rw [HRU.out.1, ← hnf]; rfl, ⟨(HT.out.pat.into HT2.out.1).into hS.ornF, by rw [HRU.out.2]; exact (HT.out.un.into HT2.out.1).into hS.ornF, hS.rvF, hS.rvF, hS.rvF, hS.rvF, ⟨cv2, hS.rvF, HT2.out.2.mono (ReV.into hS.ornF)⟩, hS.rvF, hS.rvF, ?_⟩, hS.extF (intoTr HT2.out.1 hS.ornF)⟩
  rw [← hnf]
  exact hf.2
end Go.Proofs.Ytmjmdncdmmcmaaa
