/- marker.Step. Conditions: the state lies in memory, it is one of the machine. -/
import Derived.Test.YtombhhhaidmpeaaSnRef
import Derived.Test.YtombhhhaidmpeaaSnStepC
import Derived.Test.YtombhhhaidmpeaaStartF
import Derived.Defers
import Derived.Recover
namespace Go.Proofs.Ytombhhhaidmpeaa
open Go.RowKit
set_option linter.unusedVariables false
set_option linter.unusedSimpArgs false
set_option linter.unusedSectionVars false

/-- the deferred function of Step finds nothing to recover -/
theorem catch_idle (p p' : Addr) (w : World) :
    CallsD Try.prog 53 #[.pointer (some p), .pointer (some p')] .returning w fun e u' w' => e = .returned (.tuple #[]) ∧ u' = .returning ∧ w' = w := by
  refine callsD_of_wpS Try.func53 rfl fun c₀ cs hu => ?_
  apply wpS_seq
  apply wpS_region
  simp [wpOpsS, go_sem, recoverD, hu, Try.ntmps53, Exit.thenS]
  refine wpS_cond (t := false) (by simp [Act.eval, Array.replicate]) ?_
  simp only [Bool.false_eq_true, if_false]
  refine wpS_of_wp (wp_skip ?_)
  cases c₀
  simp_all [bodyPostS, results, Try.results53]
theorem results_put {fn : Func} {tmps : Array Value} {d s s2 : Tmp} {ty ty2 : TypeId} {v : Value} (hres : fn.results = #[.cell s ty, .cell s2 ty2]) (hd : (s != d && s2 != d) = true) : results fn (tmps.setIfInBounds d v) = results fn tmps := by
  rw [Bool.and_eq_true, bne_iff_ne, bne_iff_ne] at hd
  have h2 : ∀ t : Tmp, t ≠ d → (tmps.setIfInBounds d v).getD t undef = tmps.getD t undef := fun t ht => by
    simp only [Array.getD_eq_getD_getElem?]
    rw [Array.getElem?_setIfInBounds_ne (Ne.symm ht)]
  unfold results
  rw [hres]
  simp only [Array.mapM_eq_mapM_toList, List.mapM_cons, List.mapM_nil, h2 s hd.1, h2 s2 hd.2]
theorem leaves_congr {P : Program} {fn : Func} {t1 t2 : Array Value} {R : Ending → World → Prop} (h : results fn t1 = results fn t2) : ∀ (ds : List Deferred) (u : FrameMode) (w : World), Leaves P fn t1 R ds u w → Leaves P fn t2 R ds u w
  | [], .returning, w, hl => by obtain ⟨v, h1, h2⟩ := hl; exact ⟨v, by rw [← h]; exact h1, h2⟩
  | [], .panicking chain, w, hl => hl
  | [], .run, w, hl => hl
  | d :: ds, u, w, hl => by
    obtain ⟨hu, fv, cap, f, args, ht, hi, hc⟩ := hl
    refine ⟨hu, fv, cap, f, args, ht, hi, hc.mono ?_⟩
    intro e u' w' he
    cases e with
    | returned v => exact leaves_congr h ds _ _ he
    | panicked chain => exact leaves_congr h ds _ _ he
    | outgrown => exact he
theorem leaves_put {P : Program} {fn : Func} {R : Ending → World → Prop} {chain : List PanicEntry} {a : Act} {d s s2 : Tmp} {ty ty2 : TypeId} {v : Value} {w : World} (hres : fn.results = #[.cell s ty, .cell s2 ty2]) (hd : (s != d && s2 != d) = true) (h : bodyPostD P fn R (.panic chain) (a.put (some d) v) w) : bodyPostD P fn R (.panic chain) a w :=
  leaves_congr (P := P) (results_put (v := v) hres hd) _ _ _ h
/-- two results that lie in blocks -/
theorem st_res2 {P : Program} {w w0 : World} {M : Nat → Prop} {cs : List (Chunk w0 M)} {f f2 : Chunk w0 M → List (Chunk w0 M)} {fn : Func} {tmps : Array Value} {s s2 : Tmp} {ty ty2 t t2 : TypeId} {n g g2 : Nat} {vs : List Value} {v2 : Value} (hS : St w0 M cs w) (hres : fn.results = #[.cell s ty, .cell s2 ty2]) (hp : tmps.toList[s]? = some (.pointer (some ⟨g, 0, none⟩))) (hp2 : tmps.toList[s2]? = some (.pointer (some ⟨g2, 0, none⟩))) [hb : PickB g cs vs t f] [hT : TyN P ty n] (hl : vs.length = n) [hb2 : PickB g2 cs [v2] t2 f2] [hT2 : Ty1 P ty2] :
    (results fn tmps).run P w = .ok (.tuple #[.agg vs.toArray, v2]) w := by
  have h1 := run_loadN (P := P) (w := w) (b := g) (o := 0) hT hl (fun i u hu => by rw [Nat.zero_add]; exact cell_of_heap ((hb.eq ▸ hS : St w0 M (f (blk g vs t)) w).at_ hb.gap : w.heap[g]? = _) (by simpa using hu))
  have h2 := run_load1 (P := P) (w := w) (b := g2) (o := 0) hT2 (cell_of_heap ((hb2.eq ▸ hS : St w0 M (f2 (blk g2 [v2] t2)) w).at_ hb2.gap : w.heap[g2]? = _) rfl)
  simp only [Instr.loadAt, Instr.sureAddr, Sem.run_bind, Sem.run_pure, Result.andThen_ok] at h1 h2
  have hg : (tmps[s]?).getD undef = .pointer (some ⟨g, 0, none⟩) := by rw [← Array.getElem?_toList, hp]; rfl
  have hg2 : (tmps[s2]?).getD undef = .pointer (some ⟨g2, 0, none⟩) := by rw [← Array.getElem?_toList, hp2]; rfl
  simp [results, hres, hg, hg2, h1, h2, asAddr]
theorem ChV.here {S : Nat → Prop} {w : World} (v : Value) (l : List Pcl) (h : ChV S w v l) : ChV (fun k => S k ∧ k < w.heap.size) w v l := let ⟨A, c, e, h1, h2, h3⟩ := h; ⟨A, c, e, h1, h2, h3.here⟩
theorem ReV.here {S : Nat → Prop} {w : World} (v : Value) (l : List Int) (h : ReV S w v l) : ReV (fun k => S k ∧ k < w.heap.size) w v l := let ⟨A, c, e, h1, h2, h3⟩ := h; ⟨A, c, e, h1, h2, RV.here h3⟩
theorem SnAt.here {S : Nat → Prop} {w : World} {v : SV} {s : Snp} (h : SnAt S w v s) : SnAt (fun k => S k ∧ k < w.heap.size) w v s :=
  ⟨RV.here h.vals, RV.here h.cnts, let ⟨vs, h1, h2⟩ := h.chs; ⟨vs, h1.here, h2.mono ChV.here⟩, RV.here h.cut, RV.here h.saved, RV.here h.opn, let ⟨vs, h1, h2⟩ := h.recs; ⟨vs, h1.here, h2.mono ReV.here⟩⟩
set_option maxRecDepth 100000 in
set_option maxHeartbeats 12800000 in
theorem step_any {S : Nat → Prop} (v : SV) (s : Snp) (n nn b : Nat) (m : Mv) (w0 : World) (hs : SnAt S w0 v s) (hok : SnOk n b s) (hnn : n * n = nn) (hb : b ≤ 10000) :
    Calls Try.prog 33 #[v.val n nn, .agg #[.int .i64 m.kind, .int .i64 m.fr, .int .i64 m.to, .int .i64 m.val]] w0 (RetS S w0 (stepS s m).1 (stepS s m).2) := by
  have hS := St.startF w0 S
  have hmf : ∀ (fn : Fn) (first cap : Array Value) (w : World), (Instr.makeFunc fn first cap).run Try.prog w = .ok (.func fn first cap) w := fun _ _ _ _ => rfl
  have HP := Lib.hid (And.intro hs.here (And.intro hok hnn))
  have hn5 := hok.n5
  have hn1 := hok.n1
  have hnn25 : nn ≤ 25 := by rw [← hnn]; exact Nat.mul_le_mul hn5 hn5
  have hnn1 : 0 < nn := by rw [← hnn]; exact Nat.mul_pos hn1 hn1
  clear hs hok hnn
  obtain ⟨A1, c1, A2, c2, A3, c3, A4, c4, A5, c5, A6, c6, A7, c7⟩ := v
  obtain ⟨kd, fr, tt, val⟩ := m
  simp only [SV.val, SV.cells] at *
  have HREF := Lib.hid (fun (w : World) (hx : Into (fun k => S k ∧ k < w0.heap.size) (fun k => S k ∧ k < w0.heap.size) w0 w) => refusal_any ⟨A1, c1, A2, c2, A3, c3, A4, c4, A5, c5, A6, c6, A7, c7⟩ s n nn b ⟨kd, fr, tt, val⟩ w (HP.out.1.into hx) HP.out.2.1 HP.out.2.2 (by omega))
  simp only [SV.val, SV.cells] at HREF
  by_cases h0 : refS s ⟨kd, fr, tt, val⟩ = 0
  rotate_left
  · rw [stepS, if_neg h0]
    have HR0 := Lib.hid h0
    generalize refS s ⟨kd, fr, tt, val⟩ = er at *
    have e0 : (er != 0) = true := by simp [h0]
    clear h0
    go_enter_defers Try.func33, Try.ntmps33
    go_wp2_with (first | (go_at_call 54; refine (HREF.out _ hS.frozInto).mono ?_; rintro e w ⟨rfl, hx1⟩; replace hS := hS.ext hx1) | (refine oL ?_; (first | refine sL1 hS rfl rfl rfl ?_ | refine sL2 hS rfl rfl rfl ?_ | refine sL3 hS rfl rfl ?_ | refine sL4 hS rfl rfl ?_ | refine sL5 hS rfl rfl ?_ | refine sL6 hS rfl rfl ?_ | refine sL7 hS rfl rfl ?_)) | (refine oS ?_; ((first | refine sS1 hS rfl rfl rfl ?_ | refine sS2 hS rfl rfl rfl ?_ | refine sS3 hS rfl rfl rfl ?_ | refine sS4 hS rfl rfl rfl ?_ | refine sS5 hS rfl rfl rfl ?_); clear hS; intro w hS)) | ((first | (refine oB ?_; first | refine sB1 hS rfl rfl ?_ | refine sB2 hS rfl rfl ?_) | refine sN1 hS rfl ?_); clear hS; first | ((fail_if_success guard_hyp g1); intro g1 w hS) | ((fail_if_success guard_hyp g2); intro g2 w hS) | ((fail_if_success guard_hyp g3); intro g3 w hS) | ((fail_if_success guard_hyp g4); intro g4 w hS) | ((fail_if_success guard_hyp g5); intro g5 w hS) | ((fail_if_success guard_hyp g6); intro g6 w hS) | fail) | fail)
    (try simp only [List.set_cons_zero] at hS)
    refine leaves_cons (f := 53) (args := #[.pointer (some ⟨g3, 0, none⟩), .pointer (some ⟨g4, 0, none⟩)]) (by simp) (by simp [go_sem]) ?_
    refine (catch_idle ⟨g3, 0, none⟩ ⟨g4, 0, none⟩ _).mono ?_
    rintro e u' w'' ⟨rfl, rfl, rfl⟩
    exact ⟨_, st_res2 hS rfl rfl rfl rfl, RetS.none _ (hS.extF hS.frozInto)⟩
  · rw [stepS, if_pos h0]
    obtain ⟨r1, r2, r3, r4, r5, r6, r7⟩ := refS_zero h0
    simp only [HP.out.2.1.lv] at r1 r2 r3 r4 r5 r6 r7
    obtain ⟨p, rfl⟩ : ∃ p : Nat, fr = p := ⟨fr.toNat, by omega⟩
    have hp : p < n := by omega
    obtain ⟨vc, hvc, hrc⟩ := HP.out.1.chs
    obtain ⟨vr, hvr, hrr⟩ := HP.out.1.recs
    have hvcl : vc.length = nn := by rw [hrc.n, HP.out.2.1.lh]; exact HP.out.2.2
    have hvrl : vr.length = nn := by rw [hrr.n, HP.out.2.1.lr]; exact HP.out.2.2
    have HVC := Lib.hid (And.intro hvc (And.intro hrc (And.intro (hrc.ones (fun _ _ => ChV.one)) hvcl)))
    have HVR := Lib.hid (And.intro hvr (And.intro hrr (And.intro (hrr.ones (fun _ _ => ReV.one)) hvrl)))
    have HGO := Lib.hid (goS_ok HP.out.2.1 h0)
    have HL := Lib.hid (show (ints s.vals).length = n ∧ (ints s.cnts).length = n ∧ (ints s.cut).length = n ∧ (ints s.saved).length = n ∧ (bools s.opn).length = nn by simp [bools_len, HP.out.2.1.lv, HP.out.2.1.lc, HP.out.2.1.lk, HP.out.2.1.ls, HP.out.2.1.lo, HP.out.2.2])
    have HOB := Lib.hid (show ∀ u ∈ bools s.opn, u.oneCell' = true from fun u hu => by simp only [bools, List.mem_map] at hu; obtain ⟨x, _, rfl⟩ := hu; rfl)
    simp only at hvc hvr HVC HVR
    clear hvc hrc hvr hrr hvcl hvrl
    rw [h0] at HREF
    have HKD := Lib.hid (And.intro h0 (And.intro r5 (And.intro r6 r7)))
    clear h0 r5 r6 r7
    go_enter_defers Try.func33, Try.ntmps33
    go_wp2_with (first | (go_at_call 54; refine (HREF.out _ hS.frozInto).mono ?_; rintro e w ⟨rfl, hx1⟩; replace hS := hS.ext hx1) | (refine oL ?_; (first | refine sL1 hS rfl rfl rfl ?_ | refine sL2 hS rfl rfl rfl ?_ | refine sL3 hS rfl rfl ?_ | refine sL4 hS rfl rfl ?_ | refine sL5 hS rfl rfl ?_ | refine sL6 hS rfl rfl ?_ | refine sL7 hS rfl rfl ?_)) | (refine oS ?_; ((first | refine sS1 hS rfl rfl rfl ?_ | refine sS2 hS rfl rfl rfl ?_ | refine sS3 hS rfl rfl rfl ?_ | refine sS4 hS rfl rfl rfl ?_ | refine sS5 hS rfl rfl rfl ?_); clear hS; intro w hS)) | ((first | (refine oB ?_; first | refine sB1 hS rfl rfl ?_ | refine sB2 hS rfl rfl ?_) | refine sN1 hS rfl ?_); clear hS; first | ((fail_if_success guard_hyp g1); intro g1 w hS) | ((fail_if_success guard_hyp g2); intro g2 w hS) | ((fail_if_success guard_hyp g3); intro g3 w hS) | ((fail_if_success guard_hyp g4); intro g4 w hS) | ((fail_if_success guard_hyp g5); intro g5 w hS) | ((fail_if_success guard_hyp g6); intro g6 w hS) | fail) | fail)
    refine dr_start0 []  hS (by kernel_rfl) rfl ?_; clear hS; intro w hS
    refine dP hS 0 rfl rfl ?_ (hQ := fun _ _ _ _ h => leaves_put rfl rfl h)
    (try simp only [Act.put, nA, nB, nC])
    first | refine dL1 hS 1 rfl rfl rfl rfl ?_ (hQ := fun _ _ _ _ h => leaves_put rfl rfl h) | refine dL2 hS 1 rfl rfl rfl rfl ?_ (hQ := fun _ _ _ _ h => leaves_put rfl rfl h) | refine dL3 hS 1 rfl rfl rfl ?_ (hQ := fun _ _ _ _ h => leaves_put rfl rfl h) | refine dL4 hS 1 rfl rfl rfl ?_ (hQ := fun _ _ _ _ h => leaves_put rfl rfl h) | refine dL5 hS 1 rfl rfl rfl ?_ (hQ := fun _ _ _ _ h => leaves_put rfl rfl h) | refine dL6 hS 1 rfl rfl rfl ?_ (hQ := fun _ _ _ _ h => leaves_put rfl rfl h) | refine dL7 hS 1 rfl rfl rfl ?_ (hQ := fun _ _ _ _ h => leaves_put rfl rfl h)
    (try simp only [Act.put, nA, nB, nC])
    refine dP hS 3 rfl rfl ?_ (hQ := fun _ _ _ _ h => leaves_put rfl rfl h)
    (try simp only [Act.put, nA, nB, nC])
    first | refine dL1 hS 4 rfl rfl rfl rfl ?_ (hQ := fun _ _ _ _ h => leaves_put rfl rfl h) | refine dL2 hS 4 rfl rfl rfl rfl ?_ (hQ := fun _ _ _ _ h => leaves_put rfl rfl h) | refine dL3 hS 4 rfl rfl rfl ?_ (hQ := fun _ _ _ _ h => leaves_put rfl rfl h) | refine dL4 hS 4 rfl rfl rfl ?_ (hQ := fun _ _ _ _ h => leaves_put rfl rfl h) | refine dL5 hS 4 rfl rfl rfl ?_ (hQ := fun _ _ _ _ h => leaves_put rfl rfl h) | refine dL6 hS 4 rfl rfl rfl ?_ (hQ := fun _ _ _ _ h => leaves_put rfl rfl h) | refine dL7 hS 4 rfl rfl rfl ?_ (hQ := fun _ _ _ _ h => leaves_put rfl rfl h)
    (try simp only [Act.put, nA, nB, nC])
    refine dP hS 6 rfl rfl ?_ (hQ := fun _ _ _ _ h => leaves_put rfl rfl h)
    (try simp only [Act.put, nA, nB, nC])
    first | refine dL1 hS 7 rfl rfl rfl rfl ?_ (hQ := fun _ _ _ _ h => leaves_put rfl rfl h) | refine dL2 hS 7 rfl rfl rfl rfl ?_ (hQ := fun _ _ _ _ h => leaves_put rfl rfl h) | refine dL3 hS 7 rfl rfl rfl ?_ (hQ := fun _ _ _ _ h => leaves_put rfl rfl h) | refine dL4 hS 7 rfl rfl rfl ?_ (hQ := fun _ _ _ _ h => leaves_put rfl rfl h) | refine dL5 hS 7 rfl rfl rfl ?_ (hQ := fun _ _ _ _ h => leaves_put rfl rfl h) | refine dL6 hS 7 rfl rfl rfl ?_ (hQ := fun _ _ _ _ h => leaves_put rfl rfl h) | refine dL7 hS 7 rfl rfl rfl ?_ (hQ := fun _ _ _ _ h => leaves_put rfl rfl h)
    (try simp only [Act.put, nA, nB, nC])
    refine dP hS 9 rfl rfl ?_ (hQ := fun _ _ _ _ h => leaves_put rfl rfl h)
    (try simp only [Act.put, nA, nB, nC])
    first | refine dL1 hS 10 rfl rfl rfl rfl ?_ (hQ := fun _ _ _ _ h => leaves_put rfl rfl h) | refine dL2 hS 10 rfl rfl rfl rfl ?_ (hQ := fun _ _ _ _ h => leaves_put rfl rfl h) | refine dL3 hS 10 rfl rfl rfl ?_ (hQ := fun _ _ _ _ h => leaves_put rfl rfl h) | refine dL4 hS 10 rfl rfl rfl ?_ (hQ := fun _ _ _ _ h => leaves_put rfl rfl h) | refine dL5 hS 10 rfl rfl rfl ?_ (hQ := fun _ _ _ _ h => leaves_put rfl rfl h) | refine dL6 hS 10 rfl rfl rfl ?_ (hQ := fun _ _ _ _ h => leaves_put rfl rfl h) | refine dL7 hS 10 rfl rfl rfl ?_ (hQ := fun _ _ _ _ h => leaves_put rfl rfl h)
    (try simp only [Act.put, nA, nB, nC])
    refine dP hS 12 rfl rfl ?_ (hQ := fun _ _ _ _ h => leaves_put rfl rfl h)
    (try simp only [Act.put, nA, nB, nC])
    first | refine dL1 hS 13 rfl rfl rfl rfl ?_ (hQ := fun _ _ _ _ h => leaves_put rfl rfl h) | refine dL2 hS 13 rfl rfl rfl rfl ?_ (hQ := fun _ _ _ _ h => leaves_put rfl rfl h) | refine dL3 hS 13 rfl rfl rfl ?_ (hQ := fun _ _ _ _ h => leaves_put rfl rfl h) | refine dL4 hS 13 rfl rfl rfl ?_ (hQ := fun _ _ _ _ h => leaves_put rfl rfl h) | refine dL5 hS 13 rfl rfl rfl ?_ (hQ := fun _ _ _ _ h => leaves_put rfl rfl h) | refine dL6 hS 13 rfl rfl rfl ?_ (hQ := fun _ _ _ _ h => leaves_put rfl rfl h) | refine dL7 hS 13 rfl rfl rfl ?_ (hQ := fun _ _ _ _ h => leaves_put rfl rfl h)
    (try simp only [Act.put, nA, nB, nC])
    refine dP hS 15 rfl rfl ?_ (hQ := fun _ _ _ _ h => leaves_put rfl rfl h)
    (try simp only [Act.put, nA, nB, nC])
    first | refine dL1 hS 16 rfl rfl rfl rfl ?_ (hQ := fun _ _ _ _ h => leaves_put rfl rfl h) | refine dL2 hS 16 rfl rfl rfl rfl ?_ (hQ := fun _ _ _ _ h => leaves_put rfl rfl h) | refine dL3 hS 16 rfl rfl rfl ?_ (hQ := fun _ _ _ _ h => leaves_put rfl rfl h) | refine dL4 hS 16 rfl rfl rfl ?_ (hQ := fun _ _ _ _ h => leaves_put rfl rfl h) | refine dL5 hS 16 rfl rfl rfl ?_ (hQ := fun _ _ _ _ h => leaves_put rfl rfl h) | refine dL6 hS 16 rfl rfl rfl ?_ (hQ := fun _ _ _ _ h => leaves_put rfl rfl h) | refine dL7 hS 16 rfl rfl rfl ?_ (hQ := fun _ _ _ _ h => leaves_put rfl rfl h)
    (try simp only [Act.put, nA, nB, nC])
    refine dP hS 18 rfl rfl ?_ (hQ := fun _ _ _ _ h => leaves_put rfl rfl h)
    (try simp only [Act.put, nA, nB, nC])
    first | refine dL1 hS 19 rfl rfl rfl rfl ?_ (hQ := fun _ _ _ _ h => leaves_put rfl rfl h) | refine dL2 hS 19 rfl rfl rfl rfl ?_ (hQ := fun _ _ _ _ h => leaves_put rfl rfl h) | refine dL3 hS 19 rfl rfl rfl ?_ (hQ := fun _ _ _ _ h => leaves_put rfl rfl h) | refine dL4 hS 19 rfl rfl rfl ?_ (hQ := fun _ _ _ _ h => leaves_put rfl rfl h) | refine dL5 hS 19 rfl rfl rfl ?_ (hQ := fun _ _ _ _ h => leaves_put rfl rfl h) | refine dL6 hS 19 rfl rfl rfl ?_ (hQ := fun _ _ _ _ h => leaves_put rfl rfl h) | refine dL7 hS 19 rfl rfl rfl ?_ (hQ := fun _ _ _ _ h => leaves_put rfl rfl h)
    (try simp only [Act.put, nA, nB, nC])
    refine dr_one 2 (by kernel_rfl) rfl ?_
    (refine st_call rfl (by kernel_rfl) rfl ?_; go_at_call 52; refine (cloneVI_any A1 c1 n (ints s.vals) _ (HP.out.1.vals.into hS.frozInto) HL.out.1 (oneCell_ints _) (by omega)).mono ?_; rintro e w ⟨Lv, kv, rfl, ho, hx1⟩; replace hS := hS.addRow ho hx1; clear ho hx1)
    (try simp only [Act.put, nA, nB, nC])
    refine dr_end hS ?_
    refine dr_one 5 (by kernel_rfl) rfl ?_
    (refine st_call rfl (by kernel_rfl) rfl ?_; go_at_call 52; refine (cloneVI_any A2 c2 n (ints s.cnts) _ (HP.out.1.cnts.into hS.frozInto) HL.out.2.1 (oneCell_ints _) (by omega)).mono ?_; rintro e w ⟨Lc, kc, rfl, ho, hx1⟩; replace hS := hS.addRow ho hx1; clear ho hx1)
    (try simp only [Act.put, nA, nB, nC])
    refine dr_end hS ?_
    refine dr_one 8 (by kernel_rfl) rfl ?_
    (refine st_call rfl (by kernel_rfl) rfl ?_; go_at_call 55; refine (cloneVP_any A3 c3 nn vc _ (HVC.out.1.into hS.frozInto) HVC.out.2.2.2 HVC.out.2.2.1 (by omega)).mono ?_; rintro e w ⟨Lh, kh, rfl, ho, hx1⟩; replace hS := hS.addRow ho hx1; clear ho hx1)
    (try simp only [Act.put, nA, nB, nC])
    refine dr_end hS ?_
    refine dr_one 11 (by kernel_rfl) rfl ?_
    (refine st_call rfl (by kernel_rfl) rfl ?_; go_at_call 52; refine (cloneVI_any A4 c4 n (ints s.cut) _ (HP.out.1.cut.into hS.frozInto) HL.out.2.2.1 (oneCell_ints _) (by omega)).mono ?_; rintro e w ⟨Lk, kk, rfl, ho, hx1⟩; replace hS := hS.addRow ho hx1; clear ho hx1)
    (try simp only [Act.put, nA, nB, nC])
    refine dr_end hS ?_
    refine dr_one 14 (by kernel_rfl) rfl ?_
    (refine st_call rfl (by kernel_rfl) rfl ?_; go_at_call 52; refine (cloneVI_any A5 c5 n (ints s.saved) _ (HP.out.1.saved.into hS.frozInto) HL.out.2.2.2.1 (oneCell_ints _) (by omega)).mono ?_; rintro e w ⟨Ld, kd', rfl, ho, hx1⟩; replace hS := hS.addRow ho hx1; clear ho hx1)
    (try simp only [Act.put, nA, nB, nC])
    refine dr_end hS ?_
    refine dr_one 17 (by kernel_rfl) rfl ?_
    (refine st_call rfl (by kernel_rfl) rfl ?_; go_at_call 56; refine (cloneVB_any A6 c6 nn (bools s.opn) _ (HP.out.1.opn.into hS.frozInto) HL.out.2.2.2.2 HOB.out (by omega)).mono ?_; rintro e w ⟨Lo, ko, rfl, ho, hx1⟩; replace hS := hS.addRow ho hx1; clear ho hx1)
    (try simp only [Act.put, nA, nB, nC])
    refine dr_end hS ?_
    refine dr_one 20 (by kernel_rfl) rfl ?_
    (refine st_call rfl (by kernel_rfl) rfl ?_; go_at_call 57; refine (cloneVR_any A7 c7 nn vr _ (HVR.out.1.into hS.frozInto) HVR.out.2.2.2 HVR.out.2.2.1 (by omega)).mono ?_; rintro e w ⟨Lr, kr, rfl, ho, hx1⟩; replace hS := hS.addRow ho hx1; clear ho hx1)
    (try simp only [Act.put, nA, nB, nC])
    refine dr_end hS ?_
    refine dP hS 21 rfl rfl ?_ (hQ := fun _ _ _ _ h => leaves_put rfl rfl h)
    (try simp only [Act.put, nA, nB, nC])
    refine dP hS 22 rfl rfl ?_ (hQ := fun _ _ _ _ h => leaves_put rfl rfl h)
    (try simp only [Act.put, nA, nB, nC])
    refine dr_one 23 (by kernel_rfl) rfl ?_
    ((first | refine sB1 hS rfl rfl ?_ | refine sB2 hS rfl rfl ?_); clear hS; first | ((fail_if_success guard_hyp g1); intro g1 w hS) | ((fail_if_success guard_hyp g2); intro g2 w hS) | ((fail_if_success guard_hyp g3); intro g3 w hS) | ((fail_if_success guard_hyp g4); intro g4 w hS) | ((fail_if_success guard_hyp g5); intro g5 w hS) | ((fail_if_success guard_hyp g6); intro g6 w hS) | fail)
    (try simp only [Act.put, nA, nB, nC])
    refine dr_end hS ?_
    refine dA hS 24 rfl rfl rfl ?_ (hQ := fun _ _ _ _ h => leaves_put rfl rfl h)
    (try simp only [Act.put, nA, nB, nC])
    refine dr_done (by kernel_rfl) ?_
    obtain ⟨gv, rfl⟩ := hS.rowSome Lv hn1
    obtain ⟨gc, rfl⟩ := hS.rowSome Lc hn1
    obtain ⟨gh, rfl⟩ := hS.rowSome Lh hnn1
    obtain ⟨gk, rfl⟩ := hS.rowSome Lk hn1
    obtain ⟨gd, rfl⟩ := hS.rowSome Ld hn1
    obtain ⟨go, rfl⟩ := hS.rowSome Lo hnn1
    obtain ⟨gr, rfl⟩ := hS.rowSome Lr hnn1
    replace hS : St w0 (fun k => S k ∧ k < w0.heap.size) (blk g5 [.slice (some ⟨gv, 0, none⟩) n kv, .slice (some ⟨gc, 0, none⟩) n kc, .slice (some ⟨gh, 0, none⟩) nn kh, .slice (some ⟨gk, 0, none⟩) n kk, .slice (some ⟨gd, 0, none⟩) n kd', .slice (some ⟨go, 0, none⟩) nn ko, .slice (some ⟨gr, 0, none⟩) nn kr] 99 :: row (.slice (some ⟨gh, 0, none⟩) nn kh) 63 1 nn vc :: froz (fun k => S k ∧ k < w0.heap.size) w0 :: row (.slice (some ⟨gv, 0, none⟩) n kv) 3 1 n (ints s.vals) :: row (.slice (some ⟨gc, 0, none⟩) n kc) 3 1 n (ints s.cnts) :: row (.slice (some ⟨gk, 0, none⟩) n kk) 3 1 n (ints s.cut) :: row (.slice (some ⟨gd, 0, none⟩) n kd') 3 1 n (ints s.saved) :: row (.slice (some ⟨go, 0, none⟩) nn ko) 4 1 nn (bools s.opn) :: row (.slice (some ⟨gr, 0, none⟩) nn kr) 24 1 nn vr :: blk g4 [.int .i64 0] 57 :: blk g3 sn0 56 :: blk g2 [.int .i64 kd, .int .i64 (p : Int), .int .i64 tt, .int .i64 val] 62 :: []) w := hS.re
    by_cases k3 : kd = 3
    · subst k3
      have HE := Lib.hid (show goS s ⟨3, (p : Int), tt, val⟩ = recS s p by unfold goS; rw [if_pos rfl]; simp only [Int.toNat_natCast])
      rw [HE.out] at HGO
      go_wp2_with (first | (refine oL ?_; (first | refine sL1 hS rfl rfl rfl ?_ | refine sL2 hS rfl rfl rfl ?_ | refine sL3 hS rfl rfl ?_ | refine sL4 hS rfl rfl ?_ | refine sL5 hS rfl rfl ?_ | refine sL6 hS rfl rfl ?_ | refine sL7 hS rfl rfl ?_)) | (refine oS ?_; ((first | refine sS1 hS rfl rfl rfl ?_ | refine sS2 hS rfl rfl rfl ?_ | refine sS3 hS rfl rfl rfl ?_ | refine sS4 hS rfl rfl rfl ?_ | refine sS5 hS rfl rfl rfl ?_); clear hS; intro w hS)) | ((first | (refine oB ?_; first | refine sB1 hS rfl rfl ?_ | refine sB2 hS rfl rfl ?_) | refine sN1 hS rfl ?_); clear hS; first | ((fail_if_success guard_hyp g1); intro g1 w hS) | ((fail_if_success guard_hyp g2); intro g2 w hS) | ((fail_if_success guard_hyp g3); intro g3 w hS) | ((fail_if_success guard_hyp g4); intro g4 w hS) | ((fail_if_success guard_hyp g5); intro g5 w hS) | ((fail_if_success guard_hyp g6); intro g6 w hS) | fail) | fail)
      refine (record_st g5 gv gc gh gk gd go gr kv kc kh kk kd' ko kr n nn b s vc vr p hS HP.out.2.1 HP.out.2.2 hb HVC.out.2.1 hp).mono ?_
      rintro e w2 ⟨rfl, T2, u2, hv2, hS2, hi2, hc2⟩
      replace hS := hS2
      clear hS2
      have hr2 : Rw2 (ReV T2 u2) vr (recS s p).recs := by
        have h1 : (recS s p).recs = s.recs := by by_cases hz : nth s.cut p < 0 <;> simp [recS, recR, hz]
        rw [h1]; exact HVR.out.2.1.mono (ReV.into hi2)
      generalize hs2 : recS s p = s2 at *
      clear hs2
      go_wp2_with (first | (refine oL ?_; (first | refine sL1 hS rfl rfl rfl ?_ | refine sL2 hS rfl rfl rfl ?_ | refine sL3 hS rfl rfl ?_ | refine sL4 hS rfl rfl ?_ | refine sL5 hS rfl rfl ?_ | refine sL6 hS rfl rfl ?_ | refine sL7 hS rfl rfl ?_)) | (refine oS ?_; ((first | refine sS1 hS rfl rfl rfl ?_ | refine sS2 hS rfl rfl rfl ?_ | refine sS3 hS rfl rfl rfl ?_ | refine sS4 hS rfl rfl rfl ?_ | refine sS5 hS rfl rfl rfl ?_); clear hS; intro w hS)) | ((first | (refine oB ?_; first | refine sB1 hS rfl rfl ?_ | refine sB2 hS rfl rfl ?_) | refine sN1 hS rfl ?_); clear hS; first | ((fail_if_success guard_hyp g1); intro g1 w hS) | ((fail_if_success guard_hyp g2); intro g2 w hS) | ((fail_if_success guard_hyp g3); intro g3 w hS) | ((fail_if_success guard_hyp g4); intro g4 w hS) | ((fail_if_success guard_hyp g5); intro g5 w hS) | ((fail_if_success guard_hyp g6); intro g6 w hS) | fail) | fail)
      (try simp only [List.set_cons_zero] at hS)
      refine leaves_cons (f := 53) (args := #[.pointer (some ⟨g3, 0, none⟩), .pointer (some ⟨g4, 0, none⟩)]) (by simp) (by simp [go_sem]) ?_
      refine (catch_idle ⟨g3, 0, none⟩ ⟨g4, 0, none⟩ _).mono ?_
      rintro e u' w'' ⟨rfl, rfl, rfl⟩
      refine ⟨_, st_res2 hS rfl rfl rfl rfl, ?_⟩
      rw [HE.out]
      exact RetS.mk HGO.out.lv (show s2.chs.length = nn by rw [HGO.out.lh]; exact HP.out.2.2) ⟨some ⟨gv, 0, none⟩, kv, some ⟨gc, 0, none⟩, kc, some ⟨gh, 0, none⟩, kh, some ⟨gk, 0, none⟩, kk, some ⟨gd, 0, none⟩, kd', some ⟨go, 0, none⟩, ko, some ⟨gr, 0, none⟩, kr⟩ ⟨hS.rvF, hS.rvF, ⟨_, hS.rvF, hc2.mono (ChV.into hS.ornF)⟩, hS.rvF, hS.rvF, hS.rvF, ⟨_, hS.rvF, hr2.mono (ReV.into hS.ornF)⟩⟩ (hS.extF (hi2.trans' hS.frozInto))
    · have HQ := Lib.hid (HKD.out.2.1 k3)
      obtain ⟨q, rfl⟩ : ∃ q : Nat, tt = q := ⟨tt.toNat, by have := HQ.out; omega⟩
      have hq : q < n := by have := HQ.out; omega
      by_cases k1 : kd = 1
      · subst k1
        have HE := Lib.hid (show goS s ⟨1, (p : Int), (q : Int), val⟩ = sendS s p q val by unfold goS; rw [if_neg (show ¬ (1 : Int) = 3 by decide), if_pos rfl]; simp only [Int.toNat_natCast])
        rw [HE.out] at HGO
        clear k3
        go_wp2_with (first | (refine oL ?_; (first | refine sL1 hS rfl rfl rfl ?_ | refine sL2 hS rfl rfl rfl ?_ | refine sL3 hS rfl rfl ?_ | refine sL4 hS rfl rfl ?_ | refine sL5 hS rfl rfl ?_ | refine sL6 hS rfl rfl ?_ | refine sL7 hS rfl rfl ?_)) | (refine oS ?_; ((first | refine sS1 hS rfl rfl rfl ?_ | refine sS2 hS rfl rfl rfl ?_ | refine sS3 hS rfl rfl rfl ?_ | refine sS4 hS rfl rfl rfl ?_ | refine sS5 hS rfl rfl rfl ?_); clear hS; intro w hS)) | ((first | (refine oB ?_; first | refine sB1 hS rfl rfl ?_ | refine sB2 hS rfl rfl ?_) | refine sN1 hS rfl ?_); clear hS; first | ((fail_if_success guard_hyp g1); intro g1 w hS) | ((fail_if_success guard_hyp g2); intro g2 w hS) | ((fail_if_success guard_hyp g3); intro g3 w hS) | ((fail_if_success guard_hyp g4); intro g4 w hS) | ((fail_if_success guard_hyp g5); intro g5 w hS) | ((fail_if_success guard_hyp g6); intro g6 w hS) | fail) | fail)
        refine (transfer_st g5 gv gc gh gk gd go gr kv kc kh kk kd' ko kr n nn b s vc vr p q val 1 hS HP.out.2.1 HP.out.2.2 hb HVC.out.2.1 hp hq).mono ?_
        rintro e w2 ⟨rfl, T2, u2, hv2, hS2, hi2, hc2⟩
        replace hS := hS2
        clear hS2
        have hr2 : Rw2 (ReV T2 u2) vr (sendS s p q val).recs := HVR.out.2.1.mono (ReV.into hi2)
        generalize hs2 : sendS s p q val = s2 at *
        clear hs2
        go_wp2_with (first | (refine oL ?_; (first | refine sL1 hS rfl rfl rfl ?_ | refine sL2 hS rfl rfl rfl ?_ | refine sL3 hS rfl rfl ?_ | refine sL4 hS rfl rfl ?_ | refine sL5 hS rfl rfl ?_ | refine sL6 hS rfl rfl ?_ | refine sL7 hS rfl rfl ?_)) | (refine oS ?_; ((first | refine sS1 hS rfl rfl rfl ?_ | refine sS2 hS rfl rfl rfl ?_ | refine sS3 hS rfl rfl rfl ?_ | refine sS4 hS rfl rfl rfl ?_ | refine sS5 hS rfl rfl rfl ?_); clear hS; intro w hS)) | ((first | (refine oB ?_; first | refine sB1 hS rfl rfl ?_ | refine sB2 hS rfl rfl ?_) | refine sN1 hS rfl ?_); clear hS; first | ((fail_if_success guard_hyp g1); intro g1 w hS) | ((fail_if_success guard_hyp g2); intro g2 w hS) | ((fail_if_success guard_hyp g3); intro g3 w hS) | ((fail_if_success guard_hyp g4); intro g4 w hS) | ((fail_if_success guard_hyp g5); intro g5 w hS) | ((fail_if_success guard_hyp g6); intro g6 w hS) | fail) | fail)
        (try simp only [List.set_cons_zero] at hS)
        refine leaves_cons (f := 53) (args := #[.pointer (some ⟨g3, 0, none⟩), .pointer (some ⟨g4, 0, none⟩)]) (by simp) (by simp [go_sem]) ?_
        refine (catch_idle ⟨g3, 0, none⟩ ⟨g4, 0, none⟩ _).mono ?_
        rintro e u' w'' ⟨rfl, rfl, rfl⟩
        refine ⟨_, st_res2 hS rfl rfl rfl rfl, ?_⟩
        rw [HE.out]
        exact RetS.mk HGO.out.lv (show s2.chs.length = nn by rw [HGO.out.lh]; exact HP.out.2.2) ⟨some ⟨gv, 0, none⟩, kv, some ⟨gc, 0, none⟩, kc, some ⟨gh, 0, none⟩, kh, some ⟨gk, 0, none⟩, kk, some ⟨gd, 0, none⟩, kd', some ⟨go, 0, none⟩, ko, some ⟨gr, 0, none⟩, kr⟩ ⟨hS.rvF, hS.rvF, ⟨_, hS.rvF, hc2.mono (ChV.into hS.ornF)⟩, hS.rvF, hS.rvF, hS.rvF, ⟨_, hS.rvF, hr2.mono (ReV.into hS.ornF)⟩⟩ (hS.extF (hi2.trans' hS.frozInto))
      · obtain rfl : kd = 2 := by omega
        have hlen := HKD.out.2.2.2 rfl
        simp only [Int.toNat_natCast] at hlen
        cases hch : chOf s.chs (p * n + q) with
        | nil => rw [hch] at hlen; simp at hlen
        | cons x l =>
          obtain ⟨mk, xv⟩ := x
          have HE := Lib.hid (show goS s ⟨2, (p : Int), (q : Int), val⟩ = dlvS s (p * n + q) q mk xv by unfold goS; rw [if_neg (show ¬ (2 : Int) = 3 by decide), if_neg (show ¬ (2 : Int) = 1 by decide), HP.out.2.1.lv]; simp only [Int.toNat_natCast, hch]; rfl)
          rw [HE.out] at HGO
          have HCH := Lib.hid hch
          clear k3 k1 hlen hch
          go_wp2_with (first | (refine oL ?_; (first | refine sL1 hS rfl rfl rfl ?_ | refine sL2 hS rfl rfl rfl ?_ | refine sL3 hS rfl rfl ?_ | refine sL4 hS rfl rfl ?_ | refine sL5 hS rfl rfl ?_ | refine sL6 hS rfl rfl ?_ | refine sL7 hS rfl rfl ?_)) | (refine oS ?_; ((first | refine sS1 hS rfl rfl rfl ?_ | refine sS2 hS rfl rfl rfl ?_ | refine sS3 hS rfl rfl rfl ?_ | refine sS4 hS rfl rfl rfl ?_ | refine sS5 hS rfl rfl rfl ?_); clear hS; intro w hS)) | ((first | (refine oB ?_; first | refine sB1 hS rfl rfl ?_ | refine sB2 hS rfl rfl ?_) | refine sN1 hS rfl ?_); clear hS; first | ((fail_if_success guard_hyp g1); intro g1 w hS) | ((fail_if_success guard_hyp g2); intro g2 w hS) | ((fail_if_success guard_hyp g3); intro g3 w hS) | ((fail_if_success guard_hyp g4); intro g4 w hS) | ((fail_if_success guard_hyp g5); intro g5 w hS) | ((fail_if_success guard_hyp g6); intro g6 w hS) | fail) | fail)
          refine (deliver_st g5 gv gc gh gk gd go gr kv kc kh kk kd' ko kr n nn b s vc vr p q xv 2 mk l val hS HP.out.2.1 HP.out.2.2 hb HVC.out.2.1 HVR.out.2.1 hp hq HCH.out).mono ?_
          rintro e w2 ⟨rfl, T2, u2, hv2, rv2, hS2, hc2, hr2, hi2⟩
          replace hS := hS2
          clear hS2
          generalize hs2 : dlvS s (p * n + q) q mk xv = s2 at *
          clear hs2
          go_wp2_with (first | (refine oL ?_; (first | refine sL1 hS rfl rfl rfl ?_ | refine sL2 hS rfl rfl rfl ?_ | refine sL3 hS rfl rfl ?_ | refine sL4 hS rfl rfl ?_ | refine sL5 hS rfl rfl ?_ | refine sL6 hS rfl rfl ?_ | refine sL7 hS rfl rfl ?_)) | (refine oS ?_; ((first | refine sS1 hS rfl rfl rfl ?_ | refine sS2 hS rfl rfl rfl ?_ | refine sS3 hS rfl rfl rfl ?_ | refine sS4 hS rfl rfl rfl ?_ | refine sS5 hS rfl rfl rfl ?_); clear hS; intro w hS)) | ((first | (refine oB ?_; first | refine sB1 hS rfl rfl ?_ | refine sB2 hS rfl rfl ?_) | refine sN1 hS rfl ?_); clear hS; first | ((fail_if_success guard_hyp g1); intro g1 w hS) | ((fail_if_success guard_hyp g2); intro g2 w hS) | ((fail_if_success guard_hyp g3); intro g3 w hS) | ((fail_if_success guard_hyp g4); intro g4 w hS) | ((fail_if_success guard_hyp g5); intro g5 w hS) | ((fail_if_success guard_hyp g6); intro g6 w hS) | fail) | fail)
          (try simp only [List.set_cons_zero] at hS)
          refine leaves_cons (f := 53) (args := #[.pointer (some ⟨g3, 0, none⟩), .pointer (some ⟨g4, 0, none⟩)]) (by simp) (by simp [go_sem]) ?_
          refine (catch_idle ⟨g3, 0, none⟩ ⟨g4, 0, none⟩ _).mono ?_
          rintro e u' w'' ⟨rfl, rfl, rfl⟩
          refine ⟨_, st_res2 hS rfl rfl rfl rfl, ?_⟩
          rw [HE.out]
          exact RetS.mk HGO.out.lv (show s2.chs.length = nn by rw [HGO.out.lh]; exact HP.out.2.2) ⟨some ⟨gv, 0, none⟩, kv, some ⟨gc, 0, none⟩, kc, some ⟨gh, 0, none⟩, kh, some ⟨gk, 0, none⟩, kk, some ⟨gd, 0, none⟩, kd', some ⟨go, 0, none⟩, ko, some ⟨gr, 0, none⟩, kr⟩ ⟨hS.rvF, hS.rvF, ⟨_, hS.rvF, hc2.mono (ChV.into hS.ornF)⟩, hS.rvF, hS.rvF, hS.rvF, ⟨_, hS.rvF, hr2.mono (ReV.into hS.ornF)⟩⟩ (hS.extF (hi2.trans' hS.frozInto))
end Go.Proofs.Ytombhhhaidmpeaa
