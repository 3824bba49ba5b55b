/- The machine of marker.Step: transfer, deliver. Conditions: the machine lies in memory, the numbers are in range. -/
import Derived.Test.YtombhhhaidmpeaaSnStepB
namespace Go.Proofs.Ytombhhhaidmpeaa
open Go.RowKit
set_option linter.unusedVariables false
set_option linter.unusedSimpArgs false
set_option linter.unusedSectionVars false

/-- where the rest of a slice lies -/
def tailA (b o c sz : Nat) : Option Addr := if c = 1 then some ⟨b, o, none⟩ else some ⟨b, o + sz, none⟩
theorem run_tail {P : Program} {t e : TypeId} {n c b o sz : Nat} (hu : P.underlying t = some (.slice e)) (hs : (P.info? e).map (·.size) = some sz) (hn : 1 ≤ n) (hc : n ≤ c) (w : World) :
    (Instr.sliceAt t (.slice (some ⟨b, o, none⟩) n c) (some (.int .i64 1)) none none).run P w = .ok (.slice (tailA b o c sz) (n - 1) (c - 1)) w := by
  have h1 : (1 : Int) ≤ (n : Int) := by omega
  have h2 : (n : Int) ≤ (c : Int) := by omega
  simp [Instr.sliceAt, Instr.slice, run_underlying hu, Instr.sliceBounds, Instr.sliceBound, asIntOf, run_sizeOf hs, add_mk, tailA, hn, hc, h1, h2]
theorem dT {P : Program} {ops : Array Oper} {Q : Exit → Act → World → Prop} {a : Act} {w w0 : World} {M : Nat → Prop} {cs fx : List (Chunk w0 M)} {md : Region.Mode} {fuel : Nat} {listed : Array Bool} {late : List Nat} {d : Option Tmp} {tt t e : TypeId} {pos : String} {af : Array Edge} {gd : Option (Nat × Bool)} {x y : Operand} {n c b o sz : Nat} (hu : P.underlying t = some (.slice e)) (hs : (P.info? e).map (·.size) = some sz) (hn : 1 ≤ n) (hc : n ≤ c) (hS : St w0 M cs w) (i : Nat) [hsb : SubC fx cs]
    (hi : ops[i]? = some ⟨d, .slice t x (some y) none none, tt, pos, af, gd⟩) (hw : Region.wanted ⟨d, .slice t x (some y) none none, tt, pos, af, gd⟩ (yielded ops a.tmps) = true) (hx' : oval a x = some (.slice (some ⟨b, o, none⟩) n c)) (hy' : oval a y = some (.int .i64 1))
    (h : wpAnyL P md ops Q (SF w0 M fx) late fuel (listed.setIfInBounds i true) (a.put d (.slice (tailA b o c sz) (n - 1) (c - 1))) w) (hno : Region.noSelect ops = true := by kernel_rfl) (hf : (Region.free md ops listed i && lateOk md ops late i) = true := by kernel_rfl) (hr : (Region.ready md ops listed).contains i = true := by kernel_rfl) (hQ : ∀ c a v w, Q (.panic c) (a.put d v) w → Q (.panic c) a w := by exact fun _ _ _ _ h => h) : wpAnyL P md ops Q (SF w0 M fx) late (fuel + 1) listed a w :=
  dr_pure hS i hi hno hf hr hQ hw (fun w => by simp only [execOp, oval_eval hx', oval_eval hy', Option.map_none, Option.map_some, Sem.run_bind, run_tail hu hs hn hc, Result.andThen_ok, Sem.run_pure]) h
theorem tail_rv {T : Nat → Prop} {u : World} {b o c : Nat} {x : Pcl} {l : List Pcl} (h : RV T u (some ⟨b, o, none⟩) (pcs (x :: l))) (hc : l.length + 1 ≤ c) : RV T u (tailA b o c 2) (pcs l) := by
  intro j v hv
  have hl : 0 < l.length := by
    have := (List.getElem?_eq_some_iff.1 hv).1
    rw [pcs_len] at this
    omega
  rw [tailA, if_neg (by omega)]
  obtain ⟨b', o', e, hs, hc'⟩ := h (j + 2) v (by rw [pcs_cons, List.getElem?_cons_succ, List.getElem?_cons_succ]; exact hv)
  injection e with e
  injection e with e1 e2
  subst e1 e2
  exact ⟨b, o + 2, rfl, hs, by rw [show o + 2 + j = o + (j + 2) by omega]; exact hc'⟩
theorem tail_ch {T : Nat → Prop} {u : World} {b o c : Nat} {x : Pcl} {l : List Pcl} (h : RV T u (some ⟨b, o, none⟩) (pcs (x :: l))) (hc : l.length + 1 ≤ c) (hc' : c ≤ 9223372036854775807) : ChV T u (.slice (tailA b o c 2) (l.length + 1 - 1) (c - 1)) l :=
  ⟨tailA b o c 2, c - 1, by simp, by omega, by omega, tail_rv h hc⟩
/-- the state behind the delivery of what stands first in channel k -/
def dlvS (s : Snp) (k q : Nat) (mk : Bool) (x : Int) : Snp := if mk = true then markS s k q else takeS s k q x
set_option maxRecDepth 100000 in
set_option maxHeartbeats 6400000 in
theorem transfer_st {w0 w u : World} {M T : Nat → Prop} {cs : List (Chunk w0 M)} (gm gv gc gh gk gd go gr kv kc kh kk kd ko kr n nn b : Nat) (s : Snp) (hv rv : List Value) (p q : Nat) (x kd' : Int) (hS : St w0 M (blk gm [.slice (some ⟨gv, 0, none⟩) n kv, .slice (some ⟨gc, 0, none⟩) n kc, .slice (some ⟨gh, 0, none⟩) nn kh, .slice (some ⟨gk, 0, none⟩) n kk, .slice (some ⟨gd, 0, none⟩) n kd, .slice (some ⟨go, 0, none⟩) nn ko, .slice (some ⟨gr, 0, none⟩) nn kr] 99 :: row (.slice (some ⟨gh, 0, none⟩) nn kh) 63 1 nn hv :: froz T u :: row (.slice (some ⟨gv, 0, none⟩) n kv) 3 1 n (ints s.vals) :: row (.slice (some ⟨gc, 0, none⟩) n kc) 3 1 n (ints s.cnts) :: row (.slice (some ⟨gk, 0, none⟩) n kk) 3 1 n (ints s.cut) :: row (.slice (some ⟨gd, 0, none⟩) n kd) 3 1 n (ints s.saved) :: row (.slice (some ⟨go, 0, none⟩) nn ko) 4 1 nn (bools s.opn) :: row (.slice (some ⟨gr, 0, none⟩) nn kr) 24 1 nn rv :: cs) w) (hok : SnOk n b s) (hnn : n * n = nn) (hb : b ≤ 10000) (hh : Rw2 (ChV T u) hv s.chs) (hp : p < n) (hq : q < n) :
    Calls Try.prog 58 #[.pointer (some ⟨gm, 0, none⟩), .agg #[.int .i64 kd', .int .i64 (p : Int), .int .i64 (q : Int), .int .i64 x]] w fun e w' => e = .returned (.tuple #[]) ∧ ∃ T' u' hv', St w0 M (blk gm [.slice (some ⟨gv, 0, none⟩) n kv, .slice (some ⟨gc, 0, none⟩) n kc, .slice (some ⟨gh, 0, none⟩) nn kh, .slice (some ⟨gk, 0, none⟩) n kk, .slice (some ⟨gd, 0, none⟩) n kd, .slice (some ⟨go, 0, none⟩) nn ko, .slice (some ⟨gr, 0, none⟩) nn kr] 99 :: row (.slice (some ⟨gh, 0, none⟩) nn kh) 63 1 nn hv' :: froz T' u' :: row (.slice (some ⟨gv, 0, none⟩) n kv) 3 1 n (ints (sendS s p q x).vals) :: row (.slice (some ⟨gc, 0, none⟩) n kc) 3 1 n (ints (sendS s p q x).cnts) :: row (.slice (some ⟨gk, 0, none⟩) n kk) 3 1 n (ints (sendS s p q x).cut) :: row (.slice (some ⟨gd, 0, none⟩) n kd) 3 1 n (ints (sendS s p q x).saved) :: row (.slice (some ⟨go, 0, none⟩) nn ko) 4 1 nn (bools (sendS s p q x).opn) :: row (.slice (some ⟨gr, 0, none⟩) nn kr) 24 1 nn rv :: cs) w' ∧ Into T T' u u' ∧ Rw2 (ChV T' u') hv' (sendS s p q x).chs := by
  have hn5 := hok.n5
  have hnn25 : nn ≤ 25 := by rw [← hnn]; exact Nat.mul_le_mul hn5 hn5
  have hlv := hok.lv
  have hpv : p < s.vals.length := by rw [hok.lv]; exact hp
  have hpc : p < s.cnts.length := by rw [hok.lc]; exact hp
  have hqv := ints_at hpv
  have hqc := ints_at hpc
  have hcb0 := hok.cb p hp
  have hkn : p * n + q < nn := by rw [← hnn]; exact ch_lt hp hq
  have hlh : s.chs.length = nn := by rw [hok.lh]; exact hnn
  have hlb := hok.hbk (k := p * n + q) (by rw [hnn]; exact hkn)
  have hvl : hv.length = nn := by rw [hh.n]; exact hlh
  obtain ⟨B, cb, hvk, hcb, hcb', hB⟩ := hh.atCh (k := p * n + q) (by rw [hlh]; exact hkn)
  have HH := Lib.hid (And.intro hh (And.intro hvk (And.intro hB hvl)))
  have hp' : (p : Int) < n := by omega
  simp only [sendS]
  rw [hlv]
  clear hok hh hnn hvk hB hlv hlh hvl
  generalize hll : chOf s.chs (p * n + q) = ll at *
  have HLL := Lib.hid hll
  clear hll
  generalize hvq : nth s.vals p = vq at *
  generalize hcn : nth s.cnts p = cn at *
  go_enter Try.func58, Try.ntmps58
  go_wp2_with (first | (refine oL ?_; (first | refine sL1 hS rfl rfl rfl ?_ | refine sL2 hS rfl rfl rfl ?_ | refine sL3 hS rfl rfl ?_ | refine sL4 hS rfl rfl ?_ | refine sL5 hS rfl rfl ?_ | refine sL6 hS rfl rfl ?_ | refine sL7 hS rfl rfl ?_)) | ((first | (refine oB ?_; first | refine sB1 hS rfl rfl ?_ | refine sB2 hS rfl rfl ?_)); clear hS; first | ((fail_if_success guard_hyp g1); intro g1 w hS) | ((fail_if_success guard_hyp g2); intro g2 w hS) | fail) | fail)
  refine dr_start0 [13]  hS (by kernel_rfl) rfl ?_; clear hS; intro w hS
  refine dM hS 0 rfl rfl rfl ?_
  (try simp only [Act.put, nA, nB, nC])
  refine dP hS 1 rfl rfl ?_
  (try simp only [Act.put, nA, nB, nC])
  refine dP hS 2 rfl rfl ?_
  (try simp only [Act.put, nA, nB, nC])
  refine dP hS 3 rfl rfl ?_
  (try simp only [Act.put, nA, nB, nC])
  first | refine dL1 hS 4 rfl rfl rfl rfl ?_ | refine dL2 hS 4 rfl rfl rfl rfl ?_ | refine dL3 hS 4 rfl rfl rfl ?_ | refine dL4 hS 4 rfl rfl rfl ?_ | refine dL5 hS 4 rfl rfl rfl ?_ | refine dL6 hS 4 rfl rfl rfl ?_ | refine dL7 hS 4 rfl rfl rfl ?_
  (try simp only [Act.put, nA, nB, nC])
  refine dP hS 5 rfl rfl ?_
  (try simp only [Act.put, nA, nB, nC])
  first | refine dL1 hS 6 rfl rfl rfl rfl ?_ | refine dL2 hS 6 rfl rfl rfl rfl ?_ | refine dL3 hS 6 rfl rfl rfl ?_ | refine dL4 hS 6 rfl rfl rfl ?_ | refine dL5 hS 6 rfl rfl rfl ?_ | refine dL6 hS 6 rfl rfl rfl ?_ | refine dL7 hS 6 rfl rfl rfl ?_
  (try simp only [Act.put, nA, nB, nC])
  refine dP hS 7 rfl rfl ?_
  (try simp only [Act.put, nA, nB, nC])
  first | refine dL1 hS 8 rfl rfl rfl rfl ?_ | refine dL2 hS 8 rfl rfl rfl rfl ?_ | refine dL3 hS 8 rfl rfl rfl ?_ | refine dL4 hS 8 rfl rfl rfl ?_ | refine dL5 hS 8 rfl rfl rfl ?_ | refine dL6 hS 8 rfl rfl rfl ?_ | refine dL7 hS 8 rfl rfl rfl ?_
  (try simp only [Act.put, nA, nB, nC])
  refine dP hS 9 rfl rfl ?_
  (try simp only [Act.put, nA, nB, nC])
  first | refine dL1 hS 10 rfl rfl rfl rfl ?_ | refine dL2 hS 10 rfl rfl rfl rfl ?_ | refine dL3 hS 10 rfl rfl rfl ?_ | refine dL4 hS 10 rfl rfl rfl ?_ | refine dL5 hS 10 rfl rfl rfl ?_ | refine dL6 hS 10 rfl rfl rfl ?_ | refine dL7 hS 10 rfl rfl rfl ?_
  (try simp only [Act.put, nA, nB, nC])
  refine dP hS 11 rfl rfl ?_
  (try simp only [Act.put, nA, nB, nC])
  refine dP hS 12 rfl rfl ?_
  (try simp only [Act.put, nA, nB, nC])
  refine dr_one 13 (by kernel_rfl) rfl ?_
  ((first | refine sS1 hS rfl rfl rfl ?_ | refine sS2 hS rfl rfl rfl ?_ | refine sS3 hS rfl rfl rfl ?_ | refine sS4 hS rfl rfl rfl ?_ | refine sS5 hS rfl rfl rfl ?_); clear hS; intro w hS)
  (try simp only [Act.put, nA, nB, nC])
  refine dr_late (by kernel_rfl) ?_
  refine dr_done (by kernel_rfl) ?_
  go_wp2_with (first | (refine oL ?_; (first | refine sL1 hS rfl rfl rfl ?_ | refine sL2 hS rfl rfl rfl ?_ | refine sL3 hS rfl rfl ?_ | refine sL4 hS rfl rfl ?_ | refine sL5 hS rfl rfl ?_ | refine sL6 hS rfl rfl ?_ | refine sL7 hS rfl rfl ?_)) | ((first | (refine oB ?_; first | refine sB1 hS rfl rfl ?_ | refine sB2 hS rfl rfl ?_)); clear hS; first | ((fail_if_success guard_hyp g1); intro g1 w hS) | ((fail_if_success guard_hyp g2); intro g2 w hS) | fail) | fail)
  refine dr_start0 [11]  hS (by kernel_rfl) rfl ?_; clear hS; intro w hS
  refine dM hS 0 rfl rfl rfl ?_
  (try simp only [Act.put, nA, nB, nC])
  refine dP hS 1 rfl rfl ?_
  (try simp only [Act.put, nA, nB, nC])
  refine dP hS 2 rfl rfl ?_
  (try simp only [Act.put, nA, nB, nC])
  refine dP hS 3 rfl rfl ?_
  (try simp only [Act.put, nA, nB, nC])
  first | refine dL1 hS 4 rfl rfl rfl rfl ?_ | refine dL2 hS 4 rfl rfl rfl rfl ?_ | refine dL3 hS 4 rfl rfl rfl ?_ | refine dL4 hS 4 rfl rfl rfl ?_ | refine dL5 hS 4 rfl rfl rfl ?_ | refine dL6 hS 4 rfl rfl rfl ?_ | refine dL7 hS 4 rfl rfl rfl ?_
  (try simp only [Act.put, nA, nB, nC])
  refine dP hS 5 rfl rfl ?_
  (try simp only [Act.put, nA, nB, nC])
  first | refine dL1 hS 6 rfl rfl rfl rfl ?_ | refine dL2 hS 6 rfl rfl rfl rfl ?_ | refine dL3 hS 6 rfl rfl rfl ?_ | refine dL4 hS 6 rfl rfl rfl ?_ | refine dL5 hS 6 rfl rfl rfl ?_ | refine dL6 hS 6 rfl rfl rfl ?_ | refine dL7 hS 6 rfl rfl rfl ?_
  (try simp only [Act.put, nA, nB, nC])
  refine dP hS 7 rfl rfl ?_
  (try simp only [Act.put, nA, nB, nC])
  first | refine dL1 hS 8 rfl rfl rfl rfl ?_ | refine dL2 hS 8 rfl rfl rfl rfl ?_ | refine dL3 hS 8 rfl rfl rfl ?_ | refine dL4 hS 8 rfl rfl rfl ?_ | refine dL5 hS 8 rfl rfl rfl ?_ | refine dL6 hS 8 rfl rfl rfl ?_ | refine dL7 hS 8 rfl rfl rfl ?_
  (try simp only [Act.put, nA, nB, nC])
  refine dP hS 9 rfl rfl ?_
  (try simp only [Act.put, nA, nB, nC])
  refine dP hS 10 rfl rfl ?_
  (try simp only [Act.put, nA, nB, nC])
  refine dr_one 11 (by kernel_rfl) rfl ?_
  ((first | refine sS1 hS rfl rfl rfl ?_ | refine sS2 hS rfl rfl rfl ?_ | refine sS3 hS rfl rfl rfl ?_ | refine sS4 hS rfl rfl rfl ?_ | refine sS5 hS rfl rfl rfl ?_); clear hS; intro w hS)
  (try simp only [Act.put, nA, nB, nC])
  refine dr_late (by kernel_rfl) ?_
  refine dr_done (by kernel_rfl) ?_
  go_wp2_with (first | (refine oL ?_; (first | refine sL1 hS rfl rfl rfl ?_ | refine sL2 hS rfl rfl rfl ?_ | refine sL3 hS rfl rfl ?_ | refine sL4 hS rfl rfl ?_ | refine sL5 hS rfl rfl ?_ | refine sL6 hS rfl rfl ?_ | refine sL7 hS rfl rfl ?_)) | ((first | (refine oB ?_; first | refine sB1 hS rfl rfl ?_ | refine sB2 hS rfl rfl ?_)); clear hS; first | ((fail_if_success guard_hyp g1); intro g1 w hS) | ((fail_if_success guard_hyp g2); intro g2 w hS) | fail) | fail)
  (try simp only [IntWalk.i64_left] at hS)
  replace hS : St w0 M (blk gm [.slice (some ⟨gv, 0, none⟩) n kv, .slice (some ⟨gc, 0, none⟩) n kc, .slice (some ⟨gh, 0, none⟩) nn kh, .slice (some ⟨gk, 0, none⟩) n kk, .slice (some ⟨gd, 0, none⟩) n kd, .slice (some ⟨go, 0, none⟩) nn ko, .slice (some ⟨gr, 0, none⟩) nn kr] 99 :: row (.slice (some ⟨gh, 0, none⟩) nn kh) 63 1 nn hv :: froz T u :: row (.slice (some ⟨gv, 0, none⟩) n kv) 3 1 n (ints (s.vals.set p (wrap64 (vq - x)))) :: row (.slice (some ⟨gc, 0, none⟩) n kc) 3 1 n (ints (s.cnts.set p (cn + 1))) :: row (.slice (some ⟨gk, 0, none⟩) n kk) 3 1 n (ints s.cut) :: row (.slice (some ⟨gd, 0, none⟩) n kd) 3 1 n (ints s.saved) :: row (.slice (some ⟨go, 0, none⟩) nn ko) 4 1 nn (bools s.opn) :: row (.slice (some ⟨gr, 0, none⟩) nn kr) 24 1 nn rv :: blk g1 [.int .i64 kd', .int .i64 (p : Int), .int .i64 (q : Int), .int .i64 x] 62 :: cs) w := hS.re
  refine (push_st gm p q n nn gh kh _ _ _ _ _ _ _ _ _ _ _ _ hv B cb ll false x hS hn5 hp hq hkn hnn25 HH.out.2.2.2 HH.out.2.1 hcb hcb' HH.out.2.2.1 (by omega)).mono ?_
  rintro e w2 ⟨rfl, T2, vk, hS2, hi2, hc2⟩
  replace hS := hS2
  clear hS2
  go_wp2_with (first | (refine oL ?_; (first | refine sL1 hS rfl rfl rfl ?_ | refine sL2 hS rfl rfl rfl ?_ | refine sL3 hS rfl rfl ?_ | refine sL4 hS rfl rfl ?_ | refine sL5 hS rfl rfl ?_ | refine sL6 hS rfl rfl ?_ | refine sL7 hS rfl rfl ?_)) | ((first | (refine oB ?_; first | refine sB1 hS rfl rfl ?_ | refine sB2 hS rfl rfl ?_)); clear hS; first | ((fail_if_success guard_hyp g1); intro g1 w hS) | ((fail_if_success guard_hyp g2); intro g2 w hS) | fail) | fail)
  go_end0
  exact ⟨rfl, T2, w2, hv.set (p * n + q) vk, hS.re, hi2, (HH.out.1.mono (ChV.into hi2)).set _ hc2⟩
set_option maxRecDepth 100000 in
set_option maxHeartbeats 6400000 in
theorem deliver_st {w0 w u : World} {M T : Nat → Prop} {cs : List (Chunk w0 M)} (gm gv gc gh gk gd go gr kv kc kh kk kd ko kr n nn b : Nat) (s : Snp) (hv rv : List Value) (p q : Nat) (xv kd' : Int) (mk : Bool) (l : List Pcl) (val : Int) (hS : St w0 M (blk gm [.slice (some ⟨gv, 0, none⟩) n kv, .slice (some ⟨gc, 0, none⟩) n kc, .slice (some ⟨gh, 0, none⟩) nn kh, .slice (some ⟨gk, 0, none⟩) n kk, .slice (some ⟨gd, 0, none⟩) n kd, .slice (some ⟨go, 0, none⟩) nn ko, .slice (some ⟨gr, 0, none⟩) nn kr] 99 :: row (.slice (some ⟨gh, 0, none⟩) nn kh) 63 1 nn hv :: froz T u :: row (.slice (some ⟨gv, 0, none⟩) n kv) 3 1 n (ints s.vals) :: row (.slice (some ⟨gc, 0, none⟩) n kc) 3 1 n (ints s.cnts) :: row (.slice (some ⟨gk, 0, none⟩) n kk) 3 1 n (ints s.cut) :: row (.slice (some ⟨gd, 0, none⟩) n kd) 3 1 n (ints s.saved) :: row (.slice (some ⟨go, 0, none⟩) nn ko) 4 1 nn (bools s.opn) :: row (.slice (some ⟨gr, 0, none⟩) nn kr) 24 1 nn rv :: cs) w) (hok : SnOk n b s) (hnn : n * n = nn) (hb : b ≤ 10000) (hh : Rw2 (ChV T u) hv s.chs) (hr : Rw2 (ReV T u) rv s.recs) (hp : p < n) (hq : q < n) (hx : chOf s.chs (p * n + q) = (mk, xv) :: l) :
    Calls Try.prog 59 #[.pointer (some ⟨gm, 0, none⟩), .agg #[.int .i64 kd', .int .i64 (p : Int), .int .i64 (q : Int), .int .i64 val]] w fun e w' => e = .returned (.tuple #[]) ∧ ∃ T' u' hv' rv', St w0 M (blk gm [.slice (some ⟨gv, 0, none⟩) n kv, .slice (some ⟨gc, 0, none⟩) n kc, .slice (some ⟨gh, 0, none⟩) nn kh, .slice (some ⟨gk, 0, none⟩) n kk, .slice (some ⟨gd, 0, none⟩) n kd, .slice (some ⟨go, 0, none⟩) nn ko, .slice (some ⟨gr, 0, none⟩) nn kr] 99 :: row (.slice (some ⟨gh, 0, none⟩) nn kh) 63 1 nn hv' :: froz T' u' :: row (.slice (some ⟨gv, 0, none⟩) n kv) 3 1 n (ints (dlvS s (p * n + q) q mk xv).vals) :: row (.slice (some ⟨gc, 0, none⟩) n kc) 3 1 n (ints (dlvS s (p * n + q) q mk xv).cnts) :: row (.slice (some ⟨gk, 0, none⟩) n kk) 3 1 n (ints (dlvS s (p * n + q) q mk xv).cut) :: row (.slice (some ⟨gd, 0, none⟩) n kd) 3 1 n (ints (dlvS s (p * n + q) q mk xv).saved) :: row (.slice (some ⟨go, 0, none⟩) nn ko) 4 1 nn (bools (dlvS s (p * n + q) q mk xv).opn) :: row (.slice (some ⟨gr, 0, none⟩) nn kr) 24 1 nn rv' :: cs) w' ∧ Rw2 (ChV T' u') hv' (dlvS s (p * n + q) q mk xv).chs ∧ Rw2 (ReV T' u') rv' (dlvS s (p * n + q) q mk xv).recs ∧ Into T T' u u' := by
  have hn5 := hok.n5
  have hnn25 : nn ≤ 25 := by rw [← hnn]; exact Nat.mul_le_mul hn5 hn5
  have hkn : p * n + q < nn := by rw [← hnn]; exact ch_lt hp hq
  have hlh : s.chs.length = nn := by rw [hok.lh]; exact hnn
  have hlb := hok.hbk (k := p * n + q) (by rw [hnn]; exact hkn)
  have hvl : hv.length = nn := by rw [hh.n]; exact hlh
  obtain ⟨B, cb, hvk, hcb, hcb', hB⟩ := hh.atCh (k := p * n + q) (by rw [hlh]; exact hkn)
  rw [hx] at hvk hcb hB hlb
  obtain ⟨b3, o3, rfl, ht3, hc3⟩ := pcs_cells hB (j := 0) (by simp)
  simp only [List.getElem_cons_zero, Nat.zero_mul, Nat.add_zero] at hc3
  have hfc : FCs T u b3 o3 [.bool mk, .int .i64 xv] := ⟨ht3, hc3⟩
  simp only [List.length_cons] at hvk hcb hlb
  have hlo : p * n + q < (bools s.opn).length := by rw [bools_len, hok.lo, hnn]; exact hkn
  have hcho := bools_get (l := s.opn) (k := p * n + q) (by rw [hok.lo, hnn]; exact hkn)
  have HH := Lib.hid (And.intro hh (And.intro hok (And.intro hnn (And.intro hr (And.intro hx (tail_ch hB (by omega) hcb'))))))
  have HPQ := Lib.hid (And.intro hp hq)
  have hq' : (q : Int) < n := by omega
  have hqv : q < s.vals.length := by rw [hok.lv]; exact hq
  have hqc : q < s.cnts.length := by rw [hok.lc]; exact hq
  have hcv := ints_at hqv
  have hcc := ints_at hqc
  have hcb0 := hok.cb q hq
  have hrl : rv.length = nn := by rw [hr.n, hok.lr]; exact hnn
  obtain ⟨R, rb, hrk, hrb, hrb', hR⟩ := hr.atRe (k := p * n + q) (by rw [hok.lr, hnn]; exact hkn)
  have hrlb := hok.rbk (k := p * n + q) (by rw [hnn]; exact hkn)
  have HR := Lib.hid hR
  have hRn : R = none → (rowOf s.recs (p * n + q)).length = 0 := fun h => by
    subst h
    have h1 := RV.none_len hR
    have h4 : (ints (rowOf s.recs (p * n + q))).length = (rowOf s.recs (p * n + q)).length := by simp
    rw [h1] at h4; exact h4.symm
  clear hok hh hnn hr hx hB hR ht3 hc3 hlh
  obtain ⟨kx, hkx⟩ : ∃ k, p * n + q = k := ⟨_, rfl⟩
  have HK := Lib.hid hkx
  rw [hkx] at hkn hvk hlo hcho hrk hrb hrlb hRn HR HH ⊢
  clear hkx
  have hkn' : (kx : Int) < nn := by omega
  have hkv : kx < hv.length := by omega
  have h1l : (0 : Int) < (l.length : Int) + 1 := by omega
  have hl1 : 1 ≤ l.length + 1 := by omega
  have hvset : (hv.set kx (.slice (tailA b3 o3 cb 2) (l.length + 1 - 1) (cb - 1))).length = nn := by simp [hvl]
  go_enter Try.func59, Try.ntmps59
  go_upto_region 3 with (first | (go_at_call 82; refine (chan_any gm p q n kv _ _ (hS.cellB rfl) hn5 HPQ.out.1 HPQ.out.2).mono ?_; rw [HK.out]; rintro e w ⟨rfl, hx1⟩; replace hS := hS.ext hx1) | (refine oL ?_; (first | refine sL1 hS rfl rfl rfl ?_ | refine sL2 hS rfl rfl rfl ?_ | refine sL3 hS rfl rfl ?_ | refine sL4 hS rfl rfl ?_ | refine sL5 hS rfl rfl ?_ | refine sL6 hS rfl rfl ?_ | refine sL7 hS rfl rfl ?_)) | (refine oS ?_; ((first | refine sS1 hS rfl rfl rfl ?_ | refine sS2 hS rfl rfl rfl ?_ | refine sS3 hS rfl rfl rfl ?_ | refine sS4 hS rfl rfl rfl ?_ | refine sS5 hS rfl rfl rfl ?_); clear hS; intro w hS)) | ((first | (refine oB ?_; first | refine sB1 hS rfl rfl ?_ | refine sB2 hS rfl rfl ?_) | refine sN1 hS rfl ?_); clear hS; first | ((fail_if_success guard_hyp g1); intro g1 w hS) | ((fail_if_success guard_hyp g2); intro g2 w hS) | ((fail_if_success guard_hyp g3); intro g3 w hS) | ((fail_if_success guard_hyp g4); intro g4 w hS) | fail) | fail)
  refine dr_start0 [16]  hS (by kernel_rfl) rfl ?_; clear hS; intro w hS
  refine dM hS 0 rfl rfl rfl ?_
  (try simp only [Act.put, nA, nB, nC])
  refine dP hS 1 rfl rfl ?_
  (try simp only [Act.put, nA, nB, nC])
  refine dP hS 2 rfl rfl ?_
  (try simp only [Act.put, nA, nB, nC])
  refine dP hS 3 rfl rfl ?_
  (try simp only [Act.put, nA, nB, nC])
  first | refine dL1 hS 4 rfl rfl rfl rfl ?_ | refine dL2 hS 4 rfl rfl rfl rfl ?_ | refine dL3 hS 4 rfl rfl rfl ?_ | refine dL4 hS 4 rfl rfl rfl ?_ | refine dL5 hS 4 rfl rfl rfl ?_ | refine dL6 hS 4 rfl rfl rfl ?_ | refine dL7 hS 4 rfl rfl rfl ?_
  (try simp only [Act.put, nA, nB, nC])
  refine dM hS 5 rfl rfl rfl ?_
  (try simp only [Act.put, nA, nB, nC])
  refine dM hS 6 rfl rfl rfl ?_
  (try simp only [Act.put, nA, nB, nC])
  refine dP hS 7 rfl rfl ?_
  (try simp only [Act.put, nA, nB, nC])
  refine dP hS 8 rfl rfl ?_
  (try simp only [Act.put, nA, nB, nC])
  refine dP hS 9 rfl rfl ?_
  (try simp only [Act.put, nA, nB, nC])
  first | refine dL1 hS 10 rfl rfl rfl rfl ?_ | refine dL2 hS 10 rfl rfl rfl rfl ?_ | refine dL3 hS 10 rfl rfl rfl ?_ | refine dL4 hS 10 rfl rfl rfl ?_ | refine dL5 hS 10 rfl rfl rfl ?_ | refine dL6 hS 10 rfl rfl rfl ?_ | refine dL7 hS 10 rfl rfl rfl ?_
  (try simp only [Act.put, nA, nB, nC])
  refine dM hS 11 rfl rfl rfl ?_
  (try simp only [Act.put, nA, nB, nC])
  refine dP hS 12 rfl rfl ?_
  (try simp only [Act.put, nA, nB, nC])
  first | refine dL1 hS 13 rfl rfl rfl rfl ?_ | refine dL2 hS 13 rfl rfl rfl rfl ?_ | refine dL3 hS 13 rfl rfl rfl ?_ | refine dL4 hS 13 rfl rfl rfl ?_ | refine dL5 hS 13 rfl rfl rfl ?_ | refine dL6 hS 13 rfl rfl rfl ?_ | refine dL7 hS 13 rfl rfl rfl ?_
  (try simp only [Act.put, nA, nB, nC])
  first | refine dT (sz := 2) Try.underlying63 (by kernel_rfl) hl1 hcb hS 14 rfl rfl rfl rfl ?_ | refine dP hS 14 rfl rfl ?_
  (try simp only [Act.put, nA, nB, nC])
  refine dP hS 15 rfl rfl ?_
  (try simp only [Act.put, nA, nB, nC])
  refine dr_one 16 (by kernel_rfl) rfl ?_
  ((first | refine sS1 hS rfl rfl rfl ?_ | refine sS2 hS rfl rfl rfl ?_ | refine sS3 hS rfl rfl rfl ?_ | refine sS4 hS rfl rfl rfl ?_ | refine sS5 hS rfl rfl rfl ?_); clear hS; intro w hS)
  (try simp only [Act.put, nA, nB, nC])
  refine dr_late (by kernel_rfl) ?_
  refine dr_done (by kernel_rfl) ?_
  cases mk with
  | true =>
    go_wp2_with (first | (refine oL ?_; (first | refine sL1 hS rfl rfl rfl ?_ | refine sL2 hS rfl rfl rfl ?_ | refine sL3 hS rfl rfl ?_ | refine sL4 hS rfl rfl ?_ | refine sL5 hS rfl rfl ?_ | refine sL6 hS rfl rfl ?_ | refine sL7 hS rfl rfl ?_)) | (refine oS ?_; ((first | refine sS1 hS rfl rfl rfl ?_ | refine sS2 hS rfl rfl rfl ?_ | refine sS3 hS rfl rfl rfl ?_ | refine sS4 hS rfl rfl rfl ?_ | refine sS5 hS rfl rfl rfl ?_); clear hS; intro w hS)) | ((first | (refine oB ?_; first | refine sB1 hS rfl rfl ?_ | refine sB2 hS rfl rfl ?_) | refine sN1 hS rfl ?_); clear hS; first | ((fail_if_success guard_hyp g1); intro g1 w hS) | ((fail_if_success guard_hyp g2); intro g2 w hS) | ((fail_if_success guard_hyp g3); intro g3 w hS) | ((fail_if_success guard_hyp g4); intro g4 w hS) | fail) | fail)
    replace hS : St w0 M (blk gm [.slice (some ⟨gv, 0, none⟩) n kv, .slice (some ⟨gc, 0, none⟩) n kc, .slice (some ⟨gh, 0, none⟩) nn kh, .slice (some ⟨gk, 0, none⟩) n kk, .slice (some ⟨gd, 0, none⟩) n kd, .slice (some ⟨go, 0, none⟩) nn ko, .slice (some ⟨gr, 0, none⟩) nn kr] 99 :: row (.slice (some ⟨gh, 0, none⟩) nn kh) 63 1 nn (hv.set kx (.slice (tailA b3 o3 cb 2) (l.length + 1 - 1) (cb - 1))) :: froz T u :: row (.slice (some ⟨gv, 0, none⟩) n kv) 3 1 n (ints s.vals) :: row (.slice (some ⟨gc, 0, none⟩) n kc) 3 1 n (ints s.cnts) :: row (.slice (some ⟨gk, 0, none⟩) n kk) 3 1 n (ints s.cut) :: row (.slice (some ⟨gd, 0, none⟩) n kd) 3 1 n (ints s.saved) :: row (.slice (some ⟨go, 0, none⟩) nn ko) 4 1 nn (bools s.opn) :: row (.slice (some ⟨gr, 0, none⟩) nn kr) 24 1 nn rv :: blk g2 [.bool true, .int .i64 xv] 65 :: blk g1 [.int .i64 kd', .int .i64 (p : Int), .int .i64 (q : Int), .int .i64 val] 62 :: cs) w := hS.re
    refine (record_st gm gv gc gh gk gd go gr kv kc kh kk kd ko kr n nn b (popS s kx) (hv.set kx (.slice (tailA b3 o3 cb 2) (l.length + 1 - 1) (cb - 1))) rv q hS (popS_ok HH.out.2.1 (by rw [HH.out.2.2.1]; exact hkn)) HH.out.2.2.1 hb (by have h5 := HH.out.1.set kx HH.out.2.2.2.2.2; simp only [popS, HH.out.2.2.2.2.1, List.tail_cons]; exact h5) HPQ.out.2).mono ?_
    rintro e w2 ⟨rfl, T2, u2, hv2, hS2, hi2, hc2⟩
    replace hS := hS2
    clear hS2
    have hro2 : kx < (bools (recS (popS s kx) q).opn).length := by rw [bools_len, (recS_ok (popS_ok HH.out.2.1 (by rw [HH.out.2.2.1]; exact hkn)) HPQ.out.2).lo, HH.out.2.2.1]; exact hkn
    have HRR := Lib.hid (show (recS (popS s kx) q).recs = s.recs by by_cases hz : nth s.cut q < 0 <;> simp [recS, popS, recR, hz])
    generalize hs2 : recS (popS s kx) q = s2 at *
    have HS2 := Lib.hid hs2
    clear hs2
    go_wp2_with (first | (refine oS ?_; refine st_str hS rfl rfl rfl rfl hro2 ?_; clear hS; intro w hS) | (refine oL ?_; (first | refine sL1 hS rfl rfl rfl ?_ | refine sL2 hS rfl rfl rfl ?_ | refine sL3 hS rfl rfl ?_ | refine sL4 hS rfl rfl ?_ | refine sL5 hS rfl rfl ?_ | refine sL6 hS rfl rfl ?_ | refine sL7 hS rfl rfl ?_)) | (refine oS ?_; ((first | refine sS1 hS rfl rfl rfl ?_ | refine sS2 hS rfl rfl rfl ?_ | refine sS3 hS rfl rfl rfl ?_ | refine sS4 hS rfl rfl rfl ?_ | refine sS5 hS rfl rfl rfl ?_); clear hS; intro w hS)) | ((first | (refine oB ?_; first | refine sB1 hS rfl rfl ?_ | refine sB2 hS rfl rfl ?_) | refine sN1 hS rfl ?_); clear hS; first | ((fail_if_success guard_hyp g1); intro g1 w hS) | ((fail_if_success guard_hyp g2); intro g2 w hS) | ((fail_if_success guard_hyp g3); intro g3 w hS) | ((fail_if_success guard_hyp g4); intro g4 w hS) | fail) | fail)
    first | go_end0 | refine bodyPost_ret (results_none rfl _ _ _) rfl ?_
    have e1 : dlvS s kx q true xv = { s2 with opn := s2.opn.set kx false } := by simp only [dlvS, if_true, markS, HS2.out]
    rw [e1]
    simp only
    rw [← bools_set]
    exact ⟨by first | rfl | trivial, T2, u2, hv2, rv, hS.re, hc2, by rw [HRR.out]; exact HH.out.2.2.2.1.mono (ReV.into hi2), hi2⟩
  | false =>
    generalize hvq : nth s.vals q = vq at *
    generalize hcn : nth s.cnts q = cn at *
    cases hop : opOf s.opn kx with
    | false =>
      rw [hop] at hcho
      have e1 : dlvS s kx q false xv = { popS s kx with vals := s.vals.set q (wrap64 (vq + xv)), cnts := s.cnts.set q (cn + 1) } := by simp [dlvS, takeS, hop, hvq, hcn, popS]
      have HE := Lib.hid e1
      clear e1 hop hvq hcn
      go_wp2_with (first | (refine oL ?_; (first | refine sL1 hS rfl rfl rfl ?_ | refine sL2 hS rfl rfl rfl ?_ | refine sL3 hS rfl rfl ?_ | refine sL4 hS rfl rfl ?_ | refine sL5 hS rfl rfl ?_ | refine sL6 hS rfl rfl ?_ | refine sL7 hS rfl rfl ?_)) | (refine oS ?_; ((first | refine sS1 hS rfl rfl rfl ?_ | refine sS2 hS rfl rfl rfl ?_ | refine sS3 hS rfl rfl rfl ?_ | refine sS4 hS rfl rfl rfl ?_ | refine sS5 hS rfl rfl rfl ?_); clear hS; intro w hS)) | ((first | (refine oB ?_; first | refine sB1 hS rfl rfl ?_ | refine sB2 hS rfl rfl ?_) | refine sN1 hS rfl ?_); clear hS; first | ((fail_if_success guard_hyp g1); intro g1 w hS) | ((fail_if_success guard_hyp g2); intro g2 w hS) | ((fail_if_success guard_hyp g3); intro g3 w hS) | ((fail_if_success guard_hyp g4); intro g4 w hS) | fail) | fail)
      refine dr_start0 [13]  hS (by kernel_rfl) rfl ?_; clear hS; intro w hS
      refine dM hS 0 rfl rfl rfl ?_
      (try simp only [Act.put, nA, nB, nC])
      refine dP hS 1 rfl rfl ?_
      (try simp only [Act.put, nA, nB, nC])
      refine dP hS 2 rfl rfl ?_
      (try simp only [Act.put, nA, nB, nC])
      refine dP hS 3 rfl rfl ?_
      (try simp only [Act.put, nA, nB, nC])
      first | refine dL1 hS 4 rfl rfl rfl rfl ?_ | refine dL2 hS 4 rfl rfl rfl rfl ?_ | refine dL3 hS 4 rfl rfl rfl ?_ | refine dL4 hS 4 rfl rfl rfl ?_ | refine dL5 hS 4 rfl rfl rfl ?_ | refine dL6 hS 4 rfl rfl rfl ?_ | refine dL7 hS 4 rfl rfl rfl ?_
      (try simp only [Act.put, nA, nB, nC])
      refine dP hS 5 rfl rfl ?_
      (try simp only [Act.put, nA, nB, nC])
      first | refine dL1 hS 6 rfl rfl rfl rfl ?_ | refine dL2 hS 6 rfl rfl rfl rfl ?_ | refine dL3 hS 6 rfl rfl rfl ?_ | refine dL4 hS 6 rfl rfl rfl ?_ | refine dL5 hS 6 rfl rfl rfl ?_ | refine dL6 hS 6 rfl rfl rfl ?_ | refine dL7 hS 6 rfl rfl rfl ?_
      (try simp only [Act.put, nA, nB, nC])
      refine dP hS 7 rfl rfl ?_
      (try simp only [Act.put, nA, nB, nC])
      first | refine dL1 hS 8 rfl rfl rfl rfl ?_ | refine dL2 hS 8 rfl rfl rfl rfl ?_ | refine dL3 hS 8 rfl rfl rfl ?_ | refine dL4 hS 8 rfl rfl rfl ?_ | refine dL5 hS 8 rfl rfl rfl ?_ | refine dL6 hS 8 rfl rfl rfl ?_ | refine dL7 hS 8 rfl rfl rfl ?_
      (try simp only [Act.put, nA, nB, nC])
      refine dP hS 9 rfl rfl ?_
      (try simp only [Act.put, nA, nB, nC])
      first | refine dL1 hS 10 rfl rfl rfl rfl ?_ | refine dL2 hS 10 rfl rfl rfl rfl ?_ | refine dL3 hS 10 rfl rfl rfl ?_ | refine dL4 hS 10 rfl rfl rfl ?_ | refine dL5 hS 10 rfl rfl rfl ?_ | refine dL6 hS 10 rfl rfl rfl ?_ | refine dL7 hS 10 rfl rfl rfl ?_
      (try simp only [Act.put, nA, nB, nC])
      refine dP hS 11 rfl rfl ?_
      (try simp only [Act.put, nA, nB, nC])
      refine dP hS 12 rfl rfl ?_
      (try simp only [Act.put, nA, nB, nC])
      refine dr_one 13 (by kernel_rfl) rfl ?_
      ((first | refine sS1 hS rfl rfl rfl ?_ | refine sS2 hS rfl rfl rfl ?_ | refine sS3 hS rfl rfl rfl ?_ | refine sS4 hS rfl rfl rfl ?_ | refine sS5 hS rfl rfl rfl ?_); clear hS; intro w hS)
      (try simp only [Act.put, nA, nB, nC])
      refine dr_late (by kernel_rfl) ?_
      refine dr_done (by kernel_rfl) ?_
      go_wp2_with (first | (refine oL ?_; (first | refine sL1 hS rfl rfl rfl ?_ | refine sL2 hS rfl rfl rfl ?_ | refine sL3 hS rfl rfl ?_ | refine sL4 hS rfl rfl ?_ | refine sL5 hS rfl rfl ?_ | refine sL6 hS rfl rfl ?_ | refine sL7 hS rfl rfl ?_)) | (refine oS ?_; ((first | refine sS1 hS rfl rfl rfl ?_ | refine sS2 hS rfl rfl rfl ?_ | refine sS3 hS rfl rfl rfl ?_ | refine sS4 hS rfl rfl rfl ?_ | refine sS5 hS rfl rfl rfl ?_); clear hS; intro w hS)) | ((first | (refine oB ?_; first | refine sB1 hS rfl rfl ?_ | refine sB2 hS rfl rfl ?_) | refine sN1 hS rfl ?_); clear hS; first | ((fail_if_success guard_hyp g1); intro g1 w hS) | ((fail_if_success guard_hyp g2); intro g2 w hS) | ((fail_if_success guard_hyp g3); intro g3 w hS) | ((fail_if_success guard_hyp g4); intro g4 w hS) | fail) | fail)
      refine dr_start0 [11]  hS (by kernel_rfl) rfl ?_; clear hS; intro w hS
      refine dM hS 0 rfl rfl rfl ?_
      (try simp only [Act.put, nA, nB, nC])
      refine dP hS 1 rfl rfl ?_
      (try simp only [Act.put, nA, nB, nC])
      refine dP hS 2 rfl rfl ?_
      (try simp only [Act.put, nA, nB, nC])
      refine dP hS 3 rfl rfl ?_
      (try simp only [Act.put, nA, nB, nC])
      first | refine dL1 hS 4 rfl rfl rfl rfl ?_ | refine dL2 hS 4 rfl rfl rfl rfl ?_ | refine dL3 hS 4 rfl rfl rfl ?_ | refine dL4 hS 4 rfl rfl rfl ?_ | refine dL5 hS 4 rfl rfl rfl ?_ | refine dL6 hS 4 rfl rfl rfl ?_ | refine dL7 hS 4 rfl rfl rfl ?_
      (try simp only [Act.put, nA, nB, nC])
      refine dP hS 5 rfl rfl ?_
      (try simp only [Act.put, nA, nB, nC])
      first | refine dL1 hS 6 rfl rfl rfl rfl ?_ | refine dL2 hS 6 rfl rfl rfl rfl ?_ | refine dL3 hS 6 rfl rfl rfl ?_ | refine dL4 hS 6 rfl rfl rfl ?_ | refine dL5 hS 6 rfl rfl rfl ?_ | refine dL6 hS 6 rfl rfl rfl ?_ | refine dL7 hS 6 rfl rfl rfl ?_
      (try simp only [Act.put, nA, nB, nC])
      refine dP hS 7 rfl rfl ?_
      (try simp only [Act.put, nA, nB, nC])
      first | refine dL1 hS 8 rfl rfl rfl rfl ?_ | refine dL2 hS 8 rfl rfl rfl rfl ?_ | refine dL3 hS 8 rfl rfl rfl ?_ | refine dL4 hS 8 rfl rfl rfl ?_ | refine dL5 hS 8 rfl rfl rfl ?_ | refine dL6 hS 8 rfl rfl rfl ?_ | refine dL7 hS 8 rfl rfl rfl ?_
      (try simp only [Act.put, nA, nB, nC])
      refine dP hS 9 rfl rfl ?_
      (try simp only [Act.put, nA, nB, nC])
      refine dP hS 10 rfl rfl ?_
      (try simp only [Act.put, nA, nB, nC])
      refine dr_one 11 (by kernel_rfl) rfl ?_
      ((first | refine sS1 hS rfl rfl rfl ?_ | refine sS2 hS rfl rfl rfl ?_ | refine sS3 hS rfl rfl rfl ?_ | refine sS4 hS rfl rfl rfl ?_ | refine sS5 hS rfl rfl rfl ?_); clear hS; intro w hS)
      (try simp only [Act.put, nA, nB, nC])
      refine dr_late (by kernel_rfl) ?_
      refine dr_done (by kernel_rfl) ?_
      go_wp2_with (first | (refine oL ?_; (first | refine sL1 hS rfl rfl rfl ?_ | refine sL2 hS rfl rfl rfl ?_ | refine sL3 hS rfl rfl ?_ | refine sL4 hS rfl rfl ?_ | refine sL5 hS rfl rfl ?_ | refine sL6 hS rfl rfl ?_ | refine sL7 hS rfl rfl ?_)) | (refine oS ?_; ((first | refine sS1 hS rfl rfl rfl ?_ | refine sS2 hS rfl rfl rfl ?_ | refine sS3 hS rfl rfl rfl ?_ | refine sS4 hS rfl rfl rfl ?_ | refine sS5 hS rfl rfl rfl ?_); clear hS; intro w hS)) | ((first | (refine oB ?_; first | refine sB1 hS rfl rfl ?_ | refine sB2 hS rfl rfl ?_) | refine sN1 hS rfl ?_); clear hS; first | ((fail_if_success guard_hyp g1); intro g1 w hS) | ((fail_if_success guard_hyp g2); intro g2 w hS) | ((fail_if_success guard_hyp g3); intro g3 w hS) | ((fail_if_success guard_hyp g4); intro g4 w hS) | fail) | fail)
      first | go_end0 | refine bodyPost_ret (results_none rfl _ _ _) rfl ?_
      (try simp only [IntWalk.i64_left] at hS)
      rw [HE.out]
      simp only [popS, HH.out.2.2.2.2.1, List.tail_cons]
      exact ⟨by first | rfl | trivial, T, u, _, rv, hS.re, HH.out.1.set kx HH.out.2.2.2.2.2, HH.out.2.2.2.1, Into.self _ _⟩
    | true =>
      rw [hop] at hcho
      have e1 : dlvS s kx q false xv = { popS s kx with vals := s.vals.set q (wrap64 (vq + xv)), cnts := s.cnts.set q (cn + 1), recs := s.recs.set kx (rowOf s.recs kx ++ [xv]) } := by simp [dlvS, takeS, hop, hvq, hcn, popS]
      have HE := Lib.hid e1
      clear e1 hop hvq hcn
      generalize hrr : rowOf s.recs kx = rr at *
      clear hrr
      have hrv2 : kx < rv.length := by omega
      go_wp2_with (first | (refine oL ?_; (first | refine sL1 hS rfl rfl rfl ?_ | refine sL2 hS rfl rfl rfl ?_ | refine sL3 hS rfl rfl ?_ | refine sL4 hS rfl rfl ?_ | refine sL5 hS rfl rfl ?_ | refine sL6 hS rfl rfl ?_ | refine sL7 hS rfl rfl ?_)) | (refine oS ?_; ((first | refine sS1 hS rfl rfl rfl ?_ | refine sS2 hS rfl rfl rfl ?_ | refine sS3 hS rfl rfl rfl ?_ | refine sS4 hS rfl rfl rfl ?_ | refine sS5 hS rfl rfl rfl ?_); clear hS; intro w hS)) | ((first | (refine oB ?_; first | refine sB1 hS rfl rfl ?_ | refine sB2 hS rfl rfl ?_) | refine sN1 hS rfl ?_); clear hS; first | ((fail_if_success guard_hyp g1); intro g1 w hS) | ((fail_if_success guard_hyp g2); intro g2 w hS) | ((fail_if_success guard_hyp g3); intro g3 w hS) | ((fail_if_success guard_hyp g4); intro g4 w hS) | fail) | fail)
      refine dr_start0 [13]  hS (by kernel_rfl) rfl ?_; clear hS; intro w hS
      refine dM hS 0 rfl rfl rfl ?_
      (try simp only [Act.put, nA, nB, nC])
      refine dP hS 1 rfl rfl ?_
      (try simp only [Act.put, nA, nB, nC])
      refine dP hS 2 rfl rfl ?_
      (try simp only [Act.put, nA, nB, nC])
      refine dP hS 3 rfl rfl ?_
      (try simp only [Act.put, nA, nB, nC])
      first | refine dL1 hS 4 rfl rfl rfl rfl ?_ | refine dL2 hS 4 rfl rfl rfl rfl ?_ | refine dL3 hS 4 rfl rfl rfl ?_ | refine dL4 hS 4 rfl rfl rfl ?_ | refine dL5 hS 4 rfl rfl rfl ?_ | refine dL6 hS 4 rfl rfl rfl ?_ | refine dL7 hS 4 rfl rfl rfl ?_
      (try simp only [Act.put, nA, nB, nC])
      refine dP hS 5 rfl rfl ?_
      (try simp only [Act.put, nA, nB, nC])
      first | refine dL1 hS 6 rfl rfl rfl rfl ?_ | refine dL2 hS 6 rfl rfl rfl rfl ?_ | refine dL3 hS 6 rfl rfl rfl ?_ | refine dL4 hS 6 rfl rfl rfl ?_ | refine dL5 hS 6 rfl rfl rfl ?_ | refine dL6 hS 6 rfl rfl rfl ?_ | refine dL7 hS 6 rfl rfl rfl ?_
      (try simp only [Act.put, nA, nB, nC])
      refine dP hS 7 rfl rfl ?_
      (try simp only [Act.put, nA, nB, nC])
      first | refine dL1 hS 8 rfl rfl rfl rfl ?_ | refine dL2 hS 8 rfl rfl rfl rfl ?_ | refine dL3 hS 8 rfl rfl rfl ?_ | refine dL4 hS 8 rfl rfl rfl ?_ | refine dL5 hS 8 rfl rfl rfl ?_ | refine dL6 hS 8 rfl rfl rfl ?_ | refine dL7 hS 8 rfl rfl rfl ?_
      (try simp only [Act.put, nA, nB, nC])
      refine dP hS 9 rfl rfl ?_
      (try simp only [Act.put, nA, nB, nC])
      first | refine dL1 hS 10 rfl rfl rfl rfl ?_ | refine dL2 hS 10 rfl rfl rfl rfl ?_ | refine dL3 hS 10 rfl rfl rfl ?_ | refine dL4 hS 10 rfl rfl rfl ?_ | refine dL5 hS 10 rfl rfl rfl ?_ | refine dL6 hS 10 rfl rfl rfl ?_ | refine dL7 hS 10 rfl rfl rfl ?_
      (try simp only [Act.put, nA, nB, nC])
      refine dP hS 11 rfl rfl ?_
      (try simp only [Act.put, nA, nB, nC])
      refine dP hS 12 rfl rfl ?_
      (try simp only [Act.put, nA, nB, nC])
      refine dr_one 13 (by kernel_rfl) rfl ?_
      ((first | refine sS1 hS rfl rfl rfl ?_ | refine sS2 hS rfl rfl rfl ?_ | refine sS3 hS rfl rfl rfl ?_ | refine sS4 hS rfl rfl rfl ?_ | refine sS5 hS rfl rfl rfl ?_); clear hS; intro w hS)
      (try simp only [Act.put, nA, nB, nC])
      refine dr_late (by kernel_rfl) ?_
      refine dr_done (by kernel_rfl) ?_
      go_wp2_with (first | (refine oL ?_; (first | refine sL1 hS rfl rfl rfl ?_ | refine sL2 hS rfl rfl rfl ?_ | refine sL3 hS rfl rfl ?_ | refine sL4 hS rfl rfl ?_ | refine sL5 hS rfl rfl ?_ | refine sL6 hS rfl rfl ?_ | refine sL7 hS rfl rfl ?_)) | (refine oS ?_; ((first | refine sS1 hS rfl rfl rfl ?_ | refine sS2 hS rfl rfl rfl ?_ | refine sS3 hS rfl rfl rfl ?_ | refine sS4 hS rfl rfl rfl ?_ | refine sS5 hS rfl rfl rfl ?_); clear hS; intro w hS)) | ((first | (refine oB ?_; first | refine sB1 hS rfl rfl ?_ | refine sB2 hS rfl rfl ?_) | refine sN1 hS rfl ?_); clear hS; first | ((fail_if_success guard_hyp g1); intro g1 w hS) | ((fail_if_success guard_hyp g2); intro g2 w hS) | ((fail_if_success guard_hyp g3); intro g3 w hS) | ((fail_if_success guard_hyp g4); intro g4 w hS) | fail) | fail)
      refine dr_start0 [11]  hS (by kernel_rfl) rfl ?_; clear hS; intro w hS
      refine dM hS 0 rfl rfl rfl ?_
      (try simp only [Act.put, nA, nB, nC])
      refine dP hS 1 rfl rfl ?_
      (try simp only [Act.put, nA, nB, nC])
      refine dP hS 2 rfl rfl ?_
      (try simp only [Act.put, nA, nB, nC])
      refine dP hS 3 rfl rfl ?_
      (try simp only [Act.put, nA, nB, nC])
      first | refine dL1 hS 4 rfl rfl rfl rfl ?_ | refine dL2 hS 4 rfl rfl rfl rfl ?_ | refine dL3 hS 4 rfl rfl rfl ?_ | refine dL4 hS 4 rfl rfl rfl ?_ | refine dL5 hS 4 rfl rfl rfl ?_ | refine dL6 hS 4 rfl rfl rfl ?_ | refine dL7 hS 4 rfl rfl rfl ?_
      (try simp only [Act.put, nA, nB, nC])
      refine dP hS 5 rfl rfl ?_
      (try simp only [Act.put, nA, nB, nC])
      first | refine dL1 hS 6 rfl rfl rfl rfl ?_ | refine dL2 hS 6 rfl rfl rfl rfl ?_ | refine dL3 hS 6 rfl rfl rfl ?_ | refine dL4 hS 6 rfl rfl rfl ?_ | refine dL5 hS 6 rfl rfl rfl ?_ | refine dL6 hS 6 rfl rfl rfl ?_ | refine dL7 hS 6 rfl rfl rfl ?_
      (try simp only [Act.put, nA, nB, nC])
      refine dP hS 7 rfl rfl ?_
      (try simp only [Act.put, nA, nB, nC])
      first | refine dL1 hS 8 rfl rfl rfl rfl ?_ | refine dL2 hS 8 rfl rfl rfl rfl ?_ | refine dL3 hS 8 rfl rfl rfl ?_ | refine dL4 hS 8 rfl rfl rfl ?_ | refine dL5 hS 8 rfl rfl rfl ?_ | refine dL6 hS 8 rfl rfl rfl ?_ | refine dL7 hS 8 rfl rfl rfl ?_
      (try simp only [Act.put, nA, nB, nC])
      refine dP hS 9 rfl rfl ?_
      (try simp only [Act.put, nA, nB, nC])
      refine dP hS 10 rfl rfl ?_
      (try simp only [Act.put, nA, nB, nC])
      refine dr_one 11 (by kernel_rfl) rfl ?_
      ((first | refine sS1 hS rfl rfl rfl ?_ | refine sS2 hS rfl rfl rfl ?_ | refine sS3 hS rfl rfl rfl ?_ | refine sS4 hS rfl rfl rfl ?_ | refine sS5 hS rfl rfl rfl ?_); clear hS; intro w hS)
      (try simp only [Act.put, nA, nB, nC])
      refine dr_late (by kernel_rfl) ?_
      refine dr_done (by kernel_rfl) ?_
      go_wp2_with (first | (refine oL ?_; (first | refine sL1 hS rfl rfl rfl ?_ | refine sL2 hS rfl rfl rfl ?_ | refine sL3 hS rfl rfl ?_ | refine sL4 hS rfl rfl ?_ | refine sL5 hS rfl rfl ?_ | refine sL6 hS rfl rfl ?_ | refine sL7 hS rfl rfl ?_)) | (refine oS ?_; ((first | refine sS1 hS rfl rfl rfl ?_ | refine sS2 hS rfl rfl rfl ?_ | refine sS3 hS rfl rfl rfl ?_ | refine sS4 hS rfl rfl rfl ?_ | refine sS5 hS rfl rfl rfl ?_); clear hS; intro w hS)) | ((first | (refine oB ?_; first | refine sB1 hS rfl rfl ?_ | refine sB2 hS rfl rfl ?_) | refine sN1 hS rfl ?_); clear hS; first | ((fail_if_success guard_hyp g1); intro g1 w hS) | ((fail_if_success guard_hyp g2); intro g2 w hS) | ((fail_if_success guard_hyp g3); intro g3 w hS) | ((fail_if_success guard_hyp g4); intro g4 w hS) | fail) | fail)
      (try simp only [IntWalk.i64_left] at hS)
      refine dr_start0 [20]  hS (by kernel_rfl) rfl ?_; clear hS; intro w hS
      refine dM hS 0 rfl rfl rfl ?_
      (try simp only [Act.put, nA, nB, nC])
      refine dP hS 1 rfl rfl ?_
      (try simp only [Act.put, nA, nB, nC])
      refine dP hS 2 rfl rfl ?_
      (try simp only [Act.put, nA, nB, nC])
      refine dP hS 3 rfl rfl ?_
      (try simp only [Act.put, nA, nB, nC])
      first | refine dL1 hS 4 rfl rfl rfl rfl ?_ | refine dL2 hS 4 rfl rfl rfl rfl ?_ | refine dL3 hS 4 rfl rfl rfl ?_ | refine dL4 hS 4 rfl rfl rfl ?_ | refine dL5 hS 4 rfl rfl rfl ?_ | refine dL6 hS 4 rfl rfl rfl ?_ | refine dL7 hS 4 rfl rfl rfl ?_
      (try simp only [Act.put, nA, nB, nC])
      refine dM hS 5 rfl rfl rfl ?_
      (try simp only [Act.put, nA, nB, nC])
      refine dM hS 6 rfl rfl rfl ?_
      (try simp only [Act.put, nA, nB, nC])
      refine dP hS 7 rfl rfl ?_
      (try simp only [Act.put, nA, nB, nC])
      refine dP hS 8 rfl rfl ?_
      (try simp only [Act.put, nA, nB, nC])
      refine dP hS 9 rfl rfl ?_
      (try simp only [Act.put, nA, nB, nC])
      first | refine dL1 hS 10 rfl rfl rfl rfl ?_ | refine dL2 hS 10 rfl rfl rfl rfl ?_ | refine dL3 hS 10 rfl rfl rfl ?_ | refine dL4 hS 10 rfl rfl rfl ?_ | refine dL5 hS 10 rfl rfl rfl ?_ | refine dL6 hS 10 rfl rfl rfl ?_ | refine dL7 hS 10 rfl rfl rfl ?_
      (try simp only [Act.put, nA, nB, nC])
      refine dM hS 11 rfl rfl rfl ?_
      (try simp only [Act.put, nA, nB, nC])
      refine dP hS 12 rfl rfl ?_
      (try simp only [Act.put, nA, nB, nC])
      first | refine dL1 hS 13 rfl rfl rfl rfl ?_ | refine dL2 hS 13 rfl rfl rfl rfl ?_ | refine dL3 hS 13 rfl rfl rfl ?_ | refine dL4 hS 13 rfl rfl rfl ?_ | refine dL5 hS 13 rfl rfl rfl ?_ | refine dL6 hS 13 rfl rfl rfl ?_ | refine dL7 hS 13 rfl rfl rfl ?_
      (try simp only [Act.put, nA, nB, nC])
      refine dP hS 15 rfl rfl ?_
      (try simp only [Act.put, nA, nB, nC])
      first | refine dL1 hS 16 rfl rfl rfl rfl ?_ | refine dL2 hS 16 rfl rfl rfl rfl ?_ | refine dL3 hS 16 rfl rfl rfl ?_ | refine dL4 hS 16 rfl rfl rfl ?_ | refine dL5 hS 16 rfl rfl rfl ?_ | refine dL6 hS 16 rfl rfl rfl ?_ | refine dL7 hS 16 rfl rfl rfl ?_
      (try simp only [Act.put, nA, nB, nC])
      refine dr_two 14 17 (by kernel_rfl) rfl rfl ?_ ?_
      (refine st_call rfl (by kernel_rfl) rfl ?_; go_at_call 70; refine (clipVI_any _ _ _ _ hrb hrb' hRn).mono ?_; rintro e w ⟨rfl, hx1⟩; replace hS := hS.ext hx1)
      (try simp only [Act.put, nA, nB, nC])
      refine dr_end hS ?_
      refine dr_one 17 (by kernel_rfl) rfl ?_
      first | (refine st_appFI hS rfl rfl rfl (HR.out.into hS.frozInto) rfl hRn (by omega) ?_; clear hS; intro L3 cl3 w hL3 hM3 hS) | (refine st_str hS rfl rfl rfl rfl hrv2 ?_; clear hS; intro w hS) | ((first | refine sC0 hS rfl ?_ | refine sC1 hS rfl rfl ?_ | refine sC2 hS rfl rfl ?_ | refine sC3 hS rfl rfl rfl ?_ | refine sC4 hS rfl rfl rfl ?_); clear hS; first | ((fail_if_success guard_hyp g1); intro g1 w hS) | ((fail_if_success guard_hyp g2); intro g2 w hS) | ((fail_if_success guard_hyp g3); intro g3 w hS) | ((fail_if_success guard_hyp g4); intro g4 w hS) | fail) | fail
      (try simp only [Act.put, nA, nB, nC])
      refine dr_end hS ?_
      refine dr_one 18 (by kernel_rfl) rfl ?_
      first | (refine st_appFI hS rfl rfl rfl (HR.out.into hS.frozInto) rfl hRn (by omega) ?_; clear hS; intro L3 cl3 w hL3 hM3 hS) | (refine st_str hS rfl rfl rfl rfl hrv2 ?_; clear hS; intro w hS) | ((first | refine sP1 hS rfl rfl rfl ?_ | refine sP2 hS rfl rfl rfl ?_ | refine sP3 hS rfl rfl rfl ?_); clear hS; first | ((fail_if_success guard_hyp L1); intro L1 cl1 w hL1 hM1 hS) | ((fail_if_success guard_hyp L2); intro L2 cl2 w hL2 hM2 hS) | fail) | fail
      (try simp only [Act.put, nA, nB, nC])
      refine dr_end hS ?_
      refine dP hS 19 rfl rfl ?_
      (try simp only [Act.put, nA, nB, nC])
      refine dr_one 20 (by kernel_rfl) rfl ?_
      first | (refine st_appFI hS rfl rfl rfl (HR.out.into hS.frozInto) rfl hRn (by omega) ?_; clear hS; intro L3 cl3 w hL3 hM3 hS) | (refine st_str hS rfl rfl rfl rfl hrv2 ?_; clear hS; intro w hS) | ((first | refine sS1 hS rfl rfl rfl ?_ | refine sS2 hS rfl rfl rfl ?_ | refine sS3 hS rfl rfl rfl ?_ | refine sS4 hS rfl rfl rfl ?_ | refine sS5 hS rfl rfl rfl ?_); clear hS; intro w hS) | fail
      (try simp only [Act.put, nA, nB, nC])
      refine dr_late (by kernel_rfl) ?_
      refine dr_done (by kernel_rfl) ?_
      rotate_left
      first | (refine st_appFI hS rfl rfl rfl (HR.out.into hS.frozInto) rfl hRn (by omega) ?_; clear hS; intro L3 cl3 w hL3 hM3 hS) | (refine st_str hS rfl rfl rfl rfl hrv2 ?_; clear hS; intro w hS) | ((first | refine sC0 hS rfl ?_ | refine sC1 hS rfl rfl ?_ | refine sC2 hS rfl rfl ?_ | refine sC3 hS rfl rfl rfl ?_ | refine sC4 hS rfl rfl rfl ?_); clear hS; first | ((fail_if_success guard_hyp g1); intro g1 w hS) | ((fail_if_success guard_hyp g2); intro g2 w hS) | ((fail_if_success guard_hyp g3); intro g3 w hS) | ((fail_if_success guard_hyp g4); intro g4 w hS) | fail) | fail
      (try simp only [Act.put, nA, nB, nC])
      refine dr_end hS ?_
      refine dr_one 14 (by kernel_rfl) rfl ?_
      (refine st_call rfl (by kernel_rfl) rfl ?_; go_at_call 70; refine (clipVI_any _ _ _ _ hrb hrb' hRn).mono ?_; rintro e w ⟨rfl, hx1⟩; replace hS := hS.ext hx1)
      (try simp only [Act.put, nA, nB, nC])
      refine dr_end hS ?_
      refine dr_one 18 (by kernel_rfl) rfl ?_
      first | (refine st_appFI hS rfl rfl rfl (HR.out.into hS.frozInto) rfl hRn (by omega) ?_; clear hS; intro L3 cl3 w hL3 hM3 hS) | (refine st_str hS rfl rfl rfl rfl hrv2 ?_; clear hS; intro w hS) | ((first | refine sP1 hS rfl rfl rfl ?_ | refine sP2 hS rfl rfl rfl ?_ | refine sP3 hS rfl rfl rfl ?_); clear hS; first | ((fail_if_success guard_hyp L1); intro L1 cl1 w hL1 hM1 hS) | ((fail_if_success guard_hyp L2); intro L2 cl2 w hL2 hM2 hS) | fail) | fail
      (try simp only [Act.put, nA, nB, nC])
      refine dr_end hS ?_
      refine dP hS 19 rfl rfl ?_
      (try simp only [Act.put, nA, nB, nC])
      refine dr_one 20 (by kernel_rfl) rfl ?_
      first | (refine st_appFI hS rfl rfl rfl (HR.out.into hS.frozInto) rfl hRn (by omega) ?_; clear hS; intro L3 cl3 w hL3 hM3 hS) | (refine st_str hS rfl rfl rfl rfl hrv2 ?_; clear hS; intro w hS) | ((first | refine sS1 hS rfl rfl rfl ?_ | refine sS2 hS rfl rfl rfl ?_ | refine sS3 hS rfl rfl rfl ?_ | refine sS4 hS rfl rfl rfl ?_ | refine sS5 hS rfl rfl rfl ?_); clear hS; intro w hS) | fail
      (try simp only [Act.put, nA, nB, nC])
      refine dr_late (by kernel_rfl) ?_
      refine dr_done (by kernel_rfl) ?_
      rotate_left
      all_goals
        go_wp2_with (first | (refine oL ?_; (first | refine sL1 hS rfl rfl rfl ?_ | refine sL2 hS rfl rfl rfl ?_ | refine sL3 hS rfl rfl ?_ | refine sL4 hS rfl rfl ?_ | refine sL5 hS rfl rfl ?_ | refine sL6 hS rfl rfl ?_ | refine sL7 hS rfl rfl ?_)) | (refine oS ?_; ((first | refine sS1 hS rfl rfl rfl ?_ | refine sS2 hS rfl rfl rfl ?_ | refine sS3 hS rfl rfl rfl ?_ | refine sS4 hS rfl rfl rfl ?_ | refine sS5 hS rfl rfl rfl ?_); clear hS; intro w hS)) | ((first | (refine oB ?_; first | refine sB1 hS rfl rfl ?_ | refine sB2 hS rfl rfl ?_) | refine sN1 hS rfl ?_); clear hS; first | ((fail_if_success guard_hyp g1); intro g1 w hS) | ((fail_if_success guard_hyp g2); intro g2 w hS) | ((fail_if_success guard_hyp g3); intro g3 w hS) | ((fail_if_success guard_hyp g4); intro g4 w hS) | fail) | fail)
        first | go_end0 | refine bodyPost_ret (results_none rfl _ _ _) rfl ?_
        obtain ⟨T', hS', hi, hr'⟩ := St.freezeV hS
        rw [HE.out]
        simp only [popS, HH.out.2.2.2.2.1, List.tail_cons]
        exact ⟨by first | rfl | trivial, T', w, _, _, hS'.re, (HH.out.1.mono (ChV.into hi)).set kx (ChV.into hi _ _ HH.out.2.2.2.2.2), (HH.out.2.2.2.1.mono (ReV.into hi)).set kx ⟨L3, cl3, rfl, by simp; omega, hM3, hr'⟩, hi⟩
end Go.Proofs.Ytombhhhaidmpeaa
