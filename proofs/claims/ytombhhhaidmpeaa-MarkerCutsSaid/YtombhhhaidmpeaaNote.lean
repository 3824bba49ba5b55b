/- (*trace).note: what happened in a run. Conditions: the trace is a call's own. -/
import Derived.Test.YtombhhhaidmpeaaRowO
import Derived.Test.YtombhhhaidmpeaaTrcB
import Derived.Test.YtombhhhaidmpeaaGc
namespace Go.Proofs.Ytombhhhaidmpeaa
open Go.RowKit
set_option linter.unusedVariables false
set_option linter.unusedSimpArgs false
set_option linter.unusedSectionVars false

/-- a queue: where it lies, its room, what is in it -/
abbrev QR := Option Addr × Nat × List Nat
abbrev nats (l : List Nat) : List Int := l.map (fun f : Nat => (f : Int))
def qvals (rs : List QR) : List Value := rs.map fun r => .slice r.1 r.2.2.length r.2.1
def qfam {w0 : World} {M : Nat → Prop} (rs : List QR) : List (Chunk w0 M) := rs.map fun r => orow 3 r.1 r.2.1 (ints (nats r.2.2))
theorem qvals_at {rs : List QR} {k : Nat} {r : QR} (h : rs[k]? = some r) : (qvals rs)[k]? = some (.slice r.1 r.2.2.length r.2.1) := by simp [qvals, h]
theorem qfam_at {w0 : World} {M : Nat → Prop} {rs : List QR} {k : Nat} {r : QR} (h : rs[k]? = some r) : (qfam (w0 := w0) (M := M) rs)[k]? = some (orow 3 r.1 r.2.1 (ints (nats r.2.2))) := by simp [qfam, h]
theorem qvals_set {rs : List QR} {k : Nat} (r : QR) : (qvals rs).set k (.slice r.1 r.2.2.length r.2.1) = qvals (rs.set k r) := by simp [qvals, List.map_set]
theorem qfam_set {w0 : World} {M : Nat → Prop} {rs : List QR} {k : Nat} (r : QR) : ((qfam (w0 := w0) (M := M) rs).set k nop).set k (orow 3 r.1 r.2.1 (ints (nats r.2.2))) = qfam (rs.set k r) := by simp [qfam, List.map_set]
theorem qvals_len (rs : List QR) : (qvals rs).length = rs.length := by simp [qvals]
theorem flat_set4 {l : List Arc} {k : Nat} {v : Int} (h : k < l.length) : (l.flatMap arcCells).set (k * 4 + 3) (.int .i64 v) = (l.set k { arcOf l k with at_ := v }).flatMap arcCells := by
  induction l generalizing k with
  | nil => simp at h
  | cons a l ih =>
    match k, h with
    | 0, _ => simp [arcCells, arcOf]
    | k + 1, h =>
      rw [List.flatMap_cons, List.set_cons_succ, List.flatMap_cons, List.set_append_right _ _ (by rw [show (arcCells a).length = 4 from rfl]; omega)]
      rw [show (k + 1) * 4 + 3 - (arcCells a).length = k * 4 + 3 by rw [show (arcCells a).length = 4 from rfl]; omega, ih (by simpa using h)]
      simp [arcOf]
set_option maxRecDepth 100000 in
set_option maxHeartbeats 6400000 in
/-- a begin changes nothing -/
theorem noteB_st {w0 w : World} {M : Nat → Prop} {cs : List (Chunk w0 M)} (gt n : Nat) (fr tt val : Int) (hS : St w0 M cs w) :
    Calls Try.prog 34 #[.pointer (some ⟨gt, 0, none⟩), .agg #[.int .i64 3, .int .i64 fr, .int .i64 tt, .int .i64 val], .int .i64 (n : Int)] w fun e w' => e = .returned (.tuple #[]) ∧ St w0 M cs w' := by
  go_enter Try.func34, Try.ntmps34
  go_wp2_with (first | (refine oL ?_; (first | refine sL1 hS rfl rfl rfl ?_ | refine sL2 hS rfl rfl rfl ?_ | refine sL3 hS rfl rfl ?_ | refine sL4 hS rfl rfl ?_ | refine sL5 hS rfl rfl ?_ | refine sL6 hS rfl rfl ?_ | refine sL7 hS rfl rfl ?_)) | ((first | (refine oB ?_; first | refine sB1 hS rfl rfl ?_ | refine sB2 hS rfl rfl ?_)); clear hS; first | ((fail_if_success guard_hyp g1); intro g1 w hS) | ((fail_if_success guard_hyp g2); intro g2 w hS) | ((fail_if_success guard_hyp g3); intro g3 w hS) | ((fail_if_success guard_hyp g4); intro g4 w hS) | ((fail_if_success guard_hyp g5); intro g5 w hS) | fail) | fail)
  refine bodyPost_ret (results_none rfl _ _ _) rfl ?_
  exact ⟨rfl, hS.re⟩
set_option maxRecDepth 100000 in
set_option maxHeartbeats 6400000 in
/-- a transfer -/
theorem noteT_st {w0 w : World} {M : Nat → Prop} {cs : List (Chunk w0 M)} (gt gl gq n nn na ck ca cv p0 q0 : Nat) (LK L3 LV : Option Addr) (len : List Int) (az : List Arc) (vs : List Int) (rs : List QR) (val : Int) (hS : St w0 M (blk gt [.slice (some ⟨gl, 0, none⟩) n n, .slice LK n ck, .slice L3 na ca, .slice LV na cv, .slice (some ⟨gq, 0, none⟩) nn nn] 52 :: row (.slice (some ⟨gl, 0, none⟩) n n) 3 1 n (ints (len)) :: row (.slice L3 na ca) 71 4 na (List.flatMap arcCells (az)) :: row (.slice LV na cv) 3 1 na (ints (vs)) :: row (.slice (some ⟨gq, 0, none⟩) nn nn) 24 1 nn (qvals (rs)) :: famC (qfam (rs)) :: cs) w)
    (hn : len.length = n) (hnn : n * n = nn) (hn5 : n ≤ 5) (hp : p0 < n) (hq : q0 < n) (hrs : rs.length = nn) (ha : az.length = na) (hna : na ≤ 60) (hv : vs.length = na) (hl0 : 0 ≤ nth len p0 ∧ nth len p0 ≤ 60) (hqs : ∀ r ∈ rs, r.2.2.length ≤ 60) :
    Calls Try.prog 34 #[.pointer (some ⟨gt, 0, none⟩), .agg #[.int .i64 1, .int .i64 (p0 : Int), .int .i64 (q0 : Int), .int .i64 val], .int .i64 (n : Int)] w fun e w' => e = .returned (.tuple #[]) ∧ ∃ L3' ca' LV' cv' A c, St w0 M (blk gt [.slice (some ⟨gl, 0, none⟩) n n, .slice LK n ck, .slice L3' (na + 1) ca', .slice LV' (na + 1) cv', .slice (some ⟨gq, 0, none⟩) nn nn] 52 :: row (.slice (some ⟨gl, 0, none⟩) n n) 3 1 n (ints (len.set p0 (nth len p0 + 1))) :: row (.slice L3' (na + 1) ca') 71 4 (na + 1) (List.flatMap arcCells (az ++ [⟨p0, nth len p0 + 1, q0, 0⟩])) :: row (.slice LV' (na + 1) cv') 3 1 (na + 1) (ints (vs ++ [val])) :: row (.slice (some ⟨gq, 0, none⟩) nn nn) 24 1 nn (qvals (rs.set (p0 * n + q0) (A, c, qOf (rs.map (·.2.2)) (p0 * n + q0) ++ [na]))) :: famC (qfam (rs.set (p0 * n + q0) (A, c, qOf (rs.map (·.2.2)) (p0 * n + q0) ++ [na]))) :: cs) w' := by
  have hkn : p0 * n + q0 < nn := by rw [← hnn]; exact ch_lt hp hq
  have hnn25 : nn ≤ 25 := by rw [← hnn]; exact Nat.mul_le_mul hn5 hn5
  have hpl : p0 < len.length := by omega
  have hlat := ints_at hpl
  have hlat2 := ints_at (l := len.set p0 (nth len p0 + 1)) (q := p0) (by rw [List.length_set]; exact hpl)
  rw [nth_set_same hpl] at hlat2
  obtain ⟨⟨A0, c0, Q0⟩, hrk⟩ : ∃ r, rs[p0 * n + q0]? = some r := ⟨_, List.getElem?_eq_getElem (by omega)⟩
  have HRK := Lib.hid hrk
  have hQl : Q0.length ≤ 60 := hqs _ (List.mem_of_getElem? hrk)
  have hqv := qvals_at hrk
  simp only at hqv
  have hqvl : p0 * n + q0 < (qvals rs).length := by rw [qvals_len]; omega
  have HH := Lib.hid (And.intro hn (And.intro hrs (And.intro ha hv)))
  have hp' : (p0 : Int) < n := by omega
  obtain ⟨hm1, hm2⟩ := mul_bd hp hn5
  have hlz : nth len p0 + 1 ≤ 61 := by omega
  generalize hcn : nth len p0 = cn at *
  generalize p0 * n = pn at *
  have hkn' : ((pn : Nat) : Int) + (q0 : Int) < nn := by omega
  clear hrk hn hrs ha hv hnn hqs hcn
  go_enter Try.func34, Try.ntmps34
  go_wp2_with (first | (refine oL ?_; (first | refine sL1 hS rfl rfl rfl ?_ | refine sL2 hS rfl rfl rfl ?_ | refine sL3 hS rfl rfl ?_ | refine sL4 hS rfl rfl ?_ | refine sL5 hS rfl rfl ?_ | refine sL6 hS rfl rfl ?_ | refine sL7 hS rfl rfl ?_)) | ((first | (refine oB ?_; first | refine sB1 hS rfl rfl ?_ | refine sB2 hS rfl rfl ?_)); clear hS; first | ((fail_if_success guard_hyp g1); intro g1 w hS) | ((fail_if_success guard_hyp g2); intro g2 w hS) | ((fail_if_success guard_hyp g3); intro g3 w hS) | ((fail_if_success guard_hyp g4); intro g4 w hS) | ((fail_if_success guard_hyp g5); intro g5 w hS) | fail) | fail)
  refine dr_start0 [11]  hS (by kernel_rfl) rfl ?_; clear hS; intro w hS
  refine dM hS 0 rfl rfl rfl ?_
  (try simp only [Act.put, nA, nB, nC])
  refine dP hS 1 rfl rfl ?_
  (try simp only [Act.put, nA, nB, nC])
  refine dP hS 2 rfl rfl ?_
  (try simp only [Act.put, nA, nB, nC])
  refine dP hS 3 rfl rfl ?_
  (try simp only [Act.put, nA, nB, nC])
  first | refine dL1 hS 4 rfl rfl rfl rfl ?_ | refine dL2 hS 4 rfl rfl rfl rfl ?_ | refine dL3 hS 4 rfl rfl rfl ?_ | refine dL4 hS 4 rfl rfl rfl ?_ | refine dL5 hS 4 rfl rfl rfl ?_ | refine dL6 hS 4 rfl rfl rfl ?_ | refine dL7 hS 4 rfl rfl rfl ?_
  (try simp only [Act.put, nA, nB, nC])
  refine dP hS 5 rfl rfl ?_
  (try simp only [Act.put, nA, nB, nC])
  first | refine dL1 hS 6 rfl rfl rfl rfl ?_ | refine dL2 hS 6 rfl rfl rfl rfl ?_ | refine dL3 hS 6 rfl rfl rfl ?_ | refine dL4 hS 6 rfl rfl rfl ?_ | refine dL5 hS 6 rfl rfl rfl ?_ | refine dL6 hS 6 rfl rfl rfl ?_ | refine dL7 hS 6 rfl rfl rfl ?_
  (try simp only [Act.put, nA, nB, nC])
  refine dP hS 7 rfl rfl ?_
  (try simp only [Act.put, nA, nB, nC])
  first | refine dL1 hS 8 rfl rfl rfl rfl ?_ | refine dL2 hS 8 rfl rfl rfl rfl ?_ | refine dL3 hS 8 rfl rfl rfl ?_ | refine dL4 hS 8 rfl rfl rfl ?_ | refine dL5 hS 8 rfl rfl rfl ?_ | refine dL6 hS 8 rfl rfl rfl ?_ | refine dL7 hS 8 rfl rfl rfl ?_
  (try simp only [Act.put, nA, nB, nC])
  refine dP hS 9 rfl rfl ?_
  (try simp only [Act.put, nA, nB, nC])
  refine dP hS 10 rfl rfl ?_
  (try simp only [Act.put, nA, nB, nC])
  refine dr_one 11 (by kernel_rfl) rfl ?_
  ((first | refine sS1 hS rfl rfl rfl ?_ | refine sS2 hS rfl rfl rfl ?_ | refine sS3 hS rfl rfl rfl ?_ | refine sS4 hS rfl rfl rfl ?_ | refine sS5 hS rfl rfl rfl ?_); clear hS; intro w hS)
  (try simp only [Act.put, nA, nB, nC])
  refine dr_late (by kernel_rfl) ?_
  refine dr_done (by kernel_rfl) ?_
  go_wp2_with (first | (refine oL ?_; (first | refine sL1 hS rfl rfl rfl ?_ | refine sL2 hS rfl rfl rfl ?_ | refine sL3 hS rfl rfl ?_ | refine sL4 hS rfl rfl ?_ | refine sL5 hS rfl rfl ?_ | refine sL6 hS rfl rfl ?_ | refine sL7 hS rfl rfl ?_)) | ((first | (refine oB ?_; first | refine sB1 hS rfl rfl ?_ | refine sB2 hS rfl rfl ?_)); clear hS; first | ((fail_if_success guard_hyp g1); intro g1 w hS) | ((fail_if_success guard_hyp g2); intro g2 w hS) | ((fail_if_success guard_hyp g3); intro g3 w hS) | ((fail_if_success guard_hyp g4); intro g4 w hS) | ((fail_if_success guard_hyp g5); intro g5 w hS) | fail) | fail)
  (try simp only [Act.put, nA, nB, nC])
  go_cut [] (fun wx => ∃ (A1 : Option Addr) (k1 : Nat), St w0 M (famC (qfam (rs.set (pn + q0) (A1, k1, qOf (rs.map (·.2.2)) (pn + q0) ++ [na]))) :: blk g1 [.int .i64 1, .int .i64 (p0 : Int), .int .i64 (q0 : Int), .int .i64 val] 62 :: blk gt [.slice (some ⟨gl, 0, none⟩) n n, .slice LK n ck, .slice L3 na ca, .slice LV na cv, .slice (some ⟨gq, 0, none⟩) nn nn] 52 :: row (.slice (some ⟨gl, 0, none⟩) n n) 3 1 n (ints (len.set p0 (cn + 1))) :: row (.slice L3 na ca) 71 4 na (List.flatMap arcCells (az)) :: row (.slice LV na cv) 3 1 na (ints (vs)) :: row (.slice (some ⟨gq, 0, none⟩) nn nn) 24 1 nn (qvals (rs.set (pn + q0) (A1, k1, qOf (rs.map (·.2.2)) (pn + q0) ++ [na]))) :: cs) wx)
  case first =>
    replace hS := (hS.re (ds := famC (qfam rs) :: blk g1 [.int .i64 1, .int .i64 (p0 : Int), .int .i64 (q0 : Int), .int .i64 val] 62 :: blk gt [.slice (some ⟨gl, 0, none⟩) n n, .slice LK n ck, .slice L3 na ca, .slice LV na cv, .slice (some ⟨gq, 0, none⟩) nn nn] 52 :: row (.slice (some ⟨gl, 0, none⟩) n n) 3 1 n (ints (len.set p0 (cn + 1))) :: row (.slice L3 na ca) 71 4 na (List.flatMap arcCells (az)) :: row (.slice LV na cv) 3 1 na (ints (vs)) :: row (.slice (some ⟨gq, 0, none⟩) nn nn) 24 1 nn (qvals rs) :: cs)).famCTake (qfam_at HRK.out)
    simp only at hS
    refine dr_start2 [21] 0 6 hS (by kernel_rfl) rfl ?_; clear hS; intro w hS
    refine dM hS 0 rfl rfl rfl ?_
    (try simp only [Act.put, nA, nB, nC])
    refine dP hS 1 rfl rfl ?_
    (try simp only [Act.put, nA, nB, nC])
    refine dP hS 2 rfl rfl ?_
    (try simp only [Act.put, nA, nB, nC])
    first | refine dL1 hS 3 rfl rfl rfl rfl ?_ | refine dL2 hS 3 rfl rfl rfl rfl ?_ | refine dL3 hS 3 rfl rfl rfl ?_ | refine dL4 hS 3 rfl rfl rfl ?_ | refine dL5 hS 3 rfl rfl rfl ?_ | refine dL6 hS 3 rfl rfl rfl ?_ | refine dL7 hS 3 rfl rfl rfl ?_
    (try simp only [Act.put, nA, nB, nC])
    refine dM hS 4 rfl rfl rfl ?_
    (try simp only [Act.put, nA, nB, nC])
    refine dM hS 5 rfl rfl rfl ?_
    (try simp only [Act.put, nA, nB, nC])
    refine dP hS 6 rfl rfl ?_
    (try simp only [Act.put, nA, nB, nC])
    refine dP hS 7 rfl rfl ?_
    (try simp only [Act.put, nA, nB, nC])
    first | refine dL1 hS 8 rfl rfl rfl rfl ?_ | refine dL2 hS 8 rfl rfl rfl rfl ?_ | refine dL3 hS 8 rfl rfl rfl ?_ | refine dL4 hS 8 rfl rfl rfl ?_ | refine dL5 hS 8 rfl rfl rfl ?_ | refine dL6 hS 8 rfl rfl rfl ?_ | refine dL7 hS 8 rfl rfl rfl ?_
    (try simp only [Act.put, nA, nB, nC])
    refine dM hS 9 rfl rfl rfl ?_
    (try simp only [Act.put, nA, nB, nC])
    refine dP hS 10 rfl rfl ?_
    (try simp only [Act.put, nA, nB, nC])
    refine dM hS 12 rfl rfl rfl ?_
    (try simp only [Act.put, nA, nB, nC])
    refine dP hS 13 rfl rfl ?_
    (try simp only [Act.put, nA, nB, nC])
    refine dP hS 14 rfl rfl ?_
    (try simp only [Act.put, nA, nB, nC])
    refine dP hS 15 rfl rfl ?_
    (try simp only [Act.put, nA, nB, nC])
    first | refine dL1 hS 16 rfl rfl rfl rfl ?_ | refine dL2 hS 16 rfl rfl rfl rfl ?_ | refine dL3 hS 16 rfl rfl rfl ?_ | refine dL4 hS 16 rfl rfl rfl ?_ | refine dL5 hS 16 rfl rfl rfl ?_ | refine dL6 hS 16 rfl rfl rfl ?_ | refine dL7 hS 16 rfl rfl rfl ?_
    (try simp only [Act.put, nA, nB, nC])
    refine dP hS 17 rfl rfl ?_
    (try simp only [Act.put, nA, nB, nC])
    refine dr_two 11 18 (by kernel_rfl) rfl rfl ?_ ?_
    first | (refine oP ?_; refine st_appO1 (vs := ints (nats Q0)) hS rfl rfl rfl (by simp [ints, nats]) rfl (by omega) ?_; clear hS; intro A1 k1 w hA1 hK1 hS) | (first | refine sL1 hS rfl rfl rfl ?_ | refine sL2 hS rfl rfl rfl ?_ | refine sL3 hS rfl rfl ?_ | refine sL4 hS rfl rfl ?_ | refine sL5 hS rfl rfl ?_ | refine sL6 hS rfl rfl ?_ | refine sL7 hS rfl rfl ?_) | fail
    (try simp only [Act.put, nA, nB, nC])
    refine dr_end hS ?_
    refine dr_one 18 (by kernel_rfl) rfl ?_
    first | (refine oP ?_; refine st_appO1 (vs := ints (nats Q0)) hS rfl rfl rfl (by simp [ints, nats]) rfl (by omega) ?_; clear hS; intro A1 k1 w hA1 hK1 hS) | ((first | refine sC0 hS rfl ?_ | refine sC1 hS rfl rfl ?_ | refine sC2 hS rfl rfl ?_ | refine sC3 hS rfl rfl rfl ?_ | refine sC4 hS rfl rfl rfl ?_); clear hS; first | ((fail_if_success guard_hyp g1); intro g1 w hS) | ((fail_if_success guard_hyp g2); intro g2 w hS) | ((fail_if_success guard_hyp g3); intro g3 w hS) | ((fail_if_success guard_hyp g4); intro g4 w hS) | ((fail_if_success guard_hyp g5); intro g5 w hS) | fail) | fail
    (try simp only [Act.put, nA, nB, nC])
    refine dr_end hS ?_
    refine dr_one 19 (by kernel_rfl) rfl ?_
    first | (refine oP ?_; refine st_appO1 (vs := ints (nats Q0)) hS rfl rfl rfl (by simp [ints, nats]) rfl (by omega) ?_; clear hS; intro A1 k1 w hA1 hK1 hS) | ((first | refine sP1 hS rfl rfl rfl ?_ | refine sP2 hS rfl rfl rfl ?_ | refine sP3 hS rfl rfl rfl ?_); clear hS; first | ((fail_if_success guard_hyp L1); intro L1 cl1 w hL1 hM1 hS) | ((fail_if_success guard_hyp L2); intro L2 cl2 w hL2 hM2 hS) | ((fail_if_success guard_hyp L3); intro L3 cl3 w hL3 hM3 hS) | ((fail_if_success guard_hyp L4); intro L4 cl4 w hL4 hM4 hS) | fail) | fail
    (try simp only [Act.put, nA, nB, nC])
    refine dr_end hS ?_
    refine dP hS 20 rfl rfl ?_
    (try simp only [Act.put, nA, nB, nC])
    refine dr_one 21 (by kernel_rfl) rfl ?_
    first | (refine oP ?_; refine st_appO1 (vs := ints (nats Q0)) hS rfl rfl rfl (by simp [ints, nats]) rfl (by omega) ?_; clear hS; intro A1 k1 w hA1 hK1 hS) | ((first | refine sS1 hS rfl rfl rfl ?_ | refine sS2 hS rfl rfl rfl ?_ | refine sS3 hS rfl rfl rfl ?_ | refine sS4 hS rfl rfl rfl ?_ | refine sS5 hS rfl rfl rfl ?_); clear hS; intro w hS) | fail
    (try simp only [Act.put, nA, nB, nC])
    refine dr_late (by kernel_rfl) ?_
    refine dr_done (by kernel_rfl) ?_
    rotate_left
    first | (refine oP ?_; refine st_appO1 (vs := ints (nats Q0)) hS rfl rfl rfl (by simp [ints, nats]) rfl (by omega) ?_; clear hS; intro A1 k1 w hA1 hK1 hS) | ((first | refine sC0 hS rfl ?_ | refine sC1 hS rfl rfl ?_ | refine sC2 hS rfl rfl ?_ | refine sC3 hS rfl rfl rfl ?_ | refine sC4 hS rfl rfl rfl ?_); clear hS; first | ((fail_if_success guard_hyp g1); intro g1 w hS) | ((fail_if_success guard_hyp g2); intro g2 w hS) | ((fail_if_success guard_hyp g3); intro g3 w hS) | ((fail_if_success guard_hyp g4); intro g4 w hS) | ((fail_if_success guard_hyp g5); intro g5 w hS) | fail) | fail
    (try simp only [Act.put, nA, nB, nC])
    refine dr_end hS ?_
    refine dr_one 11 (by kernel_rfl) rfl ?_
    first | (refine oP ?_; refine st_appO1 (vs := ints (nats Q0)) hS rfl rfl rfl (by simp [ints, nats]) rfl (by omega) ?_; clear hS; intro A1 k1 w hA1 hK1 hS) | (first | refine sL1 hS rfl rfl rfl ?_ | refine sL2 hS rfl rfl rfl ?_ | refine sL3 hS rfl rfl ?_ | refine sL4 hS rfl rfl ?_ | refine sL5 hS rfl rfl ?_ | refine sL6 hS rfl rfl ?_ | refine sL7 hS rfl rfl ?_) | fail
    (try simp only [Act.put, nA, nB, nC])
    refine dr_end hS ?_
    refine dr_one 19 (by kernel_rfl) rfl ?_
    first | (refine oP ?_; refine st_appO1 (vs := ints (nats Q0)) hS rfl rfl rfl (by simp [ints, nats]) rfl (by omega) ?_; clear hS; intro A1 k1 w hA1 hK1 hS) | ((first | refine sP1 hS rfl rfl rfl ?_ | refine sP2 hS rfl rfl rfl ?_ | refine sP3 hS rfl rfl rfl ?_); clear hS; first | ((fail_if_success guard_hyp L1); intro L1 cl1 w hL1 hM1 hS) | ((fail_if_success guard_hyp L2); intro L2 cl2 w hL2 hM2 hS) | ((fail_if_success guard_hyp L3); intro L3 cl3 w hL3 hM3 hS) | ((fail_if_success guard_hyp L4); intro L4 cl4 w hL4 hM4 hS) | fail) | fail
    (try simp only [Act.put, nA, nB, nC])
    refine dr_end hS ?_
    refine dP hS 20 rfl rfl ?_
    (try simp only [Act.put, nA, nB, nC])
    refine dr_one 21 (by kernel_rfl) rfl ?_
    first | (refine oP ?_; refine st_appO1 (vs := ints (nats Q0)) hS rfl rfl rfl (by simp [ints, nats]) rfl (by omega) ?_; clear hS; intro A1 k1 w hA1 hK1 hS) | ((first | refine sS1 hS rfl rfl rfl ?_ | refine sS2 hS rfl rfl rfl ?_ | refine sS3 hS rfl rfl rfl ?_ | refine sS4 hS rfl rfl rfl ?_ | refine sS5 hS rfl rfl rfl ?_); clear hS; intro w hS) | fail
    (try simp only [Act.put, nA, nB, nC])
    refine dr_late (by kernel_rfl) ?_
    refine dr_done (by kernel_rfl) ?_
    rotate_left
    all_goals
      go_wp2_with fail
      rw [show ints (nats Q0) ++ [Value.int .i64 (na : Int)] = ints (nats (Q0 ++ [na])) by simp [ints, nats], show Q0.length + 1 = (Q0 ++ [na]).length by simp] at hS
      have hqs2 := qvals_set (rs := rs) (k := pn + q0) (A1, k1, Q0 ++ [na])
      simp only at hqs2
      rw [hqs2] at hS
      replace hS := hS.famCPut (j := pn + q0)
      have hqf2 := qfam_set (w0 := w0) (M := M) (rs := rs) (k := pn + q0) (A1, k1, Q0 ++ [na])
      simp only at hqf2
      rw [hqf2] at hS
      have HR2 : (A1, k1, Q0 ++ [na]) = (A1, k1, qOf (rs.map (·.2.2)) (pn + q0) ++ [na]) := by
        have h := HRK.out
        simp only [qOf, List.getD_eq_getElem?_getD, List.getElem?_map, h]
        rfl
      rw [HR2] at hS
      clear hqs2 hqf2 HR2
      go_meet
      exact ⟨A1, k1, hS.re⟩
  case rest =>
    clear hS HRK hqv hqvl
    obtain ⟨A1, k1, hS⟩ := hcut
    generalize hrs2 : rs.set (pn + q0) (A1, k1, qOf (rs.map (·.2.2)) (pn + q0) ++ [na]) = rs2 at *
    have HRS2 := Lib.hid hrs2
    clear hrs2
    go_upto_region 6 with (first | (refine oL ?_; (first | refine sL1 hS rfl rfl rfl ?_ | refine sL2 hS rfl rfl rfl ?_ | refine sL3 hS rfl rfl ?_ | refine sL4 hS rfl rfl ?_ | refine sL5 hS rfl rfl ?_ | refine sL6 hS rfl rfl ?_ | refine sL7 hS rfl rfl ?_)) | ((first | (refine oB ?_; first | refine sB1 hS rfl rfl ?_ | refine sB2 hS rfl rfl ?_)); clear hS; first | ((fail_if_success guard_hyp g1); intro g1 w hS) | ((fail_if_success guard_hyp g2); intro g2 w hS) | ((fail_if_success guard_hyp g3); intro g3 w hS) | ((fail_if_success guard_hyp g4); intro g4 w hS) | ((fail_if_success guard_hyp g5); intro g5 w hS) | fail) | fail)
    (try simp only [Act.put, nA, nB, nC])
    go_cut [] (fun wx => ∃ (L1 : Option Addr) (cl1 : Nat), St w0 M (famC (qfam (rs2)) :: blk g1 [.int .i64 1, .int .i64 (p0 : Int), .int .i64 (q0 : Int), .int .i64 val] 62 :: blk gt [.slice (some ⟨gl, 0, none⟩) n n, .slice LK n ck, .slice L1 (na + 1) cl1, .slice LV na cv, .slice (some ⟨gq, 0, none⟩) nn nn] 52 :: row (.slice (some ⟨gl, 0, none⟩) n n) 3 1 n (ints (len.set p0 (cn + 1))) :: row (.slice L1 (na + 1) cl1) 71 4 (na + 1) (List.flatMap arcCells (az ++ [⟨p0, cn + 1, q0, 0⟩])) :: row (.slice LV na cv) 3 1 na (ints (vs)) :: row (.slice (some ⟨gq, 0, none⟩) nn nn) 24 1 nn (qvals (rs2)) :: cs) wx)
    case first =>
      refine dr_start2 [] 2 3 hS (by kernel_rfl) rfl ?_; clear hS; intro w hS
      refine dM hS 0 rfl rfl rfl ?_
      (try simp only [Act.put, nA, nB, nC])
      refine dM hS 1 rfl rfl rfl ?_
      (try simp only [Act.put, nA, nB, nC])
      refine dP hS 2 rfl rfl ?_
      (try simp only [Act.put, nA, nB, nC])
      refine dP hS 3 rfl rfl ?_
      (try simp only [Act.put, nA, nB, nC])
      refine dP hS 4 rfl rfl ?_
      (try simp only [Act.put, nA, nB, nC])
      refine dP hS 6 rfl rfl ?_
      (try simp only [Act.put, nA, nB, nC])
      first | refine dL1 hS 7 rfl rfl rfl rfl ?_ | refine dL2 hS 7 rfl rfl rfl rfl ?_ | refine dL3 hS 7 rfl rfl rfl ?_ | refine dL4 hS 7 rfl rfl rfl ?_ | refine dL5 hS 7 rfl rfl rfl ?_ | refine dL6 hS 7 rfl rfl rfl ?_ | refine dL7 hS 7 rfl rfl rfl ?_
      (try simp only [Act.put, nA, nB, nC])
      refine dM hS 8 rfl rfl rfl ?_
      (try simp only [Act.put, nA, nB, nC])
      refine dP hS 9 rfl rfl ?_
      (try simp only [Act.put, nA, nB, nC])
      refine dP hS 10 rfl rfl ?_
      (try simp only [Act.put, nA, nB, nC])
      refine dP hS 11 rfl rfl ?_
      (try simp only [Act.put, nA, nB, nC])
      refine dP hS 13 rfl rfl ?_
      (try simp only [Act.put, nA, nB, nC])
      first | refine dL1 hS 14 rfl rfl rfl rfl ?_ | refine dL2 hS 14 rfl rfl rfl rfl ?_ | refine dL3 hS 14 rfl rfl rfl ?_ | refine dL4 hS 14 rfl rfl rfl ?_ | refine dL5 hS 14 rfl rfl rfl ?_ | refine dL6 hS 14 rfl rfl rfl ?_ | refine dL7 hS 14 rfl rfl rfl ?_
      (try simp only [Act.put, nA, nB, nC])
      refine dP hS 17 rfl rfl ?_
      (try simp only [Act.put, nA, nB, nC])
      first | refine dL1 hS 18 rfl rfl rfl rfl ?_ | refine dL2 hS 18 rfl rfl rfl rfl ?_ | refine dL3 hS 18 rfl rfl rfl ?_ | refine dL4 hS 18 rfl rfl rfl ?_ | refine dL5 hS 18 rfl rfl rfl ?_ | refine dL6 hS 18 rfl rfl rfl ?_ | refine dL7 hS 18 rfl rfl rfl ?_
      (try simp only [Act.put, nA, nB, nC])
      refine dr_two 5 12 (by kernel_rfl) rfl rfl ?_ ?_
      (first | refine sL1 hS rfl rfl rfl ?_ | refine sL2 hS rfl rfl rfl ?_ | refine sL3 hS rfl rfl ?_ | refine sL4 hS rfl rfl ?_ | refine sL5 hS rfl rfl ?_ | refine sL6 hS rfl rfl ?_ | refine sL7 hS rfl rfl ?_)
      (try simp only [Act.put, nA, nB, nC])
      refine dr_end hS ?_
      refine dr_one 12 (by kernel_rfl) rfl ?_
      (first | refine sL1 hS rfl rfl rfl ?_ | refine sL2 hS rfl rfl rfl ?_ | refine sL3 hS rfl rfl ?_ | refine sL4 hS rfl rfl ?_ | refine sL5 hS rfl rfl ?_ | refine sL6 hS rfl rfl ?_ | refine sL7 hS rfl rfl ?_)
      (try simp only [Act.put, nA, nB, nC])
      refine dr_end hS ?_
      refine dP hS 15 rfl rfl ?_
      (try simp only [Act.put, nA, nB, nC])
      first | refine dL1 hS 16 rfl rfl rfl rfl ?_ | refine dL2 hS 16 rfl rfl rfl rfl ?_ | refine dL3 hS 16 rfl rfl rfl ?_ | refine dL4 hS 16 rfl rfl rfl ?_ | refine dL5 hS 16 rfl rfl rfl ?_ | refine dL6 hS 16 rfl rfl rfl ?_ | refine dL7 hS 16 rfl rfl rfl ?_
      (try simp only [Act.put, nA, nB, nC])
      refine dP hS 19 rfl rfl ?_
      (try simp only [Act.put, nA, nB, nC])
      refine dr_one 20 (by kernel_rfl) rfl ?_
      ((first | refine sC0 hS rfl ?_ | refine sC1 hS rfl rfl ?_ | refine sC2 hS rfl rfl ?_ | refine sC3 hS rfl rfl rfl ?_ | refine sC4 hS rfl rfl rfl ?_); clear hS; first | ((fail_if_success guard_hyp g1); intro g1 w hS) | ((fail_if_success guard_hyp g2); intro g2 w hS) | ((fail_if_success guard_hyp g3); intro g3 w hS) | ((fail_if_success guard_hyp g4); intro g4 w hS) | ((fail_if_success guard_hyp g5); intro g5 w hS) | fail)
      (try simp only [Act.put, nA, nB, nC])
      refine dr_end hS ?_
      refine dr_one 21 (by kernel_rfl) rfl ?_
      ((first | refine sP1 hS rfl rfl rfl ?_ | refine sP2 hS rfl rfl rfl ?_ | refine sP3 hS rfl rfl rfl ?_); clear hS; first | ((fail_if_success guard_hyp L1); intro L1 cl1 w hL1 hM1 hS) | ((fail_if_success guard_hyp L2); intro L2 cl2 w hL2 hM2 hS) | ((fail_if_success guard_hyp L3); intro L3 cl3 w hL3 hM3 hS) | ((fail_if_success guard_hyp L4); intro L4 cl4 w hL4 hM4 hS) | fail)
      (try simp only [Act.put, nA, nB, nC])
      refine dr_end hS ?_
      refine dP hS 22 rfl rfl ?_
      (try simp only [Act.put, nA, nB, nC])
      refine dP hS 23 rfl rfl ?_
      (try simp only [Act.put, nA, nB, nC])
      refine dP hS 24 rfl rfl ?_
      (try simp only [Act.put, nA, nB, nC])
      refine dr_one 25 (by kernel_rfl) rfl ?_
      ((first | refine sS1 hS rfl rfl rfl ?_ | refine sS2 hS rfl rfl rfl ?_ | refine sS3 hS rfl rfl rfl ?_ | refine sS4 hS rfl rfl rfl ?_ | refine sS5 hS rfl rfl rfl ?_); clear hS; intro w hS)
      (try simp only [Act.put, nA, nB, nC])
      refine dr_end hS ?_
      refine dr_done (by kernel_rfl) ?_
      rotate_left
      (first | refine sL1 hS rfl rfl rfl ?_ | refine sL2 hS rfl rfl rfl ?_ | refine sL3 hS rfl rfl ?_ | refine sL4 hS rfl rfl ?_ | refine sL5 hS rfl rfl ?_ | refine sL6 hS rfl rfl ?_ | refine sL7 hS rfl rfl ?_)
      (try simp only [Act.put, nA, nB, nC])
      refine dr_end hS ?_
      refine dP hS 15 rfl rfl ?_
      (try simp only [Act.put, nA, nB, nC])
      first | refine dL1 hS 16 rfl rfl rfl rfl ?_ | refine dL2 hS 16 rfl rfl rfl rfl ?_ | refine dL3 hS 16 rfl rfl rfl ?_ | refine dL4 hS 16 rfl rfl rfl ?_ | refine dL5 hS 16 rfl rfl rfl ?_ | refine dL6 hS 16 rfl rfl rfl ?_ | refine dL7 hS 16 rfl rfl rfl ?_
      (try simp only [Act.put, nA, nB, nC])
      refine dP hS 19 rfl rfl ?_
      (try simp only [Act.put, nA, nB, nC])
      refine dr_two 5 20 (by kernel_rfl) rfl rfl ?_ ?_
      (first | refine sL1 hS rfl rfl rfl ?_ | refine sL2 hS rfl rfl rfl ?_ | refine sL3 hS rfl rfl ?_ | refine sL4 hS rfl rfl ?_ | refine sL5 hS rfl rfl ?_ | refine sL6 hS rfl rfl ?_ | refine sL7 hS rfl rfl ?_)
      (try simp only [Act.put, nA, nB, nC])
      refine dr_end hS ?_
      refine dr_one 20 (by kernel_rfl) rfl ?_
      ((first | refine sC0 hS rfl ?_ | refine sC1 hS rfl rfl ?_ | refine sC2 hS rfl rfl ?_ | refine sC3 hS rfl rfl rfl ?_ | refine sC4 hS rfl rfl rfl ?_); clear hS; first | ((fail_if_success guard_hyp g1); intro g1 w hS) | ((fail_if_success guard_hyp g2); intro g2 w hS) | ((fail_if_success guard_hyp g3); intro g3 w hS) | ((fail_if_success guard_hyp g4); intro g4 w hS) | ((fail_if_success guard_hyp g5); intro g5 w hS) | fail)
      (try simp only [Act.put, nA, nB, nC])
      refine dr_end hS ?_
      refine dr_one 21 (by kernel_rfl) rfl ?_
      ((first | refine sP1 hS rfl rfl rfl ?_ | refine sP2 hS rfl rfl rfl ?_ | refine sP3 hS rfl rfl rfl ?_); clear hS; first | ((fail_if_success guard_hyp L1); intro L1 cl1 w hL1 hM1 hS) | ((fail_if_success guard_hyp L2); intro L2 cl2 w hL2 hM2 hS) | ((fail_if_success guard_hyp L3); intro L3 cl3 w hL3 hM3 hS) | ((fail_if_success guard_hyp L4); intro L4 cl4 w hL4 hM4 hS) | fail)
      (try simp only [Act.put, nA, nB, nC])
      refine dr_end hS ?_
      refine dP hS 22 rfl rfl ?_
      (try simp only [Act.put, nA, nB, nC])
      refine dP hS 23 rfl rfl ?_
      (try simp only [Act.put, nA, nB, nC])
      refine dP hS 24 rfl rfl ?_
      (try simp only [Act.put, nA, nB, nC])
      refine dr_one 25 (by kernel_rfl) rfl ?_
      ((first | refine sS1 hS rfl rfl rfl ?_ | refine sS2 hS rfl rfl rfl ?_ | refine sS3 hS rfl rfl rfl ?_ | refine sS4 hS rfl rfl rfl ?_ | refine sS5 hS rfl rfl rfl ?_); clear hS; intro w hS)
      (try simp only [Act.put, nA, nB, nC])
      refine dr_end hS ?_
      refine dr_done (by kernel_rfl) ?_
      rotate_left
      ((first | refine sC0 hS rfl ?_ | refine sC1 hS rfl rfl ?_ | refine sC2 hS rfl rfl ?_ | refine sC3 hS rfl rfl rfl ?_ | refine sC4 hS rfl rfl rfl ?_); clear hS; first | ((fail_if_success guard_hyp g1); intro g1 w hS) | ((fail_if_success guard_hyp g2); intro g2 w hS) | ((fail_if_success guard_hyp g3); intro g3 w hS) | ((fail_if_success guard_hyp g4); intro g4 w hS) | ((fail_if_success guard_hyp g5); intro g5 w hS) | fail)
      (try simp only [Act.put, nA, nB, nC])
      refine dr_end hS ?_
      refine dr_one 5 (by kernel_rfl) rfl ?_
      (first | refine sL1 hS rfl rfl rfl ?_ | refine sL2 hS rfl rfl rfl ?_ | refine sL3 hS rfl rfl ?_ | refine sL4 hS rfl rfl ?_ | refine sL5 hS rfl rfl ?_ | refine sL6 hS rfl rfl ?_ | refine sL7 hS rfl rfl ?_)
      (try simp only [Act.put, nA, nB, nC])
      refine dr_end hS ?_
      refine dr_one 21 (by kernel_rfl) rfl ?_
      ((first | refine sP1 hS rfl rfl rfl ?_ | refine sP2 hS rfl rfl rfl ?_ | refine sP3 hS rfl rfl rfl ?_); clear hS; first | ((fail_if_success guard_hyp L1); intro L1 cl1 w hL1 hM1 hS) | ((fail_if_success guard_hyp L2); intro L2 cl2 w hL2 hM2 hS) | ((fail_if_success guard_hyp L3); intro L3 cl3 w hL3 hM3 hS) | ((fail_if_success guard_hyp L4); intro L4 cl4 w hL4 hM4 hS) | fail)
      (try simp only [Act.put, nA, nB, nC])
      refine dr_end hS ?_
      refine dP hS 22 rfl rfl ?_
      (try simp only [Act.put, nA, nB, nC])
      refine dP hS 23 rfl rfl ?_
      (try simp only [Act.put, nA, nB, nC])
      refine dP hS 24 rfl rfl ?_
      (try simp only [Act.put, nA, nB, nC])
      refine dr_one 25 (by kernel_rfl) rfl ?_
      ((first | refine sS1 hS rfl rfl rfl ?_ | refine sS2 hS rfl rfl rfl ?_ | refine sS3 hS rfl rfl rfl ?_ | refine sS4 hS rfl rfl rfl ?_ | refine sS5 hS rfl rfl rfl ?_); clear hS; intro w hS)
      (try simp only [Act.put, nA, nB, nC])
      refine dr_end hS ?_
      refine dr_done (by kernel_rfl) ?_
      rotate_left
      all_goals
        go_wp2_with fail
        simp only [List.set_cons_zero, List.set_cons_succ] at hS
        rw [show List.flatMap arcCells az ++ [Value.int .i64 (p0 : Int), .int .i64 (cn + 1), .int .i64 (q0 : Int), .int .i64 0] = List.flatMap arcCells (az ++ [⟨p0, cn + 1, q0, 0⟩]) by simp [arcCells]] at hS
        go_meet
        exact ⟨L1, cl1, hS.re⟩
    case rest =>
      clear hS
      obtain ⟨L1, cl1, hS⟩ := hcut
      go_wp2_with (first | (refine oL ?_; (first | refine sL1 hS rfl rfl rfl ?_ | refine sL2 hS rfl rfl rfl ?_ | refine sL3 hS rfl rfl ?_ | refine sL4 hS rfl rfl ?_ | refine sL5 hS rfl rfl ?_ | refine sL6 hS rfl rfl ?_ | refine sL7 hS rfl rfl ?_)) | ((first | (refine oB ?_; first | refine sB1 hS rfl rfl ?_ | refine sB2 hS rfl rfl ?_)); clear hS; first | ((fail_if_success guard_hyp g1); intro g1 w hS) | ((fail_if_success guard_hyp g2); intro g2 w hS) | ((fail_if_success guard_hyp g3); intro g3 w hS) | ((fail_if_success guard_hyp g4); intro g4 w hS) | ((fail_if_success guard_hyp g5); intro g5 w hS) | fail) | fail)
      refine dr_start2 [] 2 4 hS (by kernel_rfl) rfl ?_; clear hS; intro w hS
      refine dM hS 0 rfl rfl rfl ?_
      (try simp only [Act.put, nA, nB, nC])
      refine dM hS 1 rfl rfl rfl ?_
      (try simp only [Act.put, nA, nB, nC])
      refine dP hS 2 rfl rfl ?_
      (try simp only [Act.put, nA, nB, nC])
      refine dP hS 3 rfl rfl ?_
      (try simp only [Act.put, nA, nB, nC])
      refine dP hS 5 rfl rfl ?_
      (try simp only [Act.put, nA, nB, nC])
      first | refine dL1 hS 6 rfl rfl rfl rfl ?_ | refine dL2 hS 6 rfl rfl rfl rfl ?_ | refine dL3 hS 6 rfl rfl rfl ?_ | refine dL4 hS 6 rfl rfl rfl ?_ | refine dL5 hS 6 rfl rfl rfl ?_ | refine dL6 hS 6 rfl rfl rfl ?_ | refine dL7 hS 6 rfl rfl rfl ?_
      (try simp only [Act.put, nA, nB, nC])
      refine dr_two 4 7 (by kernel_rfl) rfl rfl ?_ ?_
      (first | refine sL1 hS rfl rfl rfl ?_ | refine sL2 hS rfl rfl rfl ?_ | refine sL3 hS rfl rfl ?_ | refine sL4 hS rfl rfl ?_ | refine sL5 hS rfl rfl ?_ | refine sL6 hS rfl rfl ?_ | refine sL7 hS rfl rfl ?_)
      (try simp only [Act.put, nA, nB, nC])
      refine dr_end hS ?_
      refine dr_one 7 (by kernel_rfl) rfl ?_
      ((first | refine sC0 hS rfl ?_ | refine sC1 hS rfl rfl ?_ | refine sC2 hS rfl rfl ?_ | refine sC3 hS rfl rfl rfl ?_ | refine sC4 hS rfl rfl rfl ?_); clear hS; first | ((fail_if_success guard_hyp g1); intro g1 w hS) | ((fail_if_success guard_hyp g2); intro g2 w hS) | ((fail_if_success guard_hyp g3); intro g3 w hS) | ((fail_if_success guard_hyp g4); intro g4 w hS) | ((fail_if_success guard_hyp g5); intro g5 w hS) | fail)
      (try simp only [Act.put, nA, nB, nC])
      refine dr_end hS ?_
      refine dr_one 8 (by kernel_rfl) rfl ?_
      ((first | refine sP1 hS rfl rfl rfl ?_ | refine sP2 hS rfl rfl rfl ?_ | refine sP3 hS rfl rfl rfl ?_); clear hS; first | ((fail_if_success guard_hyp L1); intro L1 cl1 w hL1 hM1 hS) | ((fail_if_success guard_hyp L2); intro L2 cl2 w hL2 hM2 hS) | ((fail_if_success guard_hyp L3); intro L3 cl3 w hL3 hM3 hS) | ((fail_if_success guard_hyp L4); intro L4 cl4 w hL4 hM4 hS) | fail)
      (try simp only [Act.put, nA, nB, nC])
      refine dr_end hS ?_
      refine dP hS 9 rfl rfl ?_
      (try simp only [Act.put, nA, nB, nC])
      refine dP hS 10 rfl rfl ?_
      (try simp only [Act.put, nA, nB, nC])
      refine dr_one 11 (by kernel_rfl) rfl ?_
      ((first | refine sS1 hS rfl rfl rfl ?_ | refine sS2 hS rfl rfl rfl ?_ | refine sS3 hS rfl rfl rfl ?_ | refine sS4 hS rfl rfl rfl ?_ | refine sS5 hS rfl rfl rfl ?_); clear hS; intro w hS)
      (try simp only [Act.put, nA, nB, nC])
      refine dr_end hS ?_
      refine dr_done (by kernel_rfl) ?_
      rotate_left
      ((first | refine sC0 hS rfl ?_ | refine sC1 hS rfl rfl ?_ | refine sC2 hS rfl rfl ?_ | refine sC3 hS rfl rfl rfl ?_ | refine sC4 hS rfl rfl rfl ?_); clear hS; first | ((fail_if_success guard_hyp g1); intro g1 w hS) | ((fail_if_success guard_hyp g2); intro g2 w hS) | ((fail_if_success guard_hyp g3); intro g3 w hS) | ((fail_if_success guard_hyp g4); intro g4 w hS) | ((fail_if_success guard_hyp g5); intro g5 w hS) | fail)
      (try simp only [Act.put, nA, nB, nC])
      refine dr_end hS ?_
      refine dr_one 4 (by kernel_rfl) rfl ?_
      (first | refine sL1 hS rfl rfl rfl ?_ | refine sL2 hS rfl rfl rfl ?_ | refine sL3 hS rfl rfl ?_ | refine sL4 hS rfl rfl ?_ | refine sL5 hS rfl rfl ?_ | refine sL6 hS rfl rfl ?_ | refine sL7 hS rfl rfl ?_)
      (try simp only [Act.put, nA, nB, nC])
      refine dr_end hS ?_
      refine dr_one 8 (by kernel_rfl) rfl ?_
      ((first | refine sP1 hS rfl rfl rfl ?_ | refine sP2 hS rfl rfl rfl ?_ | refine sP3 hS rfl rfl rfl ?_); clear hS; first | ((fail_if_success guard_hyp L1); intro L1 cl1 w hL1 hM1 hS) | ((fail_if_success guard_hyp L2); intro L2 cl2 w hL2 hM2 hS) | ((fail_if_success guard_hyp L3); intro L3 cl3 w hL3 hM3 hS) | ((fail_if_success guard_hyp L4); intro L4 cl4 w hL4 hM4 hS) | fail)
      (try simp only [Act.put, nA, nB, nC])
      refine dr_end hS ?_
      refine dP hS 9 rfl rfl ?_
      (try simp only [Act.put, nA, nB, nC])
      refine dP hS 10 rfl rfl ?_
      (try simp only [Act.put, nA, nB, nC])
      refine dr_one 11 (by kernel_rfl) rfl ?_
      ((first | refine sS1 hS rfl rfl rfl ?_ | refine sS2 hS rfl rfl rfl ?_ | refine sS3 hS rfl rfl rfl ?_ | refine sS4 hS rfl rfl rfl ?_ | refine sS5 hS rfl rfl rfl ?_); clear hS; intro w hS)
      (try simp only [Act.put, nA, nB, nC])
      refine dr_end hS ?_
      refine dr_done (by kernel_rfl) ?_
      rotate_left
      all_goals
        go_wp2_with (first | (refine oL ?_; (first | refine sL1 hS rfl rfl rfl ?_ | refine sL2 hS rfl rfl rfl ?_ | refine sL3 hS rfl rfl ?_ | refine sL4 hS rfl rfl ?_ | refine sL5 hS rfl rfl ?_ | refine sL6 hS rfl rfl ?_ | refine sL7 hS rfl rfl ?_)) | ((first | (refine oB ?_; first | refine sB1 hS rfl rfl ?_ | refine sB2 hS rfl rfl ?_)); clear hS; first | ((fail_if_success guard_hyp g1); intro g1 w hS) | ((fail_if_success guard_hyp g2); intro g2 w hS) | ((fail_if_success guard_hyp g3); intro g3 w hS) | ((fail_if_success guard_hyp g4); intro g4 w hS) | ((fail_if_success guard_hyp g5); intro g5 w hS) | fail) | fail)
        simp only [List.set_cons_zero, List.set_cons_succ] at hS
        rw [show ints vs ++ [Value.int .i64 val] = ints (vs ++ [val]) by simp [ints], ← HRS2.out] at hS
        refine bodyPost_ret (results_none rfl _ _ _) rfl ?_
        exact ⟨rfl, L1, cl1, L2, cl2, A1, k1, hS.re⟩
end Go.Proofs.Ytombhhhaidmpeaa
