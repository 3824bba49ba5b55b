/- (*trace).note: the delivery of a value. Conditions: the trace is a call's own. -/
import Derived.Test.YtombhhhaidmpeaaNote
namespace Go.Proofs.Ytombhhhaidmpeaa
open Go.RowKit
set_option linter.unusedVariables false
set_option linter.unusedSimpArgs false
set_option linter.unusedSectionVars false

set_option maxRecDepth 100000 in
set_option maxHeartbeats 6400000 in
/-- the delivery of a value -/
theorem noteD_st {w0 w : World} {M : Nat → Prop} {cs : List (Chunk w0 M)} (gt gl gq n nn na ck ca cv p0 q0 i0 c0 : Nat) (LK L3 LV A0 : Option Addr) (len : List Int) (az : List Arc) (vs : List Int) (rs : List QR) (Q0 : List Nat) (val : Int) (hS : St w0 M (blk gt [.slice (some ⟨gl, 0, none⟩) n n, .slice LK n ck, .slice L3 na ca, .slice LV na cv, .slice (some ⟨gq, 0, none⟩) nn nn] 52 :: row (.slice (some ⟨gl, 0, none⟩) n n) 3 1 n (ints (len)) :: row (.slice L3 na ca) 71 4 na (List.flatMap arcCells (az)) :: row (.slice LV na cv) 3 1 na (ints vs) :: row (.slice (some ⟨gq, 0, none⟩) nn nn) 24 1 nn (qvals rs) :: famC (qfam rs) :: cs) w)
    (hn : len.length = n) (hnn : n * n = nn) (hn5 : n ≤ 5) (hp : p0 < n) (hq : q0 < n) (hrs : rs.length = nn) (ha : az.length = na) (hna : na ≤ 60) (hl0 : 0 ≤ nth len q0 ∧ nth len q0 ≤ 60) (hrk : rs[p0 * n + q0]? = some (A0, c0, i0 :: Q0)) (hi0 : i0 < na) (hQ0 : Q0.length ≤ 60) :
    Calls Try.prog 34 #[.pointer (some ⟨gt, 0, none⟩), .agg #[.int .i64 2, .int .i64 (p0 : Int), .int .i64 (q0 : Int), .int .i64 val], .int .i64 (n : Int)] w fun e w' => e = .returned (.tuple #[]) ∧ ∃ A c, St w0 M (blk gt [.slice (some ⟨gl, 0, none⟩) n n, .slice LK n ck, .slice L3 na ca, .slice LV na cv, .slice (some ⟨gq, 0, none⟩) nn nn] 52 :: row (.slice (some ⟨gl, 0, none⟩) n n) 3 1 n (ints (len.set q0 (nth len q0 + 1))) :: row (.slice L3 na ca) 71 4 na (List.flatMap arcCells (az.set i0 { arcOf az i0 with at_ := nth len q0 + 1 })) :: row (.slice LV na cv) 3 1 na (ints vs) :: row (.slice (some ⟨gq, 0, none⟩) nn nn) 24 1 nn (qvals (rs.set (p0 * n + q0) (A, c, Q0))) :: famC (qfam (rs.set (p0 * n + q0) (A, c, Q0))) :: cs) w' := by
  have hkn : p0 * n + q0 < nn := by rw [← hnn]; exact ch_lt hp hq
  have hnn25 : nn ≤ 25 := by rw [← hnn]; exact Nat.mul_le_mul hn5 hn5
  have hpl : q0 < len.length := by omega
  have hlat := ints_at hpl
  have hlat2 := ints_at (l := len.set q0 (nth len q0 + 1)) (q := q0) (by rw [List.length_set]; exact hpl)
  rw [nth_set_same hpl] at hlat2
  have HRK := Lib.hid hrk
  have hqv := qvals_at hrk
  simp only at hqv
  have hqvl : p0 * n + q0 < (qvals rs).length := by rw [qvals_len]; omega
  have HAZ := Lib.hid (flat_set4 (l := az) (k := i0) (v := nth len q0 + 1) (by omega))
  have hfl : (List.flatMap arcCells az).length = na * 4 := by rw [← ha]; exact flat_length az
  have hq' : (q0 : Int) < n := by omega
  have hi' : (i0 : Int) < na := by omega
  obtain ⟨hm1, hm2⟩ := mul_bd hp hn5
  have hlz : nth len q0 + 1 ≤ 61 := by omega
  obtain ⟨ga, rfl⟩ := hS.rowSome L3 (by omega)
  generalize hcn : nth len q0 = cn at *
  generalize p0 * n = pn at *
  have hkn' : ((pn : Nat) : Int) + (q0 : Int) < nn := by omega
  clear hrk hn hrs ha hnn hcn
  go_enter Try.func34, Try.ntmps34
  go_wp2_with (first | (refine oL ?_; (first | refine sL1 hS rfl rfl rfl ?_ | refine sL2 hS rfl rfl rfl ?_ | refine sL3 hS rfl rfl ?_ | refine sL4 hS rfl rfl ?_ | refine sL5 hS rfl rfl ?_ | refine sL6 hS rfl rfl ?_ | refine sL7 hS rfl rfl ?_)) | ((first | (refine oB ?_; first | refine sB1 hS rfl rfl ?_ | refine sB2 hS rfl rfl ?_)); clear hS; first | ((fail_if_success guard_hyp g1); intro g1 w hS) | ((fail_if_success guard_hyp g2); intro g2 w hS) | ((fail_if_success guard_hyp g3); intro g3 w hS) | ((fail_if_success guard_hyp g4); intro g4 w hS) | ((fail_if_success guard_hyp g5); intro g5 w hS) | fail) | fail)
  refine dr_start0 [11]  hS (by kernel_rfl) rfl ?_; clear hS; intro w hS
  refine dM hS 0 rfl rfl rfl ?_
  (try simp only [Act.put, nA, nB, nC])
  refine dP hS 1 rfl rfl ?_
  (try simp only [Act.put, nA, nB, nC])
  refine dP hS 2 rfl rfl ?_
  (try simp only [Act.put, nA, nB, nC])
  refine dP hS 3 rfl rfl ?_
  (try simp only [Act.put, nA, nB, nC])
  first | refine dL1 hS 4 rfl rfl rfl rfl ?_ | refine dL2 hS 4 rfl rfl rfl rfl ?_ | refine dL3 hS 4 rfl rfl rfl ?_ | refine dL4 hS 4 rfl rfl rfl ?_ | refine dL5 hS 4 rfl rfl rfl ?_ | refine dL6 hS 4 rfl rfl rfl ?_ | refine dL7 hS 4 rfl rfl rfl ?_
  (try simp only [Act.put, nA, nB, nC])
  refine dP hS 5 rfl rfl ?_
  (try simp only [Act.put, nA, nB, nC])
  first | refine dL1 hS 6 rfl rfl rfl rfl ?_ | refine dL2 hS 6 rfl rfl rfl rfl ?_ | refine dL3 hS 6 rfl rfl rfl ?_ | refine dL4 hS 6 rfl rfl rfl ?_ | refine dL5 hS 6 rfl rfl rfl ?_ | refine dL6 hS 6 rfl rfl rfl ?_ | refine dL7 hS 6 rfl rfl rfl ?_
  (try simp only [Act.put, nA, nB, nC])
  refine dP hS 7 rfl rfl ?_
  (try simp only [Act.put, nA, nB, nC])
  first | refine dL1 hS 8 rfl rfl rfl rfl ?_ | refine dL2 hS 8 rfl rfl rfl rfl ?_ | refine dL3 hS 8 rfl rfl rfl ?_ | refine dL4 hS 8 rfl rfl rfl ?_ | refine dL5 hS 8 rfl rfl rfl ?_ | refine dL6 hS 8 rfl rfl rfl ?_ | refine dL7 hS 8 rfl rfl rfl ?_
  (try simp only [Act.put, nA, nB, nC])
  refine dP hS 9 rfl rfl ?_
  (try simp only [Act.put, nA, nB, nC])
  refine dP hS 10 rfl rfl ?_
  (try simp only [Act.put, nA, nB, nC])
  refine dr_one 11 (by kernel_rfl) rfl ?_
  ((first | refine sS1 hS rfl rfl rfl ?_ | refine sS2 hS rfl rfl rfl ?_ | refine sS3 hS rfl rfl rfl ?_ | refine sS4 hS rfl rfl rfl ?_ | refine sS5 hS rfl rfl rfl ?_); clear hS; intro w hS)
  (try simp only [Act.put, nA, nB, nC])
  refine dr_late (by kernel_rfl) ?_
  refine dr_done (by kernel_rfl) ?_
  go_wp2_with (first | (refine oL ?_; (first | refine sL1 hS rfl rfl rfl ?_ | refine sL2 hS rfl rfl rfl ?_ | refine sL3 hS rfl rfl ?_ | refine sL4 hS rfl rfl ?_ | refine sL5 hS rfl rfl ?_ | refine sL6 hS rfl rfl ?_ | refine sL7 hS rfl rfl ?_)) | ((first | (refine oB ?_; first | refine sB1 hS rfl rfl ?_ | refine sB2 hS rfl rfl ?_)); clear hS; first | ((fail_if_success guard_hyp g1); intro g1 w hS) | ((fail_if_success guard_hyp g2); intro g2 w hS) | ((fail_if_success guard_hyp g3); intro g3 w hS) | ((fail_if_success guard_hyp g4); intro g4 w hS) | ((fail_if_success guard_hyp g5); intro g5 w hS) | fail) | fail)
  replace hS := (hS.re (ds := famC (qfam rs) :: blk g1 [.int .i64 2, .int .i64 (p0 : Int), .int .i64 (q0 : Int), .int .i64 val] 62 :: blk gt [.slice (some ⟨gl, 0, none⟩) n n, .slice LK n ck, .slice (some ⟨ga, 0, none⟩) na ca, .slice LV na cv, .slice (some ⟨gq, 0, none⟩) nn nn] 52 :: row (.slice (some ⟨gl, 0, none⟩) n n) 3 1 n (ints (len.set q0 (cn + 1))) :: row (.slice (some ⟨ga, 0, none⟩) na ca) 71 4 na (List.flatMap arcCells (az)) :: row (.slice LV na cv) 3 1 na (ints vs) :: row (.slice (some ⟨gq, 0, none⟩) nn nn) 24 1 nn (qvals rs) :: cs)).famCTake (qfam_at HRK.out)
  simp only [nats, List.map_cons, ints] at hS
  obtain ⟨gh, oh, rfl⟩ := hS.someO
  have hcap := hS.capO
  simp only [List.length_cons, List.length_map] at hcap hqv
  refine dr_start2 [] 0 4 hS (by kernel_rfl) rfl ?_; clear hS; intro w hS
  refine dM hS 0 rfl rfl rfl ?_
  (try simp only [Act.put, nA, nB, nC])
  refine dP hS 1 rfl rfl ?_
  (try simp only [Act.put, nA, nB, nC])
  refine dP hS 2 rfl rfl ?_
  (try simp only [Act.put, nA, nB, nC])
  refine dP hS 3 rfl rfl ?_
  (try simp only [Act.put, nA, nB, nC])
  first | refine dL1 hS 4 rfl rfl rfl rfl ?_ | refine dL2 hS 4 rfl rfl rfl rfl ?_ | refine dL3 hS 4 rfl rfl rfl ?_ | refine dL4 hS 4 rfl rfl rfl ?_ | refine dL5 hS 4 rfl rfl rfl ?_ | refine dL6 hS 4 rfl rfl rfl ?_ | refine dL7 hS 4 rfl rfl rfl ?_
  (try simp only [Act.put, nA, nB, nC])
  refine dM hS 5 rfl rfl rfl ?_
  (try simp only [Act.put, nA, nB, nC])
  refine dP hS 6 rfl rfl ?_
  (try simp only [Act.put, nA, nB, nC])
  refine dP hS 7 rfl rfl ?_
  (try simp only [Act.put, nA, nB, nC])
  first | refine dL1 hS 8 rfl rfl rfl rfl ?_ | refine dL2 hS 8 rfl rfl rfl rfl ?_ | refine dL3 hS 8 rfl rfl rfl ?_ | refine dL4 hS 8 rfl rfl rfl ?_ | refine dL5 hS 8 rfl rfl rfl ?_ | refine dL6 hS 8 rfl rfl rfl ?_ | refine dL7 hS 8 rfl rfl rfl ?_
  (try simp only [Act.put, nA, nB, nC])
  refine dM hS 9 rfl rfl rfl ?_
  (try simp only [Act.put, nA, nB, nC])
  refine dP hS 10 rfl rfl ?_
  (try simp only [Act.put, nA, nB, nC])
  first | refine dL1 hS 11 rfl rfl rfl rfl ?_ | refine dL2 hS 11 rfl rfl rfl rfl ?_ | refine dL3 hS 11 rfl rfl rfl ?_ | refine dL4 hS 11 rfl rfl rfl ?_ | refine dL5 hS 11 rfl rfl rfl ?_ | refine dL6 hS 11 rfl rfl rfl ?_ | refine dL7 hS 11 rfl rfl rfl ?_
  (try simp only [Act.put, nA, nB, nC])
  refine dP hS 12 rfl rfl ?_
  (try simp only [Act.put, nA, nB, nC])
  refine dM hS 14 rfl rfl rfl ?_
  (try simp only [Act.put, nA, nB, nC])
  refine dP hS 15 rfl rfl ?_
  (try simp only [Act.put, nA, nB, nC])
  refine dP hS 16 rfl rfl ?_
  (try simp only [Act.put, nA, nB, nC])
  refine dP hS 17 rfl rfl ?_
  (try simp only [Act.put, nA, nB, nC])
  first | refine dL1 hS 18 rfl rfl rfl rfl ?_ | refine dL2 hS 18 rfl rfl rfl rfl ?_ | refine dL3 hS 18 rfl rfl rfl ?_ | refine dL4 hS 18 rfl rfl rfl ?_ | refine dL5 hS 18 rfl rfl rfl ?_ | refine dL6 hS 18 rfl rfl rfl ?_ | refine dL7 hS 18 rfl rfl rfl ?_
  (try simp only [Act.put, nA, nB, nC])
  refine dP hS 19 rfl rfl ?_
  (try simp only [Act.put, nA, nB, nC])
  first | refine dL1 hS 20 rfl rfl rfl rfl ?_ | refine dL2 hS 20 rfl rfl rfl rfl ?_ | refine dL3 hS 20 rfl rfl rfl ?_ | refine dL4 hS 20 rfl rfl rfl ?_ | refine dL5 hS 20 rfl rfl rfl ?_ | refine dL6 hS 20 rfl rfl rfl ?_ | refine dL7 hS 20 rfl rfl rfl ?_
  (try simp only [Act.put, nA, nB, nC])
  refine dP hS 21 rfl rfl ?_
  (try simp only [Act.put, nA, nB, nC])
  first | refine dL1 hS 22 rfl rfl rfl rfl ?_ | refine dL2 hS 22 rfl rfl rfl rfl ?_ | refine dL3 hS 22 rfl rfl rfl ?_ | refine dL4 hS 22 rfl rfl rfl ?_ | refine dL5 hS 22 rfl rfl rfl ?_ | refine dL6 hS 22 rfl rfl rfl ?_ | refine dL7 hS 22 rfl rfl rfl ?_
  (try simp only [Act.put, nA, nB, nC])
  refine dr_one 13 (by kernel_rfl) rfl ?_
  refine st_load1 inferInstance rfl rfl hS.headO ?_
  (try simp only [Act.put, nA, nB, nC])
  refine dr_end hS ?_
  refine dP hS 23 rfl rfl ?_
  (try simp only [Act.put, nA, nB, nC])
  refine dP hS 24 rfl rfl ?_
  (try simp only [Act.put, nA, nB, nC])
  refine dr_one 25 (by kernel_rfl) rfl ?_
  ((first | refine sS1 hS rfl rfl rfl ?_ | refine sS2 hS rfl rfl rfl ?_ | refine sS3 hS rfl rfl rfl ?_ | refine sS4 hS rfl rfl rfl ?_ | refine sS5 hS rfl rfl rfl ?_); clear hS; intro w hS)
  (try simp only [Act.put, nA, nB, nC])
  refine dr_end hS ?_
  refine dr_done (by kernel_rfl) ?_
  all_goals
    go_upto_region 10 with (first | (refine oL ?_; (first | refine sL1 hS rfl rfl rfl ?_ | refine sL2 hS rfl rfl rfl ?_ | refine sL3 hS rfl rfl ?_ | refine sL4 hS rfl rfl ?_ | refine sL5 hS rfl rfl ?_ | refine sL6 hS rfl rfl ?_ | refine sL7 hS rfl rfl ?_)) | ((first | (refine oB ?_; first | refine sB1 hS rfl rfl ?_ | refine sB2 hS rfl rfl ?_)); clear hS; first | ((fail_if_success guard_hyp g1); intro g1 w hS) | ((fail_if_success guard_hyp g2); intro g2 w hS) | ((fail_if_success guard_hyp g3); intro g3 w hS) | ((fail_if_success guard_hyp g4); intro g4 w hS) | ((fail_if_success guard_hyp g5); intro g5 w hS) | fail) | fail)
    replace hS : St w0 M (orow 3 (some ⟨gh, oh, none⟩) c0 (.int .i64 (i0 : Int) :: ints (nats Q0)) :: famC ((qfam rs).set (pn + q0) nop) :: blk g1 [.int .i64 2, .int .i64 (p0 : Int), .int .i64 (q0 : Int), .int .i64 val] 62 :: blk gt [.slice (some ⟨gl, 0, none⟩) n n, .slice LK n ck, .slice (some ⟨ga, 0, none⟩) na ca, .slice LV na cv, .slice (some ⟨gq, 0, none⟩) nn nn] 52 :: row (.slice (some ⟨gl, 0, none⟩) n n) 3 1 n (ints (len.set q0 (cn + 1))) :: row (.slice (some ⟨ga, 0, none⟩) na ca) 71 4 na ((List.flatMap arcCells az).set (i0 * 4 + 3) (.int .i64 (cn + 1))) :: row (.slice LV na cv) 3 1 na (ints vs) :: row (.slice (some ⟨gq, 0, none⟩) nn nn) 24 1 nn (qvals rs) :: cs) _ := hS.re
    refine dr_start1 [14] 7 hS (by kernel_rfl) rfl ?_; clear hS; intro w hS
    refine dM hS 0 rfl rfl rfl ?_
    (try simp only [Act.put, nA, nB, nC])
    refine dP hS 1 rfl rfl ?_
    (try simp only [Act.put, nA, nB, nC])
    refine dP hS 2 rfl rfl ?_
    (try simp only [Act.put, nA, nB, nC])
    first | refine dL1 hS 3 rfl rfl rfl rfl ?_ | refine dL2 hS 3 rfl rfl rfl rfl ?_ | refine dL3 hS 3 rfl rfl rfl ?_ | refine dL4 hS 3 rfl rfl rfl ?_ | refine dL5 hS 3 rfl rfl rfl ?_ | refine dL6 hS 3 rfl rfl rfl ?_ | refine dL7 hS 3 rfl rfl rfl ?_
    (try simp only [Act.put, nA, nB, nC])
    refine dM hS 4 rfl rfl rfl ?_
    (try simp only [Act.put, nA, nB, nC])
    refine dM hS 5 rfl rfl rfl ?_
    (try simp only [Act.put, nA, nB, nC])
    refine dP hS 6 rfl rfl ?_
    (try simp only [Act.put, nA, nB, nC])
    refine dP hS 7 rfl rfl ?_
    (try simp only [Act.put, nA, nB, nC])
    first | refine dL1 hS 8 rfl rfl rfl rfl ?_ | refine dL2 hS 8 rfl rfl rfl rfl ?_ | refine dL3 hS 8 rfl rfl rfl ?_ | refine dL4 hS 8 rfl rfl rfl ?_ | refine dL5 hS 8 rfl rfl rfl ?_ | refine dL6 hS 8 rfl rfl rfl ?_ | refine dL7 hS 8 rfl rfl rfl ?_
    (try simp only [Act.put, nA, nB, nC])
    refine dM hS 9 rfl rfl rfl ?_
    (try simp only [Act.put, nA, nB, nC])
    refine dP hS 10 rfl rfl ?_
    (try simp only [Act.put, nA, nB, nC])
    refine dr_one 11 (by kernel_rfl) rfl ?_
    (first | refine sL1 hS rfl rfl rfl ?_ | refine sL2 hS rfl rfl rfl ?_ | refine sL3 hS rfl rfl ?_ | refine sL4 hS rfl rfl ?_ | refine sL5 hS rfl rfl ?_ | refine sL6 hS rfl rfl ?_ | refine sL7 hS rfl rfl ?_)
    (try simp only [Act.put, nA, nB, nC])
    refine dr_end hS ?_
    first | refine dT (sz := 1) Try.underlying24 (by kernel_rfl) (by omega) (by omega) hS 12 rfl rfl rfl rfl ?_ | refine dP hS 12 rfl rfl ?_
    (try simp only [Act.put, nA, nB, nC])
    refine dP hS 13 rfl rfl ?_
    (try simp only [Act.put, nA, nB, nC])
    refine dr_one 14 (by kernel_rfl) rfl ?_
    ((first | refine sS1 hS rfl rfl rfl ?_ | refine sS2 hS rfl rfl rfl ?_ | refine sS3 hS rfl rfl rfl ?_ | refine sS4 hS rfl rfl rfl ?_ | refine sS5 hS rfl rfl rfl ?_); clear hS; intro w hS)
    (try simp only [Act.put, nA, nB, nC])
    refine dr_late (by kernel_rfl) ?_
    refine dr_done (by kernel_rfl) ?_
  all_goals
    go_wp2_with (first | (refine oL ?_; (first | refine sL1 hS rfl rfl rfl ?_ | refine sL2 hS rfl rfl rfl ?_ | refine sL3 hS rfl rfl ?_ | refine sL4 hS rfl rfl ?_ | refine sL5 hS rfl rfl ?_ | refine sL6 hS rfl rfl ?_ | refine sL7 hS rfl rfl ?_)) | ((first | (refine oB ?_; first | refine sB1 hS rfl rfl ?_ | refine sB2 hS rfl rfl ?_)); clear hS; first | ((fail_if_success guard_hyp g1); intro g1 w hS) | ((fail_if_success guard_hyp g2); intro g2 w hS) | ((fail_if_success guard_hyp g3); intro g3 w hS) | ((fail_if_success guard_hyp g4); intro g4 w hS) | ((fail_if_success guard_hyp g5); intro g5 w hS) | fail) | fail)
    replace hS := hS.tailO
    have hqs2 := qvals_set (rs := rs) (k := pn + q0) (tailA gh oh c0 1, c0 - 1, Q0)
    simp only at hqs2
    rw [Nat.add_sub_cancel, hqs2] at hS
    replace hS := hS.famCPut (j := pn + q0)
    have hqf2 := qfam_set (w0 := w0) (M := M) (rs := rs) (k := pn + q0) (tailA gh oh c0 1, c0 - 1, Q0)
    simp only at hqf2
    rw [hqf2, HAZ.out] at hS
    go_end0
    exact ⟨rfl, tailA gh oh c0 1, c0 - 1, hS.re⟩
end Go.Proofs.Ytombhhhaidmpeaa
