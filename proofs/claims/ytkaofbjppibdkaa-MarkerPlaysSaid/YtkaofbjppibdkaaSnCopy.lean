/- rollbacknetref23.Copy. Conditions: the machine lies in memory, its lists are short. -/
import Derived.Test.YtkaofbjppibdkaaSnFam
namespace Go.Proofs.Ytkaofbjppibdkaa
open Go.RowKit
set_option linter.unusedVariables false
set_option linter.unusedSimpArgs false
set_option linter.unusedSectionVars false

/-- what Copy returns: rows of its own -/
def CopyRet (w0 : World) (M : Nat → Prop) (cs : List (Chunk w0 M)) (T : Nat → Prop) (u : World) (s : Snp) (n nn : Nat) (e : Ending) (w' : World) : Prop := ∃ (L1 : Option Addr) (k1 : Nat) (L2 : Option Addr) (k2 : Nat) (Lh : Option Addr) (kh : Nat) (L4 : Option Addr) (k4 : Nat) (L5 : Option Addr) (k5 : Nat) (L6 : Option Addr) (k6 : Nat) (Lr : Option Addr) (kr : Nat) (rs rs2 : List RwD), e = .returned (.agg #[.slice L1 n k1, .slice L2 n k2, .slice Lh nn kh, .slice L4 n k4, .slice L5 n k5, .slice L6 nn k6, .slice Lr nn kr]) ∧ Hid (FamOf pcs rs s.chs) ∧ Hid (FamOf ints rs2 s.recs) ∧ St w0 M (row (.slice Lr nn kr) 22 1 nn (rs2.map (·.1)) :: fam2 3 1 rs2 :: row (.slice Lh nn kh) 46 1 nn (rs.map (·.1)) :: fam2 48 2 rs :: froz T u :: row (.slice L1 n k1) 3 1 n (ints s.vals) :: row (.slice L2 n k2) 3 1 n (ints s.cnts) :: row (.slice L4 n k4) 3 1 n (ints s.cut) :: row (.slice L5 n k5) 3 1 n (ints s.saved) :: row (.slice L6 nn k6) 4 1 nn (bools s.opn) :: cs) w'
set_option maxRecDepth 100000 in
set_option maxHeartbeats 6400000 in
theorem copy_st {w0 w u : World} {M T : Nat → Prop} {cs : List (Chunk w0 M)} (A1 : Option Addr) (c1 : Nat) (A2 : Option Addr) (c2 : Nat) (A3 : Option Addr) (c3 : Nat) (A4 : Option Addr) (c4 : Nat) (A5 : Option Addr) (c5 : Nat) (A6 : Option Addr) (c6 : Nat) (A7 : Option Addr) (c7 : Nat) (s : Snp) (n nn b : Nat) (hS : St w0 M (froz T u :: cs) w) (hs : SnAt T u ⟨A1, c1, A2, c2, A3, c3, A4, c4, A5, c5, A6, c6, A7, c7⟩ s) (hok : SnOk n b s) (hnn : n * n = nn) (hb : b ≤ 10000) :
    Calls Try.prog 42 #[.agg #[.slice A1 n c1, .slice A2 n c2, .slice A3 nn c3, .slice A4 n c4, .slice A5 n c5, .slice A6 nn c6, .slice A7 nn c7]] w (CopyRet w0 M cs T u s n nn) := by
  have hn5 := hok.n5
  have hnn25 : nn ≤ 25 := by rw [← hnn]; exact Nat.mul_le_mul hn5 hn5
  have HV := Lib.hid (And.intro hs (And.intro (show (ints s.vals).length = n * 1 by simp [hok.lv]) (And.intro (show (ints s.cnts).length = n * 1 by simp [hok.lc]) (And.intro (show (ints s.cut).length = n * 1 by simp [hok.lk]) (And.intro (show (ints s.saved).length = n * 1 by simp [hok.ls]) (show (bools s.opn).length = nn * 1 by simp [bools_len, hok.lo, hnn]))))))
  have HOB := Lib.hid (show ∀ u ∈ bools s.opn, u.oneCell' = true from fun u hu => by simp only [bools, List.mem_map] at hu; obtain ⟨x, _, rfl⟩ := hu; rfl)
  have HK := Lib.hid (And.intro hok hnn)
  have HLC := Lib.hid (show s.chs.length = nn by rw [hok.lh]; exact hnn)
  have HLR := Lib.hid (show s.recs.length = nn by rw [hok.lr]; exact hnn)
  have HSN := Lib.hid hs
  have HRB := Lib.hid (fun j (h : j < s.recs.length) => show (rowOf s.recs j).length ≤ b by rw [rowOf_eq h]; exact hok.rb _ (List.getElem_mem h))
  clear hs hok hnn
  go_enter Try.func42, Try.ntmps42
  go_upto_region 1 with (first | (refine oL ?_; (first | refine sL1 hS rfl rfl rfl ?_ | refine sL2 hS rfl rfl rfl ?_ | refine sL3 hS rfl rfl ?_ | refine sL4 hS rfl rfl ?_ | refine sL5 hS rfl rfl ?_ | refine sL6 hS rfl rfl ?_ | refine sL7 hS rfl rfl ?_)) | (refine oS ?_; ((first | refine sS1 hS rfl rfl rfl ?_ | refine sS2 hS rfl rfl rfl ?_ | refine sS3 hS rfl rfl rfl ?_ | refine sS4 hS rfl rfl rfl ?_ | refine sS5 hS rfl rfl rfl ?_); clear hS; intro w hS)) | ((first | (refine oB ?_; first | refine sB1 hS rfl rfl ?_ | refine sB2 hS rfl rfl ?_) | refine sN1 hS rfl ?_); clear hS; first | ((fail_if_success guard_hyp g1); intro g1 w hS) | ((fail_if_success guard_hyp g2); intro g2 w hS) | ((fail_if_success guard_hyp g3); intro g3 w hS) | ((fail_if_success guard_hyp g4); intro g4 w hS) | ((fail_if_success guard_hyp g5); intro g5 w hS) | ((fail_if_success guard_hyp g6); intro g6 w hS) | fail) | fail)
  try simp only [Act.put, nA, nB, nC]
  go_cut [3] (fun s3 wx => ∃ (g3 : Nat) (L1 : Option Addr) (k1 : Nat) (L2 : Option Addr) (k2 : Nat) (L4 : Option Addr) (k4 : Nat) (L5 : Option Addr) (k5 : Nat) (L6 : Option Addr) (k6 : Nat), s3 = .pointer (some ⟨g3, 0, none⟩) ∧ St w0 M (blk g3 [.slice L1 n k1, .slice L2 n k2, .slice none 0 0, .slice L4 n k4, .slice L5 n k5, .slice L6 nn k6, .slice none 0 0] 28 :: blk g1 [.slice A1 n c1, .slice A2 n c2, .slice A3 nn c3, .slice A4 n c4, .slice A5 n c5, .slice A6 nn c6, .slice A7 nn c7] 28 :: froz T u :: row (.slice L1 n k1) 3 1 n (ints s.vals) :: row (.slice L2 n k2) 3 1 n (ints s.cnts) :: row (.slice L4 n k4) 3 1 n (ints s.cut) :: row (.slice L5 n k5) 3 1 n (ints s.saved) :: row (.slice L6 nn k6) 4 1 nn (bools s.opn) :: blk g2 sn0 28 :: cs) wx)
  case first =>
    refine dr_start0 [17]  hS (by kernel_rfl) rfl ?_; clear hS; intro w hS
    refine dP hS 0 rfl rfl ?_
    (try simp only [Act.put, nA, nB, nC])
    first | refine dL1 hS 1 rfl rfl rfl rfl ?_ | refine dL2 hS 1 rfl rfl rfl rfl ?_ | refine dL3 hS 1 rfl rfl rfl ?_ | refine dL4 hS 1 rfl rfl rfl ?_ | refine dL5 hS 1 rfl rfl rfl ?_ | refine dL6 hS 1 rfl rfl rfl ?_ | refine dL7 hS 1 rfl rfl rfl ?_
    (try simp only [Act.put, nA, nB, nC])
    refine dP hS 3 rfl rfl ?_
    (try simp only [Act.put, nA, nB, nC])
    first | refine dL1 hS 4 rfl rfl rfl rfl ?_ | refine dL2 hS 4 rfl rfl rfl rfl ?_ | refine dL3 hS 4 rfl rfl rfl ?_ | refine dL4 hS 4 rfl rfl rfl ?_ | refine dL5 hS 4 rfl rfl rfl ?_ | refine dL6 hS 4 rfl rfl rfl ?_ | refine dL7 hS 4 rfl rfl rfl ?_
    (try simp only [Act.put, nA, nB, nC])
    refine dP hS 6 rfl rfl ?_
    (try simp only [Act.put, nA, nB, nC])
    first | refine dL1 hS 7 rfl rfl rfl rfl ?_ | refine dL2 hS 7 rfl rfl rfl rfl ?_ | refine dL3 hS 7 rfl rfl rfl ?_ | refine dL4 hS 7 rfl rfl rfl ?_ | refine dL5 hS 7 rfl rfl rfl ?_ | refine dL6 hS 7 rfl rfl rfl ?_ | refine dL7 hS 7 rfl rfl rfl ?_
    (try simp only [Act.put, nA, nB, nC])
    refine dP hS 9 rfl rfl ?_
    (try simp only [Act.put, nA, nB, nC])
    first | refine dL1 hS 10 rfl rfl rfl rfl ?_ | refine dL2 hS 10 rfl rfl rfl rfl ?_ | refine dL3 hS 10 rfl rfl rfl ?_ | refine dL4 hS 10 rfl rfl rfl ?_ | refine dL5 hS 10 rfl rfl rfl ?_ | refine dL6 hS 10 rfl rfl rfl ?_ | refine dL7 hS 10 rfl rfl rfl ?_
    (try simp only [Act.put, nA, nB, nC])
    refine dP hS 12 rfl rfl ?_
    (try simp only [Act.put, nA, nB, nC])
    first | refine dL1 hS 13 rfl rfl rfl rfl ?_ | refine dL2 hS 13 rfl rfl rfl rfl ?_ | refine dL3 hS 13 rfl rfl rfl ?_ | refine dL4 hS 13 rfl rfl rfl ?_ | refine dL5 hS 13 rfl rfl rfl ?_ | refine dL6 hS 13 rfl rfl rfl ?_ | refine dL7 hS 13 rfl rfl rfl ?_
    (try simp only [Act.put, nA, nB, nC])
    refine dr_two 2 16 (by kernel_rfl) rfl rfl ?_ ?_
    refine st_appN hS rfl rfl rfl (HV.out.1.vals.into hS.frozInto) HV.out.2.1 (oneCell_ints _) (by omega) ?_; clear hS; intro L1 cl1 w hL1 hM1 hS
    (try simp only [Act.put, nA, nB, nC])
    refine dr_end hS ?_
    refine dr_two 5 16 (by kernel_rfl) rfl rfl ?_ ?_
    refine st_appN hS rfl rfl rfl (HV.out.1.cnts.into hS.frozInto) HV.out.2.2.1 (oneCell_ints _) (by omega) ?_; clear hS; intro L2 cl2 w hL2 hM2 hS
    (try simp only [Act.put, nA, nB, nC])
    refine dr_end hS ?_
    refine dr_two 8 16 (by kernel_rfl) rfl rfl ?_ ?_
    refine st_appN hS rfl rfl rfl (HV.out.1.cut.into hS.frozInto) HV.out.2.2.2.1 (oneCell_ints _) (by omega) ?_; clear hS; intro L3 cl3 w hL3 hM3 hS
    (try simp only [Act.put, nA, nB, nC])
    refine dr_end hS ?_
    refine dr_two 11 16 (by kernel_rfl) rfl rfl ?_ ?_
    refine st_appN hS rfl rfl rfl (HV.out.1.saved.into hS.frozInto) HV.out.2.2.2.2.1 (oneCell_ints _) (by omega) ?_; clear hS; intro L4 cl4 w hL4 hM4 hS
    (try simp only [Act.put, nA, nB, nC])
    refine dr_end hS ?_
    refine dr_two 14 16 (by kernel_rfl) rfl rfl ?_ ?_
    refine st_appN hS rfl rfl rfl (HV.out.1.opn.into hS.frozInto) HV.out.2.2.2.2.2 HOB.out (by omega) ?_; clear hS; intro L5 cl5 w hL5 hM5 hS
    (try simp only [Act.put, nA, nB, nC])
    refine dr_end hS ?_
    refine dP hS 15 rfl rfl ?_
    (try simp only [Act.put, nA, nB, nC])
    refine dr_one 16 (by kernel_rfl) rfl ?_
    (refine sN1 hS rfl ?_; clear hS; first | ((fail_if_success guard_hyp g1); intro g1 w hS) | ((fail_if_success guard_hyp g2); intro g2 w hS) | ((fail_if_success guard_hyp g3); intro g3 w hS) | ((fail_if_success guard_hyp g4); intro g4 w hS) | ((fail_if_success guard_hyp g5); intro g5 w hS) | ((fail_if_success guard_hyp g6); intro g6 w hS) | fail)
    (try simp only [Act.put, nA, nB, nC])
    refine dr_end hS ?_
    refine dr_one 17 (by kernel_rfl) rfl ?_
    ((first | refine sS1 hS rfl rfl rfl ?_ | refine sS2 hS rfl rfl rfl ?_ | refine sS3 hS rfl rfl rfl ?_ | refine sS4 hS rfl rfl rfl ?_ | refine sS5 hS rfl rfl rfl ?_); clear hS; intro w hS)
    (try simp only [Act.put, nA, nB, nC])
    refine dr_late (by kernel_rfl) ?_
    refine dr_done (by kernel_rfl) ?_
    rotate_left
    (refine sN1 hS rfl ?_; clear hS; first | ((fail_if_success guard_hyp g1); intro g1 w hS) | ((fail_if_success guard_hyp g2); intro g2 w hS) | ((fail_if_success guard_hyp g3); intro g3 w hS) | ((fail_if_success guard_hyp g4); intro g4 w hS) | ((fail_if_success guard_hyp g5); intro g5 w hS) | ((fail_if_success guard_hyp g6); intro g6 w hS) | fail)
    (try simp only [Act.put, nA, nB, nC])
    refine dr_end hS ?_
    refine dr_one 14 (by kernel_rfl) rfl ?_
    refine st_appN hS rfl rfl rfl (HV.out.1.opn.into hS.frozInto) HV.out.2.2.2.2.2 HOB.out (by omega) ?_; clear hS; intro L5 cl5 w hL5 hM5 hS
    (try simp only [Act.put, nA, nB, nC])
    refine dr_end hS ?_
    refine dP hS 15 rfl rfl ?_
    (try simp only [Act.put, nA, nB, nC])
    refine dr_one 17 (by kernel_rfl) rfl ?_
    ((first | refine sS1 hS rfl rfl rfl ?_ | refine sS2 hS rfl rfl rfl ?_ | refine sS3 hS rfl rfl rfl ?_ | refine sS4 hS rfl rfl rfl ?_ | refine sS5 hS rfl rfl rfl ?_); clear hS; intro w hS)
    (try simp only [Act.put, nA, nB, nC])
    refine dr_late (by kernel_rfl) ?_
    refine dr_done (by kernel_rfl) ?_
    rotate_left
    (refine sN1 hS rfl ?_; clear hS; first | ((fail_if_success guard_hyp g1); intro g1 w hS) | ((fail_if_success guard_hyp g2); intro g2 w hS) | ((fail_if_success guard_hyp g3); intro g3 w hS) | ((fail_if_success guard_hyp g4); intro g4 w hS) | ((fail_if_success guard_hyp g5); intro g5 w hS) | ((fail_if_success guard_hyp g6); intro g6 w hS) | fail)
    (try simp only [Act.put, nA, nB, nC])
    refine dr_end hS ?_
    refine dr_one 11 (by kernel_rfl) rfl ?_
    refine st_appN hS rfl rfl rfl (HV.out.1.saved.into hS.frozInto) HV.out.2.2.2.2.1 (oneCell_ints _) (by omega) ?_; clear hS; intro L4 cl4 w hL4 hM4 hS
    (try simp only [Act.put, nA, nB, nC])
    refine dr_end hS ?_
    refine dr_one 14 (by kernel_rfl) rfl ?_
    refine st_appN hS rfl rfl rfl (HV.out.1.opn.into hS.frozInto) HV.out.2.2.2.2.2 HOB.out (by omega) ?_; clear hS; intro L5 cl5 w hL5 hM5 hS
    (try simp only [Act.put, nA, nB, nC])
    refine dr_end hS ?_
    refine dP hS 15 rfl rfl ?_
    (try simp only [Act.put, nA, nB, nC])
    refine dr_one 17 (by kernel_rfl) rfl ?_
    ((first | refine sS1 hS rfl rfl rfl ?_ | refine sS2 hS rfl rfl rfl ?_ | refine sS3 hS rfl rfl rfl ?_ | refine sS4 hS rfl rfl rfl ?_ | refine sS5 hS rfl rfl rfl ?_); clear hS; intro w hS)
    (try simp only [Act.put, nA, nB, nC])
    refine dr_late (by kernel_rfl) ?_
    refine dr_done (by kernel_rfl) ?_
    rotate_left
    (refine sN1 hS rfl ?_; clear hS; first | ((fail_if_success guard_hyp g1); intro g1 w hS) | ((fail_if_success guard_hyp g2); intro g2 w hS) | ((fail_if_success guard_hyp g3); intro g3 w hS) | ((fail_if_success guard_hyp g4); intro g4 w hS) | ((fail_if_success guard_hyp g5); intro g5 w hS) | ((fail_if_success guard_hyp g6); intro g6 w hS) | fail)
    (try simp only [Act.put, nA, nB, nC])
    refine dr_end hS ?_
    refine dr_one 8 (by kernel_rfl) rfl ?_
    refine st_appN hS rfl rfl rfl (HV.out.1.cut.into hS.frozInto) HV.out.2.2.2.1 (oneCell_ints _) (by omega) ?_; clear hS; intro L3 cl3 w hL3 hM3 hS
    (try simp only [Act.put, nA, nB, nC])
    refine dr_end hS ?_
    refine dr_one 11 (by kernel_rfl) rfl ?_
    refine st_appN hS rfl rfl rfl (HV.out.1.saved.into hS.frozInto) HV.out.2.2.2.2.1 (oneCell_ints _) (by omega) ?_; clear hS; intro L4 cl4 w hL4 hM4 hS
    (try simp only [Act.put, nA, nB, nC])
    refine dr_end hS ?_
    refine dr_one 14 (by kernel_rfl) rfl ?_
    refine st_appN hS rfl rfl rfl (HV.out.1.opn.into hS.frozInto) HV.out.2.2.2.2.2 HOB.out (by omega) ?_; clear hS; intro L5 cl5 w hL5 hM5 hS
    (try simp only [Act.put, nA, nB, nC])
    refine dr_end hS ?_
    refine dP hS 15 rfl rfl ?_
    (try simp only [Act.put, nA, nB, nC])
    refine dr_one 17 (by kernel_rfl) rfl ?_
    ((first | refine sS1 hS rfl rfl rfl ?_ | refine sS2 hS rfl rfl rfl ?_ | refine sS3 hS rfl rfl rfl ?_ | refine sS4 hS rfl rfl rfl ?_ | refine sS5 hS rfl rfl rfl ?_); clear hS; intro w hS)
    (try simp only [Act.put, nA, nB, nC])
    refine dr_late (by kernel_rfl) ?_
    refine dr_done (by kernel_rfl) ?_
    rotate_left
    (refine sN1 hS rfl ?_; clear hS; first | ((fail_if_success guard_hyp g1); intro g1 w hS) | ((fail_if_success guard_hyp g2); intro g2 w hS) | ((fail_if_success guard_hyp g3); intro g3 w hS) | ((fail_if_success guard_hyp g4); intro g4 w hS) | ((fail_if_success guard_hyp g5); intro g5 w hS) | ((fail_if_success guard_hyp g6); intro g6 w hS) | fail)
    (try simp only [Act.put, nA, nB, nC])
    refine dr_end hS ?_
    refine dr_one 5 (by kernel_rfl) rfl ?_
    refine st_appN hS rfl rfl rfl (HV.out.1.cnts.into hS.frozInto) HV.out.2.2.1 (oneCell_ints _) (by omega) ?_; clear hS; intro L2 cl2 w hL2 hM2 hS
    (try simp only [Act.put, nA, nB, nC])
    refine dr_end hS ?_
    refine dr_one 8 (by kernel_rfl) rfl ?_
    refine st_appN hS rfl rfl rfl (HV.out.1.cut.into hS.frozInto) HV.out.2.2.2.1 (oneCell_ints _) (by omega) ?_; clear hS; intro L3 cl3 w hL3 hM3 hS
    (try simp only [Act.put, nA, nB, nC])
    refine dr_end hS ?_
    refine dr_one 11 (by kernel_rfl) rfl ?_
    refine st_appN hS rfl rfl rfl (HV.out.1.saved.into hS.frozInto) HV.out.2.2.2.2.1 (oneCell_ints _) (by omega) ?_; clear hS; intro L4 cl4 w hL4 hM4 hS
    (try simp only [Act.put, nA, nB, nC])
    refine dr_end hS ?_
    refine dr_one 14 (by kernel_rfl) rfl ?_
    refine st_appN hS rfl rfl rfl (HV.out.1.opn.into hS.frozInto) HV.out.2.2.2.2.2 HOB.out (by omega) ?_; clear hS; intro L5 cl5 w hL5 hM5 hS
    (try simp only [Act.put, nA, nB, nC])
    refine dr_end hS ?_
    refine dP hS 15 rfl rfl ?_
    (try simp only [Act.put, nA, nB, nC])
    refine dr_one 17 (by kernel_rfl) rfl ?_
    ((first | refine sS1 hS rfl rfl rfl ?_ | refine sS2 hS rfl rfl rfl ?_ | refine sS3 hS rfl rfl rfl ?_ | refine sS4 hS rfl rfl rfl ?_ | refine sS5 hS rfl rfl rfl ?_); clear hS; intro w hS)
    (try simp only [Act.put, nA, nB, nC])
    refine dr_late (by kernel_rfl) ?_
    refine dr_done (by kernel_rfl) ?_
    rotate_left
    (refine sN1 hS rfl ?_; clear hS; first | ((fail_if_success guard_hyp g1); intro g1 w hS) | ((fail_if_success guard_hyp g2); intro g2 w hS) | ((fail_if_success guard_hyp g3); intro g3 w hS) | ((fail_if_success guard_hyp g4); intro g4 w hS) | ((fail_if_success guard_hyp g5); intro g5 w hS) | ((fail_if_success guard_hyp g6); intro g6 w hS) | fail)
    (try simp only [Act.put, nA, nB, nC])
    refine dr_end hS ?_
    refine dr_one 2 (by kernel_rfl) rfl ?_
    refine st_appN hS rfl rfl rfl (HV.out.1.vals.into hS.frozInto) HV.out.2.1 (oneCell_ints _) (by omega) ?_; clear hS; intro L1 cl1 w hL1 hM1 hS
    (try simp only [Act.put, nA, nB, nC])
    refine dr_end hS ?_
    refine dr_one 5 (by kernel_rfl) rfl ?_
    refine st_appN hS rfl rfl rfl (HV.out.1.cnts.into hS.frozInto) HV.out.2.2.1 (oneCell_ints _) (by omega) ?_; clear hS; intro L2 cl2 w hL2 hM2 hS
    (try simp only [Act.put, nA, nB, nC])
    refine dr_end hS ?_
    refine dr_one 8 (by kernel_rfl) rfl ?_
    refine st_appN hS rfl rfl rfl (HV.out.1.cut.into hS.frozInto) HV.out.2.2.2.1 (oneCell_ints _) (by omega) ?_; clear hS; intro L3 cl3 w hL3 hM3 hS
    (try simp only [Act.put, nA, nB, nC])
    refine dr_end hS ?_
    refine dr_one 11 (by kernel_rfl) rfl ?_
    refine st_appN hS rfl rfl rfl (HV.out.1.saved.into hS.frozInto) HV.out.2.2.2.2.1 (oneCell_ints _) (by omega) ?_; clear hS; intro L4 cl4 w hL4 hM4 hS
    (try simp only [Act.put, nA, nB, nC])
    refine dr_end hS ?_
    refine dr_one 14 (by kernel_rfl) rfl ?_
    refine st_appN hS rfl rfl rfl (HV.out.1.opn.into hS.frozInto) HV.out.2.2.2.2.2 HOB.out (by omega) ?_; clear hS; intro L5 cl5 w hL5 hM5 hS
    (try simp only [Act.put, nA, nB, nC])
    refine dr_end hS ?_
    refine dP hS 15 rfl rfl ?_
    (try simp only [Act.put, nA, nB, nC])
    refine dr_one 17 (by kernel_rfl) rfl ?_
    ((first | refine sS1 hS rfl rfl rfl ?_ | refine sS2 hS rfl rfl rfl ?_ | refine sS3 hS rfl rfl rfl ?_ | refine sS4 hS rfl rfl rfl ?_ | refine sS5 hS rfl rfl rfl ?_); clear hS; intro w hS)
    (try simp only [Act.put, nA, nB, nC])
    refine dr_late (by kernel_rfl) ?_
    refine dr_done (by kernel_rfl) ?_
    rotate_left
    all_goals
      go_wp2_with fail
      go_meet
      exact ⟨g3, L1, cl1, L2, cl2, L3, cl3, L4, cl4, L5, cl5, rfl, hS.re⟩
  case rest =>
  clear hS HV HOB
  obtain ⟨g3, L1, k1, L2, k2, L4, k4, L5, k5, L6, k6, rfl, hS⟩ := hcut
  go_wp2_with (first | (refine oL ?_; (first | refine sL1 hS rfl rfl rfl ?_ | refine sL2 hS rfl rfl rfl ?_ | refine sL3 hS rfl rfl ?_ | refine sL4 hS rfl rfl ?_ | refine sL5 hS rfl rfl ?_ | refine sL6 hS rfl rfl ?_ | refine sL7 hS rfl rfl ?_)) | (refine oS ?_; ((first | refine sS1 hS rfl rfl rfl ?_ | refine sS2 hS rfl rfl rfl ?_ | refine sS3 hS rfl rfl rfl ?_ | refine sS4 hS rfl rfl rfl ?_ | refine sS5 hS rfl rfl rfl ?_); clear hS; intro w hS)) | ((first | (refine oB ?_; first | refine sB1 hS rfl rfl ?_ | refine sB2 hS rfl rfl ?_) | refine sN1 hS rfl ?_); clear hS; first | ((fail_if_success guard_hyp g1); intro g1 w hS) | ((fail_if_success guard_hyp g2); intro g2 w hS) | ((fail_if_success guard_hyp g3); intro g3 w hS) | ((fail_if_success guard_hyp g4); intro g4 w hS) | ((fail_if_success guard_hyp g5); intro g5 w hS) | ((fail_if_success guard_hyp g6); intro g6 w hS) | fail) | fail)
  go_loopw [4] (fun s4 wr => ∃ (i : Nat) (Lh : Option Addr) (kh : Nat) (rs : List RwD), i ≤ nn ∧ s4 = .int .i64 i ∧ Hid (FamOf pcs rs (s.chs.take i)) ∧ St w0 M (row (.slice Lh i kh) 46 1 i (rs.map (·.1)) :: fam2 48 2 rs :: blk g3 [.slice L1 n k1, .slice L2 n k2, .slice Lh i kh, .slice L4 n k4, .slice L5 n k5, .slice L6 nn k6, .slice none 0 0] 28 :: blk g1 [.slice A1 n c1, .slice A2 n c2, .slice A3 nn c3, .slice A4 n c4, .slice A5 n c5, .slice A6 nn c6, .slice A7 nn c7] 28 :: froz T u :: row (.slice L1 n k1) 3 1 n (ints s.vals) :: row (.slice L2 n k2) 3 1 n (ints s.cnts) :: row (.slice L4 n k4) 3 1 n (ints s.cut) :: row (.slice L5 n k5) 3 1 n (ints s.saved) :: row (.slice L6 nn k6) 4 1 nn (bools s.opn) :: blk g2 sn0 28 :: cs) wr) (fun s4 _ => nn - (intOf s4).toNat)
  case atStart =>
    have hS2 : St w0 M (row (.slice none 0 0) 46 1 0 [] :: fam2 48 2 [] :: blk g3 [.slice L1 n k1, .slice L2 n k2, .slice none 0 0, .slice L4 n k4, .slice L5 n k5, .slice L6 nn k6, .slice none 0 0] 28 :: blk g1 [.slice A1 n c1, .slice A2 n c2, .slice A3 nn c3, .slice A4 n c4, .slice A5 n c5, .slice A6 nn c6, .slice A7 nn c7] 28 :: froz T u :: row (.slice L1 n k1) 3 1 n (ints s.vals) :: row (.slice L2 n k2) 3 1 n (ints s.cnts) :: row (.slice L4 n k4) 3 1 n (ints s.cut) :: row (.slice L5 n k5) 3 1 n (ints s.saved) :: row (.slice L6 nn k6) 4 1 nn (bools s.opn) :: blk g2 sn0 28 :: cs) _ := ((hS.fam2Nil 48 2).addNil 46 1).re
    exact ⟨0, none, 0, [], by omega, rfl, Lib.hid (FamOf.nil _), hS2⟩
  case round =>
    clear hS
    obtain ⟨i, Lh, kh, rs, hi, rfl, HF, hS⟩ := hrel
    by_cases hlt : i < nn
    · have hlt' : (i : Int) < (nn : Int) := by omega
      obtain ⟨bh, oh, B, cB, hA3, hSb, hcell, hcB, hcB', hrv⟩ := HSN.out.chs.atC (k := i) (by rw [HLC.out]; exact hlt)
      simp only at hA3
      subst hA3
      have hcf : FC T u bh (oh + i) (.slice B (chOf s.chs i).length cB) := ⟨hSb, hcell⟩
      have hll : (chOf s.chs i).length ≤ b := HK.out.1.hbk (by rw [HK.out.2]; exact hlt)
      have HRV := Lib.hid hrv
      have HTK := Lib.hid (take_ch (ls := s.chs) (k := i) (by rw [HLC.out]; exact hlt))
      clear hrv hcell hSb
      generalize chOf s.chs i = l at *
      go_wp2_with (first | (refine oL ?_; (first | refine sL1 hS rfl rfl rfl ?_ | refine sL2 hS rfl rfl rfl ?_ | refine sL3 hS rfl rfl ?_ | refine sL4 hS rfl rfl ?_ | refine sL5 hS rfl rfl ?_ | refine sL6 hS rfl rfl ?_ | refine sL7 hS rfl rfl ?_)) | (refine oS ?_; ((first | refine sS1 hS rfl rfl rfl ?_ | refine sS2 hS rfl rfl rfl ?_ | refine sS3 hS rfl rfl rfl ?_ | refine sS4 hS rfl rfl rfl ?_ | refine sS5 hS rfl rfl rfl ?_); clear hS; intro w hS)) | ((first | (refine oB ?_; first | refine sB1 hS rfl rfl ?_ | refine sB2 hS rfl rfl ?_) | refine sN1 hS rfl ?_); clear hS; first | ((fail_if_success guard_hyp g1); intro g1 w hS) | ((fail_if_success guard_hyp g2); intro g2 w hS) | ((fail_if_success guard_hyp g3); intro g3 w hS) | ((fail_if_success guard_hyp g4); intro g4 w hS) | ((fail_if_success guard_hyp g5); intro g5 w hS) | ((fail_if_success guard_hyp g6); intro g6 w hS) | fail) | fail)
      refine dr_start1 [11] 0 hS (by kernel_rfl) rfl ?_; clear hS; intro w hS
      refine dP hS 0 rfl rfl ?_
      (try simp only [Act.put, nA, nB, nC])
      first | refine dL1 hS 1 rfl rfl rfl rfl ?_ | refine dL2 hS 1 rfl rfl rfl rfl ?_ | refine dL3 hS 1 rfl rfl rfl ?_ | refine dL4 hS 1 rfl rfl rfl ?_ | refine dL5 hS 1 rfl rfl rfl ?_ | refine dL6 hS 1 rfl rfl rfl ?_ | refine dL7 hS 1 rfl rfl rfl ?_
      (try simp only [Act.put, nA, nB, nC])
      refine dP hS 2 rfl rfl ?_
      (try simp only [Act.put, nA, nB, nC])
      first | refine dL1 hS 3 rfl rfl rfl rfl ?_ | refine dL2 hS 3 rfl rfl rfl rfl ?_ | refine dL3 hS 3 rfl rfl rfl ?_ | refine dL4 hS 3 rfl rfl rfl ?_ | refine dL5 hS 3 rfl rfl rfl ?_ | refine dL6 hS 3 rfl rfl rfl ?_ | refine dL7 hS 3 rfl rfl rfl ?_
      (try simp only [Act.put, nA, nB, nC])
      refine dM hS 4 rfl rfl rfl ?_
      (try simp only [Act.put, nA, nB, nC])
      refine dP hS 5 rfl rfl ?_
      (try simp only [Act.put, nA, nB, nC])
      first | refine dL1 hS 6 rfl rfl rfl rfl ?_ | refine dL2 hS 6 rfl rfl rfl rfl ?_ | refine dL3 hS 6 rfl rfl rfl ?_ | refine dL4 hS 6 rfl rfl rfl ?_ | refine dL5 hS 6 rfl rfl rfl ?_ | refine dL6 hS 6 rfl rfl rfl ?_ | refine dL7 hS 6 rfl rfl rfl ?_
      (try simp only [Act.put, nA, nB, nC])
      refine dr_one 7 (by kernel_rfl) rfl ?_
      refine st_appN hS rfl rfl rfl (HRV.out.into hS.frozInto) (pcs_len l) (oneCell_pcs l) (by omega) ?_; clear hS; intro L8 cl8 w hL8 hM8 hS
      (try simp only [Act.put, nA, nB, nC])
      refine dr_end hS ?_
      refine dr_one 8 (by kernel_rfl) rfl ?_
      ((first | refine sC0 hS rfl ?_ | refine sC1 hS rfl rfl ?_ | refine sC2 hS rfl rfl ?_ | refine sC3 hS rfl rfl rfl ?_ | refine sC4 hS rfl rfl rfl ?_); clear hS; first | ((fail_if_success guard_hyp g1); intro g1 w hS) | ((fail_if_success guard_hyp g2); intro g2 w hS) | ((fail_if_success guard_hyp g3); intro g3 w hS) | ((fail_if_success guard_hyp g4); intro g4 w hS) | ((fail_if_success guard_hyp g5); intro g5 w hS) | ((fail_if_success guard_hyp g6); intro g6 w hS) | fail)
      (try simp only [Act.put, nA, nB, nC])
      refine dr_end hS ?_
      refine dr_one 9 (by kernel_rfl) rfl ?_
      ((first | refine sP1 hS rfl rfl rfl ?_ | refine sP2 hS rfl rfl rfl ?_ | refine sP3 hS rfl rfl rfl ?_); clear hS; first | ((fail_if_success guard_hyp L1); intro L1 cl1 w hL1 hM1 hS) | ((fail_if_success guard_hyp L2); intro L2 cl2 w hL2 hM2 hS) | ((fail_if_success guard_hyp L3); intro L3 cl3 w hL3 hM3 hS) | ((fail_if_success guard_hyp L4); intro L4 cl4 w hL4 hM4 hS) | ((fail_if_success guard_hyp L5); intro L5 cl5 w hL5 hM5 hS) | ((fail_if_success guard_hyp L6); intro L6 cl6 w hL6 hM6 hS) | fail)
      (try simp only [Act.put, nA, nB, nC])
      refine dr_end hS ?_
      refine dP hS 10 rfl rfl ?_
      (try simp only [Act.put, nA, nB, nC])
      refine dr_one 11 (by kernel_rfl) rfl ?_
      ((first | refine sS1 hS rfl rfl rfl ?_ | refine sS2 hS rfl rfl rfl ?_ | refine sS3 hS rfl rfl rfl ?_ | refine sS4 hS rfl rfl rfl ?_ | refine sS5 hS rfl rfl rfl ?_); clear hS; intro w hS)
      (try simp only [Act.put, nA, nB, nC])
      refine dr_late (by kernel_rfl) ?_
      refine dr_done (by kernel_rfl) ?_
      (try simp only [List.set_cons_zero, List.set_cons_succ] at hS)
      have hS2 : St w0 M (row (.slice L8 l.length cl8) 48 2 l.length (pcs l) :: fam2 48 2 rs :: row (.slice L3 (i + 1) cl3) 46 1 ((i + 1)) (rs.map (·.1) ++ [.slice L8 l.length cl8]) :: blk g3 [.slice L1 n k1, .slice L2 n k2, .slice L3 (i + 1) cl3, .slice L4 n k4, .slice L5 n k5, .slice L6 nn k6, .slice none 0 0] 28 :: blk g1 [.slice A1 n c1, .slice A2 n c2, .slice (some ⟨bh, oh, none⟩) nn c3, .slice A4 n c4, .slice A5 n c5, .slice A6 nn c6, .slice A7 nn c7] 28 :: froz T u :: row (.slice L1 n k1) 3 1 n (ints s.vals) :: row (.slice L2 n k2) 3 1 n (ints s.cnts) :: row (.slice L4 n k4) 3 1 n (ints s.cut) :: row (.slice L5 n k5) 3 1 n (ints s.saved) :: row (.slice L6 nn k6) 4 1 nn (bools s.opn) :: blk g2 sn0 28 :: cs) _ := hS.re
      have hS3 := hS2.fam2Snoc
      go_wp2_with (first | (refine oL ?_; (first | refine sL1 hS rfl rfl rfl ?_ | refine sL2 hS rfl rfl rfl ?_ | refine sL3 hS rfl rfl ?_ | refine sL4 hS rfl rfl ?_ | refine sL5 hS rfl rfl ?_ | refine sL6 hS rfl rfl ?_ | refine sL7 hS rfl rfl ?_)) | (refine oS ?_; ((first | refine sS1 hS rfl rfl rfl ?_ | refine sS2 hS rfl rfl rfl ?_ | refine sS3 hS rfl rfl rfl ?_ | refine sS4 hS rfl rfl rfl ?_ | refine sS5 hS rfl rfl rfl ?_); clear hS; intro w hS)) | ((first | (refine oB ?_; first | refine sB1 hS rfl rfl ?_ | refine sB2 hS rfl rfl ?_) | refine sN1 hS rfl ?_); clear hS; first | ((fail_if_success guard_hyp g1); intro g1 w hS) | ((fail_if_success guard_hyp g2); intro g2 w hS) | ((fail_if_success guard_hyp g3); intro g3 w hS) | ((fail_if_success guard_hyp g4); intro g4 w hS) | ((fail_if_success guard_hyp g5); intro g5 w hS) | ((fail_if_success guard_hyp g6); intro g6 w hS) | fail) | fail)
      go_roundw
      case measure => simp [intOf]; omega
      refine ⟨i + 1, L3, cl3, rs ++ [(.slice L8 l.length cl8, l.length, pcs l)], by omega, by go_num, Lib.hid (by rw [HTK.out]; exact HF.out.snoc L8 cl8 l), ?_⟩
      simp only [List.map_append, List.map_cons, List.map_nil]
      exact hS3.re
    · have hlt' : ¬ (i : Int) < (nn : Int) := by omega
      obtain rfl : i = nn := by omega
      have HF1 := Lib.hid (show FamOf pcs rs s.chs by have h := HF.out; rw [List.take_of_length_le (by rw [HLC.out]; exact Nat.le_refl _)] at h; exact h)
      clear HF
      go_wp2_with (first | (refine oL ?_; (first | refine sL1 hS rfl rfl rfl ?_ | refine sL2 hS rfl rfl rfl ?_ | refine sL3 hS rfl rfl ?_ | refine sL4 hS rfl rfl ?_ | refine sL5 hS rfl rfl ?_ | refine sL6 hS rfl rfl ?_ | refine sL7 hS rfl rfl ?_)) | (refine oS ?_; ((first | refine sS1 hS rfl rfl rfl ?_ | refine sS2 hS rfl rfl rfl ?_ | refine sS3 hS rfl rfl rfl ?_ | refine sS4 hS rfl rfl rfl ?_ | refine sS5 hS rfl rfl rfl ?_); clear hS; intro w hS)) | ((first | (refine oB ?_; first | refine sB1 hS rfl rfl ?_ | refine sB2 hS rfl rfl ?_) | refine sN1 hS rfl ?_); clear hS; first | ((fail_if_success guard_hyp g1); intro g1 w hS) | ((fail_if_success guard_hyp g2); intro g2 w hS) | ((fail_if_success guard_hyp g3); intro g3 w hS) | ((fail_if_success guard_hyp g4); intro g4 w hS) | ((fail_if_success guard_hyp g5); intro g5 w hS) | ((fail_if_success guard_hyp g6); intro g6 w hS) | fail) | fail)
      go_loopw [5] (fun s5 wr => ∃ (j : Nat) (Lr : Option Addr) (kr : Nat) (rs2 : List RwD), j ≤ i ∧ s5 = .int .i64 j ∧ Hid (FamOf ints rs2 (s.recs.take j)) ∧ St w0 M (row (.slice Lr j kr) 22 1 j (rs2.map (·.1)) :: fam2 3 1 rs2 :: row (.slice Lh i kh) 46 1 i (rs.map (·.1)) :: fam2 48 2 rs :: blk g3 [.slice L1 n k1, .slice L2 n k2, .slice Lh i kh, .slice L4 n k4, .slice L5 n k5, .slice L6 i k6, .slice Lr j kr] 28 :: blk g1 [.slice A1 n c1, .slice A2 n c2, .slice A3 i c3, .slice A4 n c4, .slice A5 n c5, .slice A6 i c6, .slice A7 i c7] 28 :: froz T u :: row (.slice L1 n k1) 3 1 n (ints s.vals) :: row (.slice L2 n k2) 3 1 n (ints s.cnts) :: row (.slice L4 n k4) 3 1 n (ints s.cut) :: row (.slice L5 n k5) 3 1 n (ints s.saved) :: row (.slice L6 i k6) 4 1 i (bools s.opn) :: blk g2 sn0 28 :: cs) wr) (fun s5 _ => i - (intOf s5).toNat)
      case atStart =>
        have hS2 : St w0 M (row (.slice none 0 0) 22 1 0 [] :: fam2 3 1 [] :: row (.slice Lh i kh) 46 1 i (rs.map (·.1)) :: fam2 48 2 rs :: blk g3 [.slice L1 n k1, .slice L2 n k2, .slice Lh i kh, .slice L4 n k4, .slice L5 n k5, .slice L6 i k6, .slice none 0 0] 28 :: blk g1 [.slice A1 n c1, .slice A2 n c2, .slice A3 i c3, .slice A4 n c4, .slice A5 n c5, .slice A6 i c6, .slice A7 i c7] 28 :: froz T u :: row (.slice L1 n k1) 3 1 n (ints s.vals) :: row (.slice L2 n k2) 3 1 n (ints s.cnts) :: row (.slice L4 n k4) 3 1 n (ints s.cut) :: row (.slice L5 n k5) 3 1 n (ints s.saved) :: row (.slice L6 i k6) 4 1 i (bools s.opn) :: blk g2 sn0 28 :: cs) _ := ((hS.fam2Nil 3 1).addNil 22 1).re
        exact ⟨0, none, 0, [], by omega, rfl, Lib.hid (FamOf.nil _), hS2⟩
      case round =>
        clear hS
        obtain ⟨j, Lr, kr, rs2, hj, rfl, HF, hS⟩ := hrel
        by_cases hjl : j < i
        · have hjl' : (j : Int) < (i : Int) := by omega
          obtain ⟨bh, oh, B, cB, hA7, hSb, hcell, hcB, hcB', hrv⟩ := HSN.out.recs.atR (k := j) (by rw [HLR.out]; exact hjl)
          simp only at hA7
          subst hA7
          have hcf : FC T u bh (oh + j) (.slice B (rowOf s.recs j).length cB) := ⟨hSb, hcell⟩
          have hll : (rowOf s.recs j).length ≤ b := HRB.out j (by rw [HLR.out]; exact hjl)
          have HRV := Lib.hid hrv
          have HTK := Lib.hid (take_re (ls := s.recs) (k := j) (by rw [HLR.out]; exact hjl))
          clear hrv hcell hSb
          generalize rowOf s.recs j = l at *
          have hil : (ints l).length = l.length * 1 := by simp
          have HIL := Lib.hid hil
          clear hil
          go_wp2_with (first | (refine oL ?_; (first | refine sL1 hS rfl rfl rfl ?_ | refine sL2 hS rfl rfl rfl ?_ | refine sL3 hS rfl rfl ?_ | refine sL4 hS rfl rfl ?_ | refine sL5 hS rfl rfl ?_ | refine sL6 hS rfl rfl ?_ | refine sL7 hS rfl rfl ?_)) | (refine oS ?_; ((first | refine sS1 hS rfl rfl rfl ?_ | refine sS2 hS rfl rfl rfl ?_ | refine sS3 hS rfl rfl rfl ?_ | refine sS4 hS rfl rfl rfl ?_ | refine sS5 hS rfl rfl rfl ?_); clear hS; intro w hS)) | ((first | (refine oB ?_; first | refine sB1 hS rfl rfl ?_ | refine sB2 hS rfl rfl ?_) | refine sN1 hS rfl ?_); clear hS; first | ((fail_if_success guard_hyp g1); intro g1 w hS) | ((fail_if_success guard_hyp g2); intro g2 w hS) | ((fail_if_success guard_hyp g3); intro g3 w hS) | ((fail_if_success guard_hyp g4); intro g4 w hS) | ((fail_if_success guard_hyp g5); intro g5 w hS) | ((fail_if_success guard_hyp g6); intro g6 w hS) | fail) | fail)
          refine dr_start1 [11] 0 hS (by kernel_rfl) rfl ?_; clear hS; intro w hS
          refine dP hS 0 rfl rfl ?_
          (try simp only [Act.put, nA, nB, nC])
          first | refine dL1 hS 1 rfl rfl rfl rfl ?_ | refine dL2 hS 1 rfl rfl rfl rfl ?_ | refine dL3 hS 1 rfl rfl rfl ?_ | refine dL4 hS 1 rfl rfl rfl ?_ | refine dL5 hS 1 rfl rfl rfl ?_ | refine dL6 hS 1 rfl rfl rfl ?_ | refine dL7 hS 1 rfl rfl rfl ?_
          (try simp only [Act.put, nA, nB, nC])
          refine dP hS 2 rfl rfl ?_
          (try simp only [Act.put, nA, nB, nC])
          first | refine dL1 hS 3 rfl rfl rfl rfl ?_ | refine dL2 hS 3 rfl rfl rfl rfl ?_ | refine dL3 hS 3 rfl rfl rfl ?_ | refine dL4 hS 3 rfl rfl rfl ?_ | refine dL5 hS 3 rfl rfl rfl ?_ | refine dL6 hS 3 rfl rfl rfl ?_ | refine dL7 hS 3 rfl rfl rfl ?_
          (try simp only [Act.put, nA, nB, nC])
          refine dM hS 4 rfl rfl rfl ?_
          (try simp only [Act.put, nA, nB, nC])
          refine dP hS 5 rfl rfl ?_
          (try simp only [Act.put, nA, nB, nC])
          first | refine dL1 hS 6 rfl rfl rfl rfl ?_ | refine dL2 hS 6 rfl rfl rfl rfl ?_ | refine dL3 hS 6 rfl rfl rfl ?_ | refine dL4 hS 6 rfl rfl rfl ?_ | refine dL5 hS 6 rfl rfl rfl ?_ | refine dL6 hS 6 rfl rfl rfl ?_ | refine dL7 hS 6 rfl rfl rfl ?_
          (try simp only [Act.put, nA, nB, nC])
          refine dr_one 7 (by kernel_rfl) rfl ?_
          refine st_appN hS rfl rfl rfl (RV.into HRV.out hS.frozInto) HIL.out (oneCell_ints l) (by omega) ?_; clear hS; intro L8 cl8 w hL8 hM8 hS
          (try simp only [Act.put, nA, nB, nC])
          refine dr_end hS ?_
          refine dr_one 8 (by kernel_rfl) rfl ?_
          ((first | refine sC0 hS rfl ?_ | refine sC1 hS rfl rfl ?_ | refine sC2 hS rfl rfl ?_ | refine sC3 hS rfl rfl rfl ?_ | refine sC4 hS rfl rfl rfl ?_); clear hS; first | ((fail_if_success guard_hyp g1); intro g1 w hS) | ((fail_if_success guard_hyp g2); intro g2 w hS) | ((fail_if_success guard_hyp g3); intro g3 w hS) | ((fail_if_success guard_hyp g4); intro g4 w hS) | ((fail_if_success guard_hyp g5); intro g5 w hS) | ((fail_if_success guard_hyp g6); intro g6 w hS) | fail)
          (try simp only [Act.put, nA, nB, nC])
          refine dr_end hS ?_
          refine dr_one 9 (by kernel_rfl) rfl ?_
          ((first | refine sP1 hS rfl rfl rfl ?_ | refine sP2 hS rfl rfl rfl ?_ | refine sP3 hS rfl rfl rfl ?_); clear hS; first | ((fail_if_success guard_hyp L1); intro L1 cl1 w hL1 hM1 hS) | ((fail_if_success guard_hyp L2); intro L2 cl2 w hL2 hM2 hS) | ((fail_if_success guard_hyp L3); intro L3 cl3 w hL3 hM3 hS) | ((fail_if_success guard_hyp L4); intro L4 cl4 w hL4 hM4 hS) | ((fail_if_success guard_hyp L5); intro L5 cl5 w hL5 hM5 hS) | ((fail_if_success guard_hyp L6); intro L6 cl6 w hL6 hM6 hS) | fail)
          (try simp only [Act.put, nA, nB, nC])
          refine dr_end hS ?_
          refine dP hS 10 rfl rfl ?_
          (try simp only [Act.put, nA, nB, nC])
          refine dr_one 11 (by kernel_rfl) rfl ?_
          ((first | refine sS1 hS rfl rfl rfl ?_ | refine sS2 hS rfl rfl rfl ?_ | refine sS3 hS rfl rfl rfl ?_ | refine sS4 hS rfl rfl rfl ?_ | refine sS5 hS rfl rfl rfl ?_); clear hS; intro w hS)
          (try simp only [Act.put, nA, nB, nC])
          refine dr_late (by kernel_rfl) ?_
          refine dr_done (by kernel_rfl) ?_
          (try simp only [List.set_cons_zero, List.set_cons_succ] at hS)
          have hS2 : St w0 M (row (.slice L8 l.length cl8) 3 1 l.length (ints l) :: fam2 3 1 rs2 :: row (.slice L3 (j + 1) cl3) 22 1 (j + 1) (rs2.map (·.1) ++ [.slice L8 l.length cl8]) :: row (.slice Lh i kh) 46 1 i (rs.map (·.1)) :: fam2 48 2 rs :: blk g3 [.slice L1 n k1, .slice L2 n k2, .slice Lh i kh, .slice L4 n k4, .slice L5 n k5, .slice L6 i k6, .slice L3 (j + 1) cl3] 28 :: blk g1 [.slice A1 n c1, .slice A2 n c2, .slice A3 i c3, .slice A4 n c4, .slice A5 n c5, .slice A6 i c6, .slice (some ⟨bh, oh, none⟩) i c7] 28 :: froz T u :: row (.slice L1 n k1) 3 1 n (ints s.vals) :: row (.slice L2 n k2) 3 1 n (ints s.cnts) :: row (.slice L4 n k4) 3 1 n (ints s.cut) :: row (.slice L5 n k5) 3 1 n (ints s.saved) :: row (.slice L6 i k6) 4 1 i (bools s.opn) :: blk g2 sn0 28 :: cs) _ := hS.re
          have hS3 := hS2.fam2Snoc
          go_wp2_with (first | (refine oL ?_; (first | refine sL1 hS rfl rfl rfl ?_ | refine sL2 hS rfl rfl rfl ?_ | refine sL3 hS rfl rfl ?_ | refine sL4 hS rfl rfl ?_ | refine sL5 hS rfl rfl ?_ | refine sL6 hS rfl rfl ?_ | refine sL7 hS rfl rfl ?_)) | (refine oS ?_; ((first | refine sS1 hS rfl rfl rfl ?_ | refine sS2 hS rfl rfl rfl ?_ | refine sS3 hS rfl rfl rfl ?_ | refine sS4 hS rfl rfl rfl ?_ | refine sS5 hS rfl rfl rfl ?_); clear hS; intro w hS)) | ((first | (refine oB ?_; first | refine sB1 hS rfl rfl ?_ | refine sB2 hS rfl rfl ?_) | refine sN1 hS rfl ?_); clear hS; first | ((fail_if_success guard_hyp g1); intro g1 w hS) | ((fail_if_success guard_hyp g2); intro g2 w hS) | ((fail_if_success guard_hyp g3); intro g3 w hS) | ((fail_if_success guard_hyp g4); intro g4 w hS) | ((fail_if_success guard_hyp g5); intro g5 w hS) | ((fail_if_success guard_hyp g6); intro g6 w hS) | fail) | fail)
          go_roundw
          case measure => simp [intOf]; omega
          refine ⟨j + 1, L3, cl3, rs2 ++ [(.slice L8 l.length cl8, l.length, ints l)], by omega, by go_num, Lib.hid (by rw [HTK.out]; exact HF.out.snoc L8 cl8 l), ?_⟩
          simp only [List.map_append, List.map_cons, List.map_nil]
          exact hS3.re
        · have hjl' : ¬ (j : Int) < (i : Int) := by omega
          obtain rfl : j = i := by omega
          have HF2 := Lib.hid (show FamOf ints rs2 s.recs by have h := HF.out; rw [List.take_of_length_le (by rw [HLR.out]; exact Nat.le_refl _)] at h; exact h)
          clear HF
          go_wp2_with (first | (refine oL ?_; (first | refine sL1 hS rfl rfl rfl ?_ | refine sL2 hS rfl rfl rfl ?_ | refine sL3 hS rfl rfl ?_ | refine sL4 hS rfl rfl ?_ | refine sL5 hS rfl rfl ?_ | refine sL6 hS rfl rfl ?_ | refine sL7 hS rfl rfl ?_)) | (refine oS ?_; ((first | refine sS1 hS rfl rfl rfl ?_ | refine sS2 hS rfl rfl rfl ?_ | refine sS3 hS rfl rfl rfl ?_ | refine sS4 hS rfl rfl rfl ?_ | refine sS5 hS rfl rfl rfl ?_); clear hS; intro w hS)) | ((first | (refine oB ?_; first | refine sB1 hS rfl rfl ?_ | refine sB2 hS rfl rfl ?_) | refine sN1 hS rfl ?_); clear hS; first | ((fail_if_success guard_hyp g1); intro g1 w hS) | ((fail_if_success guard_hyp g2); intro g2 w hS) | ((fail_if_success guard_hyp g3); intro g3 w hS) | ((fail_if_success guard_hyp g4); intro g4 w hS) | ((fail_if_success guard_hyp g5); intro g5 w hS) | ((fail_if_success guard_hyp g6); intro g6 w hS) | fail) | fail)
          refine st_retC hS rfl rfl rfl rfl ?_
          exact ⟨L1, k1, L2, k2, Lh, kh, L4, k4, L5, k5, L6, k6, Lr, kr, rs, rs2, rfl, HF1, HF2, hS.re⟩
end Go.Proofs.Ytkaofbjppibdkaa
