/- Recovery lines: line.Greatest. Conditions: the pattern is good, the allowed rows hold 0 and lie in range. -/
import Derived.Test.YtombhhhaidmpeaaLineW
import Derived.Test.YtombhhhaidmpeaaStartF
namespace Go.Proofs.Ytombhhhaidmpeaa
open Go.RowKit
set_option linter.unusedVariables false
set_option linter.unusedSimpArgs false
set_option linter.unusedSectionVars false

theorem Into.orL {S T : Nat → Prop} (w : World) : Into S (fun k => (S k ∨ T k) ∧ k < w.heap.size) w w := fun k hs hk => ⟨⟨.inl hs, hk⟩, rfl⟩
theorem Into.orR {S T : Nat → Prop} (w : World) : Into T (fun k => (S k ∨ T k) ∧ k < w.heap.size) w w := fun k hs hk => ⟨⟨.inr hs, hk⟩, rfl⟩
set_option maxRecDepth 100000 in
set_option maxHeartbeats 6400000 in
theorem newRows_st {w0 w u : World} {M T : Nat → Prop} {cs : List (Chunk w0 M)} (gp gq n2 c1 c2 c3 cA : Nat) (A1 A2 A3 A : Option Addr) (p : Pat) (hS : St w0 M (froz T u :: blk gp [.slice A1 p.len.length c1, .slice A2 p.ck.length c2, .slice A3 p.arcs.length c3] 28 :: blk gq [.slice A n2 cA] 25 :: cs) w) (hp : PatAt T u ⟨A1, c1, A2, c2, A3, c3⟩ p) (hg : Good p) (hn : p.len.length ≤ n2) :
    Calls Try.prog 76 #[.pointer (some ⟨gp, 0, none⟩), .pointer (some ⟨gq, 0, none⟩)] w fun e w' => ∃ gr gx, e = .returned (.tuple #[.pointer (some ⟨gr, 0, none⟩), .bool true]) ∧ St w0 M (blk gr [.pointer (some ⟨gp, 0, none⟩), .pointer (some ⟨gq, 0, none⟩), .slice (some ⟨gx, 0, none⟩) p.len.length p.len.length] 120 :: row (.slice (some ⟨gx, 0, none⟩) p.len.length p.len.length) 3 1 p.len.length (ints (List.replicate p.len.length 0)) :: froz T u :: blk gp [.slice A1 p.len.length c1, .slice A2 p.ck.length c2, .slice A3 p.arcs.length c3] 28 :: blk gq [.slice A n2 cA] 25 :: cs) w' := by
  have hn5 := hg.n5
  have HP := Lib.hid (And.intro hp hg)
  have d0 : decide (n2 < p.len.length) = false := decide_eq_false (by omega)
  have d0' : decide ((n2 : Int) < (p.len.length : Int)) = false := decide_eq_false (by omega)
  clear hp hg
  go_enter Try.func76, Try.ntmps76
  go_wp2_with (first | (refine oL ?_; (first | refine sL1 hS rfl rfl rfl ?_ | refine sL2 hS rfl rfl rfl ?_ | refine sL3 hS rfl rfl ?_ | refine sL4 hS rfl rfl ?_ | refine sL5 hS rfl rfl ?_ | refine sL6 hS rfl rfl ?_ | refine sL7 hS rfl rfl ?_)) | ((first | (refine oB ?_; first | refine sB1 hS rfl rfl ?_ | refine sB2 hS rfl rfl ?_) | refine sM1 hS rfl rfl rfl ?_); clear hS; first | ((fail_if_success guard_hyp g1); intro g1 w hS) | ((fail_if_success guard_hyp g2); intro g2 w hS) | ((fail_if_success guard_hyp g3); intro g3 w hS) | fail) | fail)
  refine dr_start0 []  hS (by kernel_rfl) rfl ?_; clear hS; intro w hS
  refine dM hS 0 rfl rfl rfl ?_
  (try simp only [Act.put, nA, nB, nC])
  refine dP hS 1 rfl rfl ?_
  (try simp only [Act.put, nA, nB, nC])
  first | refine dL1 hS 2 rfl rfl rfl rfl ?_ | refine dL2 hS 2 rfl rfl rfl rfl ?_ | refine dL3 hS 2 rfl rfl rfl ?_ | refine dL4 hS 2 rfl rfl rfl ?_ | refine dL5 hS 2 rfl rfl rfl ?_ | refine dL6 hS 2 rfl rfl rfl ?_ | refine dL7 hS 2 rfl rfl rfl ?_
  (try simp only [Act.put, nA, nB, nC])
  refine dr_one 3 (by kernel_rfl) rfl ?_
  (refine st_call rfl (by kernel_rfl) rfl ?_; go_at_call 36; refine (check_good ⟨A1, c1, A2, c2, A3, c3⟩ p _ (HP.out.1.into hS.frozInto) HP.out.2).mono ?_; rintro e w ⟨rfl, hx1⟩; replace hS := hS.ext hx1)
  (try simp only [Act.put, nA, nB, nC])
  refine dr_end hS ?_
  refine dP hS 4 rfl rfl ?_
  (try simp only [Act.put, nA, nB, nC])
  refine dM hS 5 rfl rfl rfl ?_
  (try simp only [Act.put, nA, nB, nC])
  first | refine dM hS 6 rfl rfl rfl ?_ | refine dQ hS 6 rfl rfl ?_
  (try simp only [Act.put, nA, nB, nC])
  first | refine dP hS 7 rfl rfl ?_ | refine dQ hS 7 rfl rfl ?_
  (try simp only [Act.put, nA, nB, nC])
  first | refine dL1 hS 8 rfl rfl rfl rfl ?_ | refine dL2 hS 8 rfl rfl rfl rfl ?_ | refine dL3 hS 8 rfl rfl rfl ?_ | refine dL4 hS 8 rfl rfl rfl ?_ | refine dL5 hS 8 rfl rfl rfl ?_ | refine dL6 hS 8 rfl rfl rfl ?_ | refine dL7 hS 8 rfl rfl rfl ?_ | refine dQ hS 8 rfl rfl ?_
  (try simp only [Act.put, nA, nB, nC])
  first | refine dP hS 9 rfl rfl ?_ | refine dQ hS 9 rfl rfl ?_
  (try simp only [Act.put, nA, nB, nC])
  first | refine dM hS 10 rfl rfl rfl ?_ | refine dQ hS 10 rfl rfl ?_
  (try simp only [Act.put, nA, nB, nC])
  first | refine dP hS 11 rfl rfl ?_ | refine dQ hS 11 rfl rfl ?_
  (try simp only [Act.put, nA, nB, nC])
  first | refine dP hS 12 rfl rfl ?_ | refine dQ hS 12 rfl rfl ?_
  (try simp only [Act.put, nA, nB, nC])
  first | refine dL1 hS 13 rfl rfl rfl rfl ?_ | refine dL2 hS 13 rfl rfl rfl rfl ?_ | refine dL3 hS 13 rfl rfl rfl ?_ | refine dL4 hS 13 rfl rfl rfl ?_ | refine dL5 hS 13 rfl rfl rfl ?_ | refine dL6 hS 13 rfl rfl rfl ?_ | refine dL7 hS 13 rfl rfl rfl ?_ | refine dQ hS 13 rfl rfl ?_
  (try simp only [Act.put, nA, nB, nC])
  first | refine dP hS 14 rfl rfl ?_ | refine dQ hS 14 rfl rfl ?_
  (try simp only [Act.put, nA, nB, nC])
  first | refine dP hS 15 rfl rfl ?_; (first | rw [d0'] | rw [d0]) | refine dP hS 15 rfl rfl ?_ | refine dQ hS 15 rfl rfl ?_
  (try simp only [Act.put, nA, nB, nC])
  refine dP hS 16 rfl rfl ?_
  (try simp only [Act.put, nA, nB, nC])
  refine dr_done (by kernel_rfl) ?_
  go_wp2_with (first | (refine oL ?_; (first | refine sL1 hS rfl rfl rfl ?_ | refine sL2 hS rfl rfl rfl ?_ | refine sL3 hS rfl rfl ?_ | refine sL4 hS rfl rfl ?_ | refine sL5 hS rfl rfl ?_ | refine sL6 hS rfl rfl ?_ | refine sL7 hS rfl rfl ?_)) | ((first | (refine oB ?_; first | refine sB1 hS rfl rfl ?_ | refine sB2 hS rfl rfl ?_) | refine sM1 hS rfl rfl rfl ?_); clear hS; first | ((fail_if_success guard_hyp g1); intro g1 w hS) | ((fail_if_success guard_hyp g2); intro g2 w hS) | ((fail_if_success guard_hyp g3); intro g3 w hS) | fail) | fail)
  go_ret2
  exact ⟨g2, g1, rfl, hS.re⟩
/-- what Greatest returns: the cut in which lowering ends -/
def GrRet (S : Nat → Prop) (w0 : World) (p : Pat) (al : List (List Int)) (e : Ending) (w' : World) : Prop := ∃ (y : List Int) (L : Option Addr) (c : Nat), Fin (lineStep al) p.arcs (topOf al p.len) y ∧ e = .returned (.tuple #[.slice L p.len.length c, .bool true]) ∧ p.len.length ≤ c ∧ c ≤ 9223372036854775807 ∧ RI (Orn S w0) w' L y ∧ Ext w0 w'
/-- the first processes are lowered -/
def topTo (al : List (List Int)) (len : List Int) (q : Nat) : List Int := (topOf al len).take q ++ List.replicate (len.length - q) 0
theorem topTo_len (al : List (List Int)) (len : List Int) {q : Nat} (hq : q ≤ len.length) : (topTo al len q).length = len.length := by
  simp only [topTo, List.length_append, List.length_take, topOf_len, List.length_replicate]; omega
theorem topTo_succ (al : List (List Int)) (len : List Int) {q : Nat} (hq : q < len.length) : (topTo al len q).set q ((bel (rowOf al q) (nth len q)).getD 0) = topTo al len (q + 1) := by
  have hl : ((topOf al len).take q).length = q := by rw [List.length_take, topOf_len]; omega
  rw [topTo, topTo, List.set_append_right _ _ (by rw [hl]; exact Nat.le_refl _), hl, Nat.sub_self, show len.length - q = (len.length - (q + 1)) + 1 by omega, List.replicate_succ, List.set_cons_zero, List.take_succ_eq_append_getElem (by rw [topOf_len]; exact hq), List.append_assoc]
  congr 1
  rw [← nth_eq (by rw [topOf_len]; exact hq), topOf_nth hq]; rfl
theorem topTo_zero (al : List (List Int)) (len : List Int) : topTo al len 0 = List.replicate len.length 0 := by simp [topTo]
theorem topTo_all (al : List (List Int)) (len : List Int) : topTo al len len.length = topOf al len := by
  rw [topTo, Nat.sub_self, List.take_of_length_le (by rw [topOf_len]; exact Nat.le_refl _)]; simp
set_option maxRecDepth 100000 in
set_option maxHeartbeats 6400000 in
theorem greatest_any {S T : Nat → Prop} (v : PV) (A : Option Addr) (cA n2 : Nat) (p : Pat) (al : List (List Int)) (w0 : World) (hp : PatAt S w0 v p) (hg : Good p) (hal : RR T w0 A al) (hok : AlOk p.len al) (hrl : ∀ q, q < p.len.length → (rowOf al q).length ≤ 1000) (hn2 : al.length = n2) :
    Calls Try.prog 46 #[v.val p, .slice A n2 cA] w0 (GrRet (fun k => S k ∨ T k) w0 p al) := by
  have hS := St.startF w0 (fun k => S k ∨ T k)
  obtain ⟨A1, c1, A2, c2, A3, c3⟩ := v
  simp only [PV.val] at *
  have HP := Lib.hid (And.intro (hp.into (Into.orL (T := T) w0)) (And.intro hg (And.intro (hal.into (Into.orR (S := S) w0)) (And.intro hok (And.intro hrl hn2)))))
  have hn5 := hg.n5
  have hn2' := hg.n2
  have hfew := hg.few
  have hnl : n2 = p.len.length := by rw [← hn2]; exact hok.n
  have hpl := hp.len
  clear hp hg hal hok hrl hn2
  go_enter Try.func46, Try.ntmps46
  go_upto_region 1 with (first | (refine oL ?_; (first | refine sL1 hS rfl rfl rfl ?_ | refine sL2 hS rfl rfl rfl ?_ | refine sL3 hS rfl rfl ?_ | refine sL4 hS rfl rfl ?_ | refine sL5 hS rfl rfl ?_ | refine sL6 hS rfl rfl ?_ | refine sL7 hS rfl rfl ?_)) | (refine oS ?_; ((first | refine sS1 hS rfl rfl rfl ?_ | refine sS2 hS rfl rfl rfl ?_ | refine sS3 hS rfl rfl rfl ?_ | refine sS4 hS rfl rfl rfl ?_ | refine sS5 hS rfl rfl rfl ?_); clear hS; intro w hS)) | ((first | (refine oB ?_; first | refine sB1 hS rfl rfl ?_ | refine sB2 hS rfl rfl ?_) | refine sN1 hS rfl ?_); clear hS; first | ((fail_if_success guard_hyp g1); intro g1 w hS) | ((fail_if_success guard_hyp g2); intro g2 w hS) | ((fail_if_success guard_hyp g3); intro g3 w hS) | ((fail_if_success guard_hyp g4); intro g4 w hS) | fail) | fail)
  replace hS : St w0 (fun k => (S k ∨ T k) ∧ k < w0.heap.size) (froz (fun k => (S k ∨ T k) ∧ k < w0.heap.size) w0 :: blk g1 [.slice A1 p.len.length c1, .slice A2 p.ck.length c2, .slice A3 p.arcs.length c3] 28 :: blk g2 [.slice A n2 cA] 25 :: []) w := hS.re
  go_wp2_with (first | (refine oL ?_; (first | refine sL1 hS rfl rfl rfl ?_ | refine sL2 hS rfl rfl rfl ?_ | refine sL3 hS rfl rfl ?_ | refine sL4 hS rfl rfl ?_ | refine sL5 hS rfl rfl ?_ | refine sL6 hS rfl rfl ?_ | refine sL7 hS rfl rfl ?_)) | (refine oS ?_; ((first | refine sS1 hS rfl rfl rfl ?_ | refine sS2 hS rfl rfl rfl ?_ | refine sS3 hS rfl rfl rfl ?_ | refine sS4 hS rfl rfl rfl ?_ | refine sS5 hS rfl rfl rfl ?_); clear hS; intro w hS)) | ((first | (refine oB ?_; first | refine sB1 hS rfl rfl ?_ | refine sB2 hS rfl rfl ?_) | refine sN1 hS rfl ?_); clear hS; first | ((fail_if_success guard_hyp g1); intro g1 w hS) | ((fail_if_success guard_hyp g2); intro g2 w hS) | ((fail_if_success guard_hyp g3); intro g3 w hS) | ((fail_if_success guard_hyp g4); intro g4 w hS) | fail) | fail)
  refine (newRows_st g1 g2 n2 c1 c2 c3 cA A1 A2 A3 A p hS HP.out.1 HP.out.2.1 (by omega)).mono ?_
  rintro e w ⟨gr, gx, rfl, hS1⟩
  replace hS := hS1
  clear hS1
  rw [← topTo_zero al p.len] at hS
  go_wp2_with (first | (refine oL ?_; (first | refine sL1 hS rfl rfl rfl ?_ | refine sL2 hS rfl rfl rfl ?_ | refine sL3 hS rfl rfl ?_ | refine sL4 hS rfl rfl ?_ | refine sL5 hS rfl rfl ?_ | refine sL6 hS rfl rfl ?_ | refine sL7 hS rfl rfl ?_)) | (refine oS ?_; ((first | refine sS1 hS rfl rfl rfl ?_ | refine sS2 hS rfl rfl rfl ?_ | refine sS3 hS rfl rfl rfl ?_ | refine sS4 hS rfl rfl rfl ?_ | refine sS5 hS rfl rfl rfl ?_); clear hS; intro w hS)) | ((first | (refine oB ?_; first | refine sB1 hS rfl rfl ?_ | refine sB2 hS rfl rfl ?_) | refine sN1 hS rfl ?_); clear hS; first | ((fail_if_success guard_hyp g1); intro g1 w hS) | ((fail_if_success guard_hyp g2); intro g2 w hS) | ((fail_if_success guard_hyp g3); intro g3 w hS) | ((fail_if_success guard_hyp g4); intro g4 w hS) | fail) | fail)
  go_loopw [21] (fun s21 wr => ∃ (q : Nat), q ≤ p.len.length ∧ s21 = .int .i64 q ∧ St w0 (fun k => (S k ∨ T k) ∧ k < w0.heap.size) (blk gr [.pointer (some ⟨g1, 0, none⟩), .pointer (some ⟨g2, 0, none⟩), .slice (some ⟨gx, 0, none⟩) p.len.length p.len.length] 120 :: row (.slice (some ⟨gx, 0, none⟩) p.len.length p.len.length) 3 1 p.len.length (ints (topTo al p.len q)) :: blk g2 [.slice A n2 cA] 25 :: froz (fun k => (S k ∨ T k) ∧ k < w0.heap.size) w0 :: blk g1 [.slice A1 p.len.length c1, .slice A2 p.ck.length c2, .slice A3 p.arcs.length c3] 28 :: []) wr) (fun s21 _ => p.len.length - (intOf s21).toNat)
  case atStart => exact ⟨0, by omega, rfl, hS.re⟩
  case round =>
    clear hS
    obtain ⟨q, hq, rfl, hS⟩ := hrel
    by_cases hlt : q < p.len.length
    · have hlt' : (q : Int) < p.len.length := by omega
      obtain ⟨bv, hbv⟩ := bel_zero (HP.out.2.2.2.1.z q hlt) (HP.out.2.1.lo q hlt)
      have HBV := Lib.hid hbv
      obtain ⟨b1, o1, rfl, hfc⟩ := HP.out.1.len.fc hlt
      have HTS := Lib.hid (topTo_succ al p.len hlt)
      have hTL := topTo_len al p.len hq
      have HTL := Lib.hid hTL
      clear hbv hTL
      generalize nth p.len q = nq at *
      go_wp2_with (first | (refine oL ?_; (first | refine sL1 hS rfl rfl rfl ?_ | refine sL2 hS rfl rfl rfl ?_ | refine sL3 hS rfl rfl ?_ | refine sL4 hS rfl rfl ?_ | refine sL5 hS rfl rfl ?_ | refine sL6 hS rfl rfl ?_ | refine sL7 hS rfl rfl ?_)) | (refine oS ?_; ((first | refine sS1 hS rfl rfl rfl ?_ | refine sS2 hS rfl rfl rfl ?_ | refine sS3 hS rfl rfl rfl ?_ | refine sS4 hS rfl rfl rfl ?_ | refine sS5 hS rfl rfl rfl ?_); clear hS; intro w hS)) | ((first | (refine oB ?_; first | refine sB1 hS rfl rfl ?_ | refine sB2 hS rfl rfl ?_) | refine sN1 hS rfl ?_); clear hS; first | ((fail_if_success guard_hyp g1); intro g1 w hS) | ((fail_if_success guard_hyp g2); intro g2 w hS) | ((fail_if_success guard_hyp g3); intro g3 w hS) | ((fail_if_success guard_hyp g4); intro g4 w hS) | fail) | fail)
      refine (lower_st gr g1 g2 gx p.len.length n2 p.len.length cA A al (topTo al p.len q) q nq hS HP.out.2.2.1 HP.out.2.2.2.2.2 HTL.out hlt (by omega) hn5 (by omega) (HP.out.2.2.2.2.1 q hlt) (some bv) HBV.out (topTo al p.len (q + 1)) (by rw [← HTS.out, HBV.out]; rfl)).mono ?_
      rintro e w ⟨rfl, hS1⟩
      replace hS := hS1
      clear hS1
      go_wp2_with (first | (refine oL ?_; (first | refine sL1 hS rfl rfl rfl ?_ | refine sL2 hS rfl rfl rfl ?_ | refine sL3 hS rfl rfl ?_ | refine sL4 hS rfl rfl ?_ | refine sL5 hS rfl rfl ?_ | refine sL6 hS rfl rfl ?_ | refine sL7 hS rfl rfl ?_)) | (refine oS ?_; ((first | refine sS1 hS rfl rfl rfl ?_ | refine sS2 hS rfl rfl rfl ?_ | refine sS3 hS rfl rfl rfl ?_ | refine sS4 hS rfl rfl rfl ?_ | refine sS5 hS rfl rfl rfl ?_); clear hS; intro w hS)) | ((first | (refine oB ?_; first | refine sB1 hS rfl rfl ?_ | refine sB2 hS rfl rfl ?_) | refine sN1 hS rfl ?_); clear hS; first | ((fail_if_success guard_hyp g1); intro g1 w hS) | ((fail_if_success guard_hyp g2); intro g2 w hS) | ((fail_if_success guard_hyp g3); intro g3 w hS) | ((fail_if_success guard_hyp g4); intro g4 w hS) | fail) | fail)
      go_roundw
      case measure => simp [intOf]; omega
      exact ⟨q + 1, by omega, by go_num, hS.re⟩
    · have e : q = p.len.length := by omega
      rw [e, topTo_all] at hS
      have hlt' : ¬ (q : Int) < p.len.length := by omega
      clear e
      go_wp2_with (first | (refine oL ?_; (first | refine sL1 hS rfl rfl rfl ?_ | refine sL2 hS rfl rfl rfl ?_ | refine sL3 hS rfl rfl ?_ | refine sL4 hS rfl rfl ?_ | refine sL5 hS rfl rfl ?_ | refine sL6 hS rfl rfl ?_ | refine sL7 hS rfl rfl ?_)) | (refine oS ?_; ((first | refine sS1 hS rfl rfl rfl ?_ | refine sS2 hS rfl rfl rfl ?_ | refine sS3 hS rfl rfl rfl ?_ | refine sS4 hS rfl rfl rfl ?_ | refine sS5 hS rfl rfl rfl ?_); clear hS; intro w hS)) | ((first | (refine oB ?_; first | refine sB1 hS rfl rfl ?_ | refine sB2 hS rfl rfl ?_) | refine sN1 hS rfl ?_); clear hS; first | ((fail_if_success guard_hyp g1); intro g1 w hS) | ((fail_if_success guard_hyp g2); intro g2 w hS) | ((fail_if_success guard_hyp g3); intro g3 w hS) | ((fail_if_success guard_hyp g4); intro g4 w hS) | fail) | fail)
      go_loopg [] (sumN (topOf al p.len)) (fun kk wr => ∃ (y : List Int), Hid (Run (lineStep al) p.arcs (topOf al p.len) y ∧ validB p.len y = true ∧ Allow p.len.length al y ∧ sumN y = kk) ∧ St w0 (fun k => (S k ∨ T k) ∧ k < w0.heap.size) (blk gr [.pointer (some ⟨g1, 0, none⟩), .pointer (some ⟨g2, 0, none⟩), .slice (some ⟨gx, 0, none⟩) p.len.length p.len.length] 120 :: row (.slice (some ⟨gx, 0, none⟩) p.len.length p.len.length) 3 1 p.len.length (ints y) :: blk g1 [.slice A1 p.len.length c1, .slice A2 p.ck.length c2, .slice A3 p.arcs.length c3] 28 :: froz (fun k => (S k ∨ T k) ∧ k < w0.heap.size) w0 :: blk g2 [.slice A n2 cA] 25 :: []) wr)
      case atStart =>
        obtain ⟨t1, t2, _⟩ := top_ok HP.out.2.2.2.1 HP.out.2.1
        exact ⟨_, Lib.hid ⟨Run.refl _ _ _, t1, t2, rfl⟩, hS.re⟩
      case round =>
        clear hS
        obtain ⟨y, HY, hS⟩ := hrel
        have HYL := Lib.hid (valid_iff.1 HY.out.2.1).1
        have HOK := Lib.hid (show ∀ a ∈ p.arcs, a.fr < p.len.length ∧ a.to < p.len.length ∧ 0 ≤ a.at_ from fun a ha => ⟨(HP.out.2.1.arc a ha).fr, (HP.out.2.1.arc a ha).to, (HP.out.2.1.arc a ha).at0⟩)
        cases hid : p.arcs.find? (orph · y) with
        | none =>
          go_wp2_with (first | (refine oL ?_; (first | refine sL1 hS rfl rfl rfl ?_ | refine sL2 hS rfl rfl rfl ?_ | refine sL3 hS rfl rfl ?_ | refine sL4 hS rfl rfl ?_ | refine sL5 hS rfl rfl ?_ | refine sL6 hS rfl rfl ?_ | refine sL7 hS rfl rfl ?_)) | (refine oS ?_; ((first | refine sS1 hS rfl rfl rfl ?_ | refine sS2 hS rfl rfl rfl ?_ | refine sS3 hS rfl rfl rfl ?_ | refine sS4 hS rfl rfl rfl ?_ | refine sS5 hS rfl rfl rfl ?_); clear hS; intro w hS)) | ((first | (refine oB ?_; first | refine sB1 hS rfl rfl ?_ | refine sB2 hS rfl rfl ?_) | refine sN1 hS rfl ?_); clear hS; first | ((fail_if_success guard_hyp g1); intro g1 w hS) | ((fail_if_success guard_hyp g2); intro g2 w hS) | ((fail_if_success guard_hyp g3); intro g3 w hS) | ((fail_if_success guard_hyp g4); intro g4 w hS) | fail) | fail)
          refine (lorphan_st (cs := [blk g2 [.slice A n2 cA] 25]) gr g1 g2 gx p.len.length p.len.length c1 c2 c3 p.ck.length A1 A2 A3 p.arcs y hS HP.out.1.arcs HYL.out HOK.out hn5 hfew none hid).mono ?_
          rintro e w ⟨rfl, hS1⟩
          replace hS := hS1
          clear hS1
          simp only [Option.getD_none, Option.isSome_none, arcCells, arc0]
          go_wp2_with (first | (refine oL ?_; (first | refine sL1 hS rfl rfl rfl ?_ | refine sL2 hS rfl rfl rfl ?_ | refine sL3 hS rfl rfl ?_ | refine sL4 hS rfl rfl ?_ | refine sL5 hS rfl rfl ?_ | refine sL6 hS rfl rfl ?_ | refine sL7 hS rfl rfl ?_)) | (refine oS ?_; ((first | refine sS1 hS rfl rfl rfl ?_ | refine sS2 hS rfl rfl rfl ?_ | refine sS3 hS rfl rfl rfl ?_ | refine sS4 hS rfl rfl rfl ?_ | refine sS5 hS rfl rfl rfl ?_); clear hS; intro w hS)) | ((first | (refine oB ?_; first | refine sB1 hS rfl rfl ?_ | refine sB2 hS rfl rfl ?_) | refine sN1 hS rfl ?_); clear hS; first | ((fail_if_success guard_hyp g1); intro g1 w hS) | ((fail_if_success guard_hyp g2); intro g2 w hS) | ((fail_if_success guard_hyp g3); intro g3 w hS) | ((fail_if_success guard_hyp g4); intro g4 w hS) | fail) | fail)
          go_ret2
          exact ⟨y, _, _, ⟨HY.out.1, find_none.1 hid⟩, rfl, Nat.le_refl _, by omega, hS.rvF, hS.extF hS.frozInto⟩
        | some a =>
          have HM := Lib.hid (List.mem_of_find?_eq_some hid)
          have HO := Lib.hid (show orph a y = true by simpa using List.find?_some hid)
          have HST := Lib.hid (lstep_ok HP.out.2.2.2.1 HP.out.2.1 HM.out HY.out.2.1 HY.out.2.2.1 HO.out)
          have HRUN := Lib.hid (HY.out.1.snoc (step := lineStep al) hid)
          have hto := (HP.out.2.1.arc a HM.out).to
          have hat1 := (orph_iff.1 HO.out).1
          have hat0 := (HP.out.2.1.arc a HM.out).at1
          have hhi := HP.out.2.1.hi _ hto
          obtain ⟨bv, hbv⟩ := bel_zero (HP.out.2.2.2.1.z a.to hto) (show 0 ≤ a.at_ - 1 by omega)
          have HX2 := Lib.hid (show lineStep al a y = y.set a.to bv by rw [lineStep, hbv]; rfl)
          have HBV := Lib.hid hbv
          have hrl := HP.out.2.2.2.2.1 a.to hto
          have hto' : (a.to : Int) < p.len.length := by omega
          clear hbv
          go_wp2_with (first | (refine oL ?_; (first | refine sL1 hS rfl rfl rfl ?_ | refine sL2 hS rfl rfl rfl ?_ | refine sL3 hS rfl rfl ?_ | refine sL4 hS rfl rfl ?_ | refine sL5 hS rfl rfl ?_ | refine sL6 hS rfl rfl ?_ | refine sL7 hS rfl rfl ?_)) | (refine oS ?_; ((first | refine sS1 hS rfl rfl rfl ?_ | refine sS2 hS rfl rfl rfl ?_ | refine sS3 hS rfl rfl rfl ?_ | refine sS4 hS rfl rfl rfl ?_ | refine sS5 hS rfl rfl rfl ?_); clear hS; intro w hS)) | ((first | (refine oB ?_; first | refine sB1 hS rfl rfl ?_ | refine sB2 hS rfl rfl ?_) | refine sN1 hS rfl ?_); clear hS; first | ((fail_if_success guard_hyp g1); intro g1 w hS) | ((fail_if_success guard_hyp g2); intro g2 w hS) | ((fail_if_success guard_hyp g3); intro g3 w hS) | ((fail_if_success guard_hyp g4); intro g4 w hS) | fail) | fail)
          refine (lorphan_st (cs := [blk g2 [.slice A n2 cA] 25]) gr g1 g2 gx p.len.length p.len.length c1 c2 c3 p.ck.length A1 A2 A3 p.arcs y hS HP.out.1.arcs HYL.out HOK.out hn5 hfew (some a) hid).mono ?_
          rintro e w ⟨rfl, hS1⟩
          replace hS := hS1
          clear hS1
          obtain ⟨fr, ix, to_, at_⟩ := a
          simp only [arcCells, Option.getD_some, Option.isSome_some] at *
          go_wp2_with (first | (refine oL ?_; (first | refine sL1 hS rfl rfl rfl ?_ | refine sL2 hS rfl rfl rfl ?_ | refine sL3 hS rfl rfl ?_ | refine sL4 hS rfl rfl ?_ | refine sL5 hS rfl rfl ?_ | refine sL6 hS rfl rfl ?_ | refine sL7 hS rfl rfl ?_)) | (refine oS ?_; ((first | refine sS1 hS rfl rfl rfl ?_ | refine sS2 hS rfl rfl rfl ?_ | refine sS3 hS rfl rfl rfl ?_ | refine sS4 hS rfl rfl rfl ?_ | refine sS5 hS rfl rfl rfl ?_); clear hS; intro w hS)) | ((first | (refine oB ?_; first | refine sB1 hS rfl rfl ?_ | refine sB2 hS rfl rfl ?_) | refine sN1 hS rfl ?_); clear hS; first | ((fail_if_success guard_hyp g1); intro g1 w hS) | ((fail_if_success guard_hyp g2); intro g2 w hS) | ((fail_if_success guard_hyp g3); intro g3 w hS) | ((fail_if_success guard_hyp g4); intro g4 w hS) | fail) | fail)
          refine (lower_st (cs := [blk g1 [.slice A1 p.len.length c1, .slice A2 p.ck.length c2, .slice A3 p.arcs.length c3] 28]) gr g1 g2 gx p.len.length n2 p.len.length cA A al y to_ (at_ - 1) hS.re HP.out.2.2.1 HP.out.2.2.2.2.2 HYL.out hto (by omega) hn5 (by omega) hrl (some bv) HBV.out (y.set to_ bv) rfl).mono ?_
          rintro e w ⟨rfl, hS1⟩
          replace hS := hS1
          clear hS1
          go_wp2_with (first | (refine oL ?_; (first | refine sL1 hS rfl rfl rfl ?_ | refine sL2 hS rfl rfl rfl ?_ | refine sL3 hS rfl rfl ?_ | refine sL4 hS rfl rfl ?_ | refine sL5 hS rfl rfl ?_ | refine sL6 hS rfl rfl ?_ | refine sL7 hS rfl rfl ?_)) | (refine oS ?_; ((first | refine sS1 hS rfl rfl rfl ?_ | refine sS2 hS rfl rfl rfl ?_ | refine sS3 hS rfl rfl rfl ?_ | refine sS4 hS rfl rfl rfl ?_ | refine sS5 hS rfl rfl rfl ?_); clear hS; intro w hS)) | ((first | (refine oB ?_; first | refine sB1 hS rfl rfl ?_ | refine sB2 hS rfl rfl ?_) | refine sN1 hS rfl ?_); clear hS; first | ((fail_if_success guard_hyp g1); intro g1 w hS) | ((fail_if_success guard_hyp g2); intro g2 w hS) | ((fail_if_success guard_hyp g3); intro g3 w hS) | ((fail_if_success guard_hyp g4); intro g4 w hS) | fail) | fail)
          go_roundg (sumN (y.set to_ bv))
          case measure => have h := HST.out.2.2.1; rw [HX2.out, HY.out.2.2.2] at h; exact h
          case rel =>
            have h1 := HST.out.1
            have h2 := HST.out.2.1
            have h3 := HRUN.out
            rw [HX2.out] at h1 h2 h3
            exact ⟨_, Lib.hid ⟨h3, h1, h2, rfl⟩, hS.re⟩
end Go.Proofs.Ytombhhhaidmpeaa
