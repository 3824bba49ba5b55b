/- rollbacknetref17.Order. Conditions: the pattern is good and lies in memory. -/
import Derived.Test.YtkflmichekpfbaaCanA
import Derived.Test.YtkflmichekpfbaaBefA
namespace Go.Proofs.Ytkflmichekpfbaa
open Go.RowKit
set_option linter.unusedVariables false
set_option linter.unusedSimpArgs false
set_option linter.unusedSectionVars false

theorem lackN_le : ∀ {len l : List Int}, (∀ m ∈ len, m ≤ 64) → (∀ x ∈ l, 0 ≤ x) → lackN len l ≤ 64 * len.length
  | [], _, _, _ => by simp [lackN]
  | _ :: _, [], _, _ => by simp [lackN]
  | m :: len, x :: l, h, h' => by
    have := lackN_le (len := len) (l := l) (fun a ha => h a (by simp [ha])) (fun a ha => h' a (by simp [ha]))
    have h1 := h m (by simp)
    have h2 := h' x (by simp)
    simp only [lackN, List.length_cons]
    omega
theorem lackN_zero {p : Pat} (hg : Good p) : lackN p.len (List.replicate p.len.length 0) ≤ 320 := by
  have := lackN_le (len := p.len) (l := List.replicate p.len.length 0) (fun m hm => by
    obtain ⟨i, hi, rfl⟩ := List.getElem_of_mem hm
    rw [← nth_eq hi]; exact hg.hi i hi) (fun x hx => by rw [List.eq_of_mem_replicate hx]; exact Int.le_refl _)
  have := hg.n5
  omega
theorem lackN_goOn {p : Pat} {x : List Int} {q : Nat} (hv : validB p.len x = true) (hq : q < p.len.length) (h : canB p x q = true) : lackN p.len (goOn x q) < lackN p.len x := by
  obtain ⟨hl, hb⟩ := valid_iff.1 hv
  have := canB_lt h
  exact lackN_set (by rw [hl]; exact hq) hq (by omega) (by omega)
/-- what Order returns -/
def OrdRes (p : Pat) (w0 : World) (e : Ending) (w' : World) : Prop := ∃ n l, ordSt p n = (l, p.len) ∧ nextQ p p.len = none ∧ l.length ≤ 320 ∧ RetRow w0 37 2 l.length (l.flatMap ptCells) e w'
set_option maxRecDepth 100000 in
set_option maxHeartbeats 3200000 in
theorem rorder_any {S : Nat → Prop} (v : PV) (p : Pat) (w0 : World) (hp : PatAt S w0 v p) (hg : Good p) :
    Calls Try.prog 44 #[v.val p] w0 (OrdRes p w0) := by
  have hS := St.start w0 NoM
  have hn5 := hg.n5
  have hn2 := hg.n2
  have HP := Lib.hid (And.intro hp hg)
  clear hp hg
  obtain ⟨A1, c1, A2, c2, A3, c3⟩ := v
  simp only [PV.val] at *
  go_enter Try.func44, Try.ntmps44
  go_wp2_with (first | (refine oL ?_; (first | refine sL1 hS rfl rfl rfl ?_ | refine sL2 hS rfl rfl rfl ?_ | refine sL3 hS rfl rfl ?_ | refine sL4 hS rfl rfl ?_ | refine sL5 hS rfl rfl ?_ | refine sL6 hS rfl rfl ?_ | refine sL7 hS rfl rfl ?_)) | (refine oS ?_; ((first | refine sS1 hS rfl rfl rfl ?_ | refine sS2 hS rfl rfl rfl ?_ | refine sS3 hS rfl rfl rfl ?_ | refine sS4 hS rfl rfl rfl ?_ | refine sS5 hS rfl rfl rfl ?_); clear hS; intro w hS)) | (refine oP ?_; ((first | refine sP1 hS rfl rfl rfl ?_ | refine sP2 hS rfl rfl rfl ?_ | refine sP3 hS rfl rfl rfl ?_); clear hS; first | ((fail_if_success guard_hyp L1); intro L1 cl1 w hL1 hM1 hS) | ((fail_if_success guard_hyp L2); intro L2 cl2 w hL2 hM2 hS) | fail)) | ((first | (refine oB ?_; first | refine sB1 hS rfl rfl ?_ | refine sB2 hS rfl rfl ?_) | (refine oC ?_; first | refine sC0 hS rfl ?_ | refine sC1 hS rfl rfl ?_ | refine sC2 hS rfl rfl ?_ | refine sC3 hS rfl rfl rfl ?_ | refine sC4 hS rfl rfl rfl ?_) | refine sM1 hS rfl rfl rfl ?_); clear hS; first | ((fail_if_success guard_hyp g1); intro g1 w hS) | ((fail_if_success guard_hyp g2); intro g2 w hS) | ((fail_if_success guard_hyp g3); intro g3 w hS) | ((fail_if_success guard_hyp g4); intro g4 w hS) | fail) | fail)
  go_loopg [3] (lackN p.len (List.replicate p.len.length 0)) (fun kk s3 wr => ∃ (n : Nat) (l : List (Nat × Int)) (x : List Int) (L : Option Addr) (c : Nat), s3 = .slice L l.length c ∧ l.length ≤ 320 ∧ Hid (ordSt p n = (l, x) ∧ l.length + kk ≤ 320 ∧ lackN p.len x = kk ∧ validB p.len x = true) ∧ St w0 NoM [row (.slice L l.length c) 37 2 l.length (l.flatMap ptCells), row (.slice (some ⟨g2, 0, none⟩) p.len.length p.len.length) 3 1 p.len.length (ints x), blk g1 [.slice A1 p.len.length c1, .slice A2 p.ck.length c2, .slice A3 p.arcs.length c3] 28] wr)
  case atStart => exact ⟨0, [], List.replicate p.len.length 0, none, 0, rfl, by simp, Lib.hid ⟨rfl, by have := lackN_zero HP.out.2; simpa using this, rfl, valid_zero HP.out.2⟩, St.addNil hS.re _ _⟩
  case round =>
    clear hS
    obtain ⟨n, l, x, L, c, rfl, hl, HI, hS⟩ := hrel
    have HXL := Lib.hid (valid_iff.1 HI.out.2.2.2).1
    go_wp2_with (first | (refine oL ?_; (first | refine sL1 hS rfl rfl rfl ?_ | refine sL2 hS rfl rfl rfl ?_ | refine sL3 hS rfl rfl ?_ | refine sL4 hS rfl rfl ?_ | refine sL5 hS rfl rfl ?_ | refine sL6 hS rfl rfl ?_ | refine sL7 hS rfl rfl ?_)) | (refine oS ?_; ((first | refine sS1 hS rfl rfl rfl ?_ | refine sS2 hS rfl rfl rfl ?_ | refine sS3 hS rfl rfl rfl ?_ | refine sS4 hS rfl rfl rfl ?_ | refine sS5 hS rfl rfl rfl ?_); clear hS; intro w hS)) | (refine oP ?_; ((first | refine sP1 hS rfl rfl rfl ?_ | refine sP2 hS rfl rfl rfl ?_ | refine sP3 hS rfl rfl rfl ?_); clear hS; first | ((fail_if_success guard_hyp L1); intro L1 cl1 w hL1 hM1 hS) | ((fail_if_success guard_hyp L2); intro L2 cl2 w hL2 hM2 hS) | fail)) | ((first | (refine oB ?_; first | refine sB1 hS rfl rfl ?_ | refine sB2 hS rfl rfl ?_) | (refine oC ?_; first | refine sC0 hS rfl ?_ | refine sC1 hS rfl rfl ?_ | refine sC2 hS rfl rfl ?_ | refine sC3 hS rfl rfl rfl ?_ | refine sC4 hS rfl rfl rfl ?_) | refine sM1 hS rfl rfl rfl ?_); clear hS; first | ((fail_if_success guard_hyp g1); intro g1 w hS) | ((fail_if_success guard_hyp g2); intro g2 w hS) | ((fail_if_success guard_hyp g3); intro g3 w hS) | ((fail_if_success guard_hyp g4); intro g4 w hS) | fail) | fail)
    go_loopw [5] (fun s5 wr => ∃ (j : Nat), j ≤ p.len.length ∧ s5 = .int .i64 j ∧ Hid (∀ r, r < j → canB p x r = false) ∧ St w0 NoM [row (.slice L l.length c) 37 2 l.length (l.flatMap ptCells), row (.slice (some ⟨g2, 0, none⟩) p.len.length p.len.length) 3 1 p.len.length (ints x), blk g1 [.slice A1 p.len.length c1, .slice A2 p.ck.length c2, .slice A3 p.arcs.length c3] 28] wr) (fun s5 _ => p.len.length - (intOf s5).toNat)
    case atStart => exact ⟨0, by omega, rfl, Lib.hid (fun r hr => absurd hr (by omega)), hS.re⟩
    case round =>
      obtain ⟨j, hj, rfl, HJ, hS⟩ := hrel
      by_cases hlt : j < p.len.length
      · cases hc : canB p x j with
        | false =>
          have HC := Lib.hid hc
          clear hc
          go_wp2_with (first | (go_at_call 36; refine (can_any ⟨A1, c1, A2, c2, A3, c3⟩ p _ _ x j _ (HP.out.1.ext hS.toExt) HP.out.2 hS.ri HI.out.2.2.2 hlt).mono ?_; rintro e w ⟨rfl, hx1⟩; replace hS := hS.ext hx1; rw [HC.out]) | (refine oL ?_; (first | refine sL1 hS rfl rfl rfl ?_ | refine sL2 hS rfl rfl rfl ?_ | refine sL3 hS rfl rfl ?_ | refine sL4 hS rfl rfl ?_ | refine sL5 hS rfl rfl ?_ | refine sL6 hS rfl rfl ?_ | refine sL7 hS rfl rfl ?_)) | (refine oS ?_; ((first | refine sS1 hS rfl rfl rfl ?_ | refine sS2 hS rfl rfl rfl ?_ | refine sS3 hS rfl rfl rfl ?_ | refine sS4 hS rfl rfl rfl ?_ | refine sS5 hS rfl rfl rfl ?_); clear hS; intro w hS)) | (refine oP ?_; ((first | refine sP1 hS rfl rfl rfl ?_ | refine sP2 hS rfl rfl rfl ?_ | refine sP3 hS rfl rfl rfl ?_); clear hS; first | ((fail_if_success guard_hyp L1); intro L1 cl1 w hL1 hM1 hS) | ((fail_if_success guard_hyp L2); intro L2 cl2 w hL2 hM2 hS) | fail)) | ((first | (refine oB ?_; first | refine sB1 hS rfl rfl ?_ | refine sB2 hS rfl rfl ?_) | (refine oC ?_; first | refine sC0 hS rfl ?_ | refine sC1 hS rfl rfl ?_ | refine sC2 hS rfl rfl ?_ | refine sC3 hS rfl rfl rfl ?_ | refine sC4 hS rfl rfl rfl ?_) | refine sM1 hS rfl rfl rfl ?_); clear hS; first | ((fail_if_success guard_hyp g1); intro g1 w hS) | ((fail_if_success guard_hyp g2); intro g2 w hS) | ((fail_if_success guard_hyp g3); intro g3 w hS) | ((fail_if_success guard_hyp g4); intro g4 w hS) | fail) | fail)
          go_roundw
          case measure => simp [intOf]; omega
          refine ⟨j + 1, by omega, by go_num, Lib.hid (fun r hr => ?_), hS⟩
          by_cases hrj : r = j
          · subst hrj; exact HC.out
          · exact HJ.out r (by omega)
        | true =>
          have HC := Lib.hid hc
          clear hc
          have HN := Lib.hid (nextQ_at hlt HC.out HJ.out)
          have hxb := (valid_iff.1 HI.out.2.2.2).2 j hlt
          have hhi := HP.out.2.hi j hlt
          have hjx : j < x.length := by rw [HXL.out]; exact hlt
          have hcell : (ints x)[j]? = some (.int .i64 (nth x j)) := by rw [ints_get hjx, nth_eq hjx]
          have hcell2 : (ints (x.set j (nth x j + 1)))[j]? = some (.int .i64 (nth x j + 1)) := by simp [ints, hjx]
          have HLK := Lib.hid (lackN_goOn HI.out.2.2.2 hlt HC.out)
          have HLL := Lib.hid (show (l ++ [(j, nth x j + 1)]).length = l.length + 1 by simp)
          have HFL := Lib.hid (show (l ++ [(j, nth x j + 1)]).flatMap ptCells = l.flatMap ptCells ++ [.int .i64 (j : Int), .int .i64 (nth x j + 1)] by simp [ptCells])
          have HOS := Lib.hid (show ordSt p (n + 1) = (l ++ [(j, nth x j + 1)], goOn x j) by rw [ordSt_some (q := j) (by rw [HI.out.1]; exact HN.out), HI.out.1])
          have HVV := Lib.hid (show validB p.len (goOn x j) = true by have := ordSt_valid HP.out.2 (n + 1); rw [HOS.out] at this; exact this)
          have e0 : ((j : Int) == (p.len.length : Int)) = false := by simp; omega
          have hjl' : (j : Int) < p.len.length := by omega
          have HGO := Lib.hid (show goOn x j = x.set j (nth x j + 1) from rfl)
          generalize hxj : nth x j = xj at *
          go_wp2_with (first | (go_at_call 36; refine (can_any ⟨A1, c1, A2, c2, A3, c3⟩ p _ _ x j _ (HP.out.1.ext hS.toExt) HP.out.2 hS.ri HI.out.2.2.2 hlt).mono ?_; rintro e w ⟨rfl, hx1⟩; replace hS := hS.ext hx1; rw [HC.out]) | (refine oL ?_; (first | refine sL1 hS rfl rfl rfl ?_ | refine sL2 hS rfl rfl rfl ?_ | refine sL3 hS rfl rfl ?_ | refine sL4 hS rfl rfl ?_ | refine sL5 hS rfl rfl ?_ | refine sL6 hS rfl rfl ?_ | refine sL7 hS rfl rfl ?_)) | (refine oS ?_; ((first | refine sS1 hS rfl rfl rfl ?_ | refine sS2 hS rfl rfl rfl ?_ | refine sS3 hS rfl rfl rfl ?_ | refine sS4 hS rfl rfl rfl ?_ | refine sS5 hS rfl rfl rfl ?_); clear hS; intro w hS)) | (refine oP ?_; ((first | refine sP1 hS rfl rfl rfl ?_ | refine sP2 hS rfl rfl rfl ?_ | refine sP3 hS rfl rfl rfl ?_); clear hS; first | ((fail_if_success guard_hyp L1); intro L1 cl1 w hL1 hM1 hS) | ((fail_if_success guard_hyp L2); intro L2 cl2 w hL2 hM2 hS) | fail)) | ((first | (refine oB ?_; first | refine sB1 hS rfl rfl ?_ | refine sB2 hS rfl rfl ?_) | (refine oC ?_; first | refine sC0 hS rfl ?_ | refine sC1 hS rfl rfl ?_ | refine sC2 hS rfl rfl ?_ | refine sC3 hS rfl rfl rfl ?_ | refine sC4 hS rfl rfl rfl ?_) | refine sM1 hS rfl rfl rfl ?_); clear hS; first | ((fail_if_success guard_hyp g1); intro g1 w hS) | ((fail_if_success guard_hyp g2); intro g2 w hS) | ((fail_if_success guard_hyp g3); intro g3 w hS) | ((fail_if_success guard_hyp g4); intro g4 w hS) | fail) | fail)
          go_roundg (lackN p.len (goOn x j))
          case measure => have := HI.out.2.2.1; have := HLK.out; omega
          refine ⟨n + 1, l ++ [(j, xj + 1)], goOn x j, L1, cl1, by rw [HLL.out], by rw [HLL.out]; have := HI.out.2; have := HLK.out; omega, Lib.hid ⟨HOS.out, by rw [HLL.out]; have := HI.out.2; have := HLK.out; omega, rfl, HVV.out⟩, ?_⟩
          rw [HLL.out, HFL.out, HGO.out]
          exact hS
      · have hje : j = p.len.length := by omega
        subst hje
        have HN := Lib.hid (nextQ_none.2 HJ.out)
        have HE := Lib.hid (all_come HP.out.2 HI.out.2.2.2 HN.out)
        have e0 : ((p.len.length : Int) == (p.len.length : Int)) = true := by simp
        go_upto_region 4 with (first | (refine oL ?_; (first | refine sL1 hS rfl rfl rfl ?_ | refine sL2 hS rfl rfl rfl ?_ | refine sL3 hS rfl rfl ?_ | refine sL4 hS rfl rfl ?_ | refine sL5 hS rfl rfl ?_ | refine sL6 hS rfl rfl ?_ | refine sL7 hS rfl rfl ?_)) | (refine oS ?_; ((first | refine sS1 hS rfl rfl rfl ?_ | refine sS2 hS rfl rfl rfl ?_ | refine sS3 hS rfl rfl rfl ?_ | refine sS4 hS rfl rfl rfl ?_ | refine sS5 hS rfl rfl rfl ?_); clear hS; intro w hS)) | (refine oP ?_; ((first | refine sP1 hS rfl rfl rfl ?_ | refine sP2 hS rfl rfl rfl ?_ | refine sP3 hS rfl rfl rfl ?_); clear hS; first | ((fail_if_success guard_hyp L1); intro L1 cl1 w hL1 hM1 hS) | ((fail_if_success guard_hyp L2); intro L2 cl2 w hL2 hM2 hS) | fail)) | ((first | (refine oB ?_; first | refine sB1 hS rfl rfl ?_ | refine sB2 hS rfl rfl ?_) | (refine oC ?_; first | refine sC0 hS rfl ?_ | refine sC1 hS rfl rfl ?_ | refine sC2 hS rfl rfl ?_ | refine sC3 hS rfl rfl rfl ?_ | refine sC4 hS rfl rfl rfl ?_) | refine sM1 hS rfl rfl rfl ?_); clear hS; first | ((fail_if_success guard_hyp g1); intro g1 w hS) | ((fail_if_success guard_hyp g2); intro g2 w hS) | ((fail_if_success guard_hyp g3); intro g3 w hS) | ((fail_if_success guard_hyp g4); intro g4 w hS) | fail) | fail)
        refine lR ?_
        refine lM rfl rfl ?_
        (try simp only [Act.put, nA, nB, nC])
        refine lM rfl rfl ?_
        (try simp only [Act.put, nA, nB, nC])
        refine lP rfl ?_
        (try simp only [Act.put, nA, nB, nC])
        refine lP rfl ?_
        (try simp only [Act.put, nA, nB, nC])
        refine lM rfl rfl ?_
        (try simp only [Act.put, nA, nB, nC])
        first | refine lQ rfl ?_ | (refine ⟨?_⟩; ((first | refine sL1 hS rfl rfl rfl ?_ | refine sL2 hS rfl rfl rfl ?_ | refine sL3 hS rfl rfl ?_ | refine sL4 hS rfl rfl ?_ | refine sL5 hS rfl rfl ?_ | refine sL6 hS rfl rfl ?_ | refine sL7 hS rfl rfl ?_)); refine WL.h ?_) | fail
        (try simp only [Act.put, nA, nB, nC])
        first | refine lQ rfl ?_ | refine lM rfl rfl ?_ | fail
        (try simp only [Act.put, nA, nB, nC])
        first | refine lQ rfl ?_ | refine lM rfl rfl ?_ | fail
        (try simp only [Act.put, nA, nB, nC])
        first | refine lQ rfl ?_ | (refine ⟨?_⟩; (refine st_call rfl (by kernel_rfl) rfl ?_; go_at_call 36; fail); refine WL.h ?_) | fail
        (try simp only [Act.put, nA, nB, nC])
        first | refine lQ rfl ?_ | refine lP rfl ?_ | fail
        (try simp only [Act.put, nA, nB, nC])
        refine lP rfl ?_
        (try simp only [Act.put, nA, nB, nC])
        refine lZ ?_
        go_wp2_with (first | (refine oL ?_; (first | refine sL1 hS rfl rfl rfl ?_ | refine sL2 hS rfl rfl rfl ?_ | refine sL3 hS rfl rfl ?_ | refine sL4 hS rfl rfl ?_ | refine sL5 hS rfl rfl ?_ | refine sL6 hS rfl rfl ?_ | refine sL7 hS rfl rfl ?_)) | (refine oS ?_; ((first | refine sS1 hS rfl rfl rfl ?_ | refine sS2 hS rfl rfl rfl ?_ | refine sS3 hS rfl rfl rfl ?_ | refine sS4 hS rfl rfl rfl ?_ | refine sS5 hS rfl rfl rfl ?_); clear hS; intro w hS)) | (refine oP ?_; ((first | refine sP1 hS rfl rfl rfl ?_ | refine sP2 hS rfl rfl rfl ?_ | refine sP3 hS rfl rfl rfl ?_); clear hS; first | ((fail_if_success guard_hyp L1); intro L1 cl1 w hL1 hM1 hS) | ((fail_if_success guard_hyp L2); intro L2 cl2 w hL2 hM2 hS) | fail)) | ((first | (refine oB ?_; first | refine sB1 hS rfl rfl ?_ | refine sB2 hS rfl rfl ?_) | (refine oC ?_; first | refine sC0 hS rfl ?_ | refine sC1 hS rfl rfl ?_ | refine sC2 hS rfl rfl ?_ | refine sC3 hS rfl rfl rfl ?_ | refine sC4 hS rfl rfl rfl ?_) | refine sM1 hS rfl rfl rfl ?_); clear hS; first | ((fail_if_success guard_hyp g1); intro g1 w hS) | ((fail_if_success guard_hyp g2); intro g2 w hS) | ((fail_if_success guard_hyp g3); intro g3 w hS) | ((fail_if_success guard_hyp g4); intro g4 w hS) | fail) | fail)
        go_ret
        exact ⟨n, l, by rw [← HE.out]; exact HI.out.1, by rw [← HE.out]; exact HN.out, hl, hS.ret rfl⟩
end Go.Proofs.Ytkflmichekpfbaa
