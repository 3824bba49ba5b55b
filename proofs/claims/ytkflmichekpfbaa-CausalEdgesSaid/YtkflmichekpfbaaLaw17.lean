/- The sanity check of chapter 17; all points of a pattern. Conditions: the pattern is good and lies in memory. -/
import Derived.Test.YtkflmichekpfbaaBefB
import Derived.Test.YtkflmichekpfbaaGg
import Derived.Test.YtkflmichekpfbaaGe
namespace Go.Proofs.Ytkflmichekpfbaa
open Go.RowKit
set_option linter.unusedVariables false
set_option linter.unusedSimpArgs false
set_option linter.unusedSectionVars false

abbrev ex17 : Pat := onePat 1 2 [0] [0] 1 2
theorem ex17_good : Good ex17 := onePat_good (by decide) (by decide) (by decide) (by decide) ⟨⟨[], rfl⟩, by simp, by simp⟩ ⟨⟨[], rfl⟩, by simp, by simp⟩ (by decide) (by decide) (by decide) (by decide)
theorem ex17_clk {c : List Int} (h : IsClk ex17 1 2 c) : c = [1, 2] := h.unique (onePat_clk ex17_good (by decide) (by decide) (by decide) (by decide) (by decide))
theorem ex17_bef : ((0, (1 : Int)) : Nat × Int) ≠ (1, 2) ∧ Reach ex17 (1, 2) (0, 1) := by
  refine ⟨by simp, Reach.refl.step (.inr ?_)⟩
  exact arc_src ex17_good (r := ⟨0, 1, 1, 2⟩) (by simp [onePat]) (by decide)
theorem reps_one17 {w : World} : Reps (repArc w) 4 [.int .i64 0, .int .i64 1, .int .i64 1, .int .i64 2] ex17.arcs := ⟨[_, _, _, _], [], rfl, rfl, rfl, rfl⟩
theorem patAt17 {T : Nat → Prop} {w : World} {g1 g2 g3 g4 g5 : Nat} {t1 t2 t3 t4 t5 : TypeId} (hb1 : w.heap[g1]? = some (.cells #[.int .i64 1, .int .i64 2] t1 (0, 0))) (hb2 : w.heap[g2]? = some (.cells #[.int .i64 0] t2 (0, 0))) (hb3 : w.heap[g3]? = some (.cells #[.int .i64 0] t3 (0, 0)))
    (hb4 : w.heap[g4]? = some (.cells #[.slice (some ⟨g2, 0, none⟩) 1 1, .slice (some ⟨g3, 0, none⟩) 1 1] t4 (0, 0))) (hb5 : w.heap[g5]? = some (.cells #[.int .i64 0, .int .i64 1, .int .i64 1, .int .i64 2] t5 (0, 0))) (hT : ∀ k, T k) : PatAt T w ⟨some ⟨g1, 0, none⟩, 2, some ⟨g4, 0, none⟩, 2, some ⟨g5, 0, none⟩, 1⟩ ex17 := by
  refine ⟨RV.ofBlkT (us := [.int .i64 1, .int .i64 2]) hb1 (hT _), ⟨_, RV.ofBlkT (us := [_, _]) hb4 (hT _), ?_⟩, ⟨_, RV.ofBlkT hb5 (hT _), reps_one17⟩, by simp [onePat], by simp, by simp [onePat], by simp, by simp [onePat], by simp⟩
  exact ⟨[_], [_], rfl, rfl, ⟨some ⟨g2, 0, none⟩, 1, rfl, by decide, by decide, RV.ofBlkT (us := [.int .i64 0]) hb2 (hT _)⟩, [_], [], rfl, rfl, ⟨some ⟨g3, 0, none⟩, 1, rfl, by decide, by decide, RV.ofBlkT (us := [.int .i64 0]) hb3 (hT _)⟩, rfl⟩
section
variable {S : Nat → Prop} {A1 A2 A3 : Option Addr} {c1 c2 c3 n1 n2 n3 : Nat} {p : Pat} {qa qb : Nat} {ka kb za zb : Int} {w : World}
theorem before_n (e1 : p.len.length = n1) (e2 : p.ck.length = n2) (e3 : p.arcs.length = n3) (hza : za = qa) (hzb : zb = qb) (hp : PatAt S w ⟨A1, c1, A2, c2, A3, c3⟩ p) (hg : Good p) (ha : PtOk p (qa, ka)) (hb : PtOk p (qb, kb)) :
    Calls Try.prog 22 #[.agg #[.slice A1 n1 c1, .slice A2 n2 c2, .slice A3 n3 c3], .agg #[.int .i64 za, .int .i64 ka], .agg #[.int .i64 zb, .int .i64 kb]] w (BefRes p (qa, ka) (qb, kb) w) := by
  subst e1 e2 e3 hza hzb; exact before_any ⟨A1, c1, A2, c2, A3, c3⟩ p qa qb ka kb w hp hg ha hb
theorem clock17_n {z k : Int} {q : Nat} (e1 : p.len.length = n1) (e2 : p.ck.length = n2) (e3 : p.arcs.length = n3) (hz : z = q) (hp : PatAt S w ⟨A1, c1, A2, c2, A3, c3⟩ p) (hg : Good p) (hpt : PtOk p (q, k)) :
    Calls Try.prog 20 #[.agg #[.slice A1 n1 c1, .slice A2 n2 c2, .slice A3 n3 c3], .int .i64 z, .int .i64 k] w fun e w' => ∃ (L : Option Addr) (cap : Nat) (c : List Int), e = .returned (.slice L n1 cap) ∧ IsClk p q k c ∧ c.length = n1 ∧ RI (fun b => w.heap.size ≤ b ∧ b < w'.heap.size) w' L c ∧ capOk n1 cap ∧ Ext w w' := by
  subst e1 e2 e3 hz
  refine (clock_any ⟨A1, c1, A2, c2, A3, c3⟩ p q k w hp hg hpt).mono ?_
  rintro e w' ⟨L, cap, c, h1, h2, h3, h4, h5⟩
  exact ⟨L, cap, c, h1, h2, h2.len, h3.into (fun b hb hl => ⟨⟨hb, hl⟩, rfl⟩), h4, h5⟩
end
set_option maxRecDepth 100000 in
set_option maxHeartbeats 3200000 in
theorem awake17_any (w0 : World) : Calls Try.prog 15 #[] w0 fun e w' => e = .returned (.bool true) ∧ Ext w0 w' := by
  have hS := St.start w0 NoM
  go_enter Try.func15, Try.ntmps15
  go_wp2_with (first | (refine oL ?_; (first | refine sL1 hS rfl rfl rfl ?_ | refine sL2 hS rfl rfl rfl ?_ | refine sL3 hS rfl rfl ?_ | refine sL4 hS rfl rfl ?_ | refine sL5 hS rfl rfl ?_ | refine sL6 hS rfl rfl ?_ | refine sL7 hS rfl rfl ?_)) | (refine oS ?_; ((first | refine sS1 hS rfl rfl rfl ?_ | refine sS2 hS rfl rfl rfl ?_ | refine sS3 hS rfl rfl rfl ?_ | refine sS4 hS rfl rfl rfl ?_ | refine sS5 hS rfl rfl rfl ?_); clear hS; intro w hS)) | ((first | refine sN1 hS rfl ?_ | (refine oC ?_; first | refine sC0 hS rfl ?_ | refine sC1 hS rfl rfl ?_ | refine sC2 hS rfl rfl ?_ | refine sC3 hS rfl rfl rfl ?_ | refine sC4 hS rfl rfl rfl ?_)); clear hS; first | ((fail_if_success guard_hyp g1); intro g1 w hS) | ((fail_if_success guard_hyp g2); intro g2 w hS) | ((fail_if_success guard_hyp g3); intro g3 w hS) | ((fail_if_success guard_hyp g4); intro g4 w hS) | ((fail_if_success guard_hyp g5); intro g5 w hS) | ((fail_if_success guard_hyp g6); intro g6 w hS) | ((fail_if_success guard_hyp g7); intro g7 w hS) | fail) | fail)
  have hpa : PatAt All w ⟨some ⟨g1, 0, none⟩, 2, some ⟨g4, 0, none⟩, 2, some ⟨g5, 0, none⟩, 1⟩ ex17 := patAt17 (hS.all (blk g1 [.int .i64 1, .int .i64 2] 3) (by simp)) (hS.all (blk g2 [.int .i64 0] 3) (by simp)) (hS.all (blk g3 [.int .i64 0] 3) (by simp)) (hS.all (blk g4 [.slice (some ⟨g2, 0, none⟩) 1 1, .slice (some ⟨g3, 0, none⟩) 1 1] 24) (by simp)) (hS.all (blk g5 [.int .i64 0, .int .i64 1, .int .i64 1, .int .i64 2] 57) (by simp)) (fun _ => trivial)
  have HPa := Lib.hid hpa
  clear hpa
  refine (clock17_n (p := ex17) (q := 1) (k := 2) rfl rfl rfl rfl HPa.out ex17_good ⟨by decide, by decide, by decide⟩).mono ?_
  rintro e u ⟨L, cap, c, rfl, hc, _, hri, hcap, hx1⟩
  replace hS := hS.frozNew hx1
  rw [ex17_clk hc] at hri
  have HPb := Lib.hid (HPa.out.ext hx1)
  clear HPa hc
  obtain ⟨b1, o1, rfl, hf0⟩ := hri.fc (k := 0) (by decide)
  obtain ⟨b2, o2, e2, hf1⟩ := hri.fc (k := 1) (by decide)
  injection e2 with e2; injection e2 with e2 e3; subst e2; subst e3
  have hf0' : FC _ u b1 o1 (.int .i64 1) := hf0
  have hf1' : FC _ u b1 (o1 + 1) (.int .i64 2) := hf1
  clear hf0 hf1 hri
  go_wp2_with (first | (go_at_call 22; refine (before_n (p := ex17) (qa := 0) (qb := 1) rfl rfl rfl rfl rfl (HPb.out) ex17_good ⟨by decide, by decide, by decide⟩ ⟨by decide, by decide, by decide⟩).mono ?_; rintro e w ⟨r, hr, rfl, hx1⟩; replace hS := hS.ext hx1; obtain rfl : r = true := hr.2 ex17_bef) | (refine oL ?_; (first | refine sL1 hS rfl rfl rfl ?_ | refine sL2 hS rfl rfl rfl ?_ | refine sL3 hS rfl rfl ?_ | refine sL4 hS rfl rfl ?_ | refine sL5 hS rfl rfl ?_ | refine sL6 hS rfl rfl ?_ | refine sL7 hS rfl rfl ?_)) | (refine oS ?_; ((first | refine sS1 hS rfl rfl rfl ?_ | refine sS2 hS rfl rfl rfl ?_ | refine sS3 hS rfl rfl rfl ?_ | refine sS4 hS rfl rfl rfl ?_ | refine sS5 hS rfl rfl rfl ?_); clear hS; intro w hS)) | ((first | refine sN1 hS rfl ?_ | (refine oC ?_; first | refine sC0 hS rfl ?_ | refine sC1 hS rfl rfl ?_ | refine sC2 hS rfl rfl ?_ | refine sC3 hS rfl rfl rfl ?_ | refine sC4 hS rfl rfl rfl ?_)); clear hS; first | ((fail_if_success guard_hyp g1); intro g1 w hS) | ((fail_if_success guard_hyp g2); intro g2 w hS) | ((fail_if_success guard_hyp g3); intro g3 w hS) | ((fail_if_success guard_hyp g4); intro g4 w hS) | ((fail_if_success guard_hyp g5); intro g5 w hS) | ((fail_if_success guard_hyp g6); intro g6 w hS) | ((fail_if_success guard_hyp g7); intro g7 w hS) | fail) | fail)
  go_ret
  exact ⟨rfl, hS.toExt⟩
/-- the points of the first processes, and the first ones of the next process -/
def ptsTo (p : Pat) (q k : Nat) : List (Nat × Int) := ((List.range q).flatMap fun q => (List.range ((nth p.len q).toNat + 1)).map fun (k : Nat) => (q, (k : Int))) ++ (List.range k).map fun (j : Nat) => (q, (j : Int))
theorem ptsTo_succ (p : Pat) (q k : Nat) : ptsTo p q (k + 1) = ptsTo p q k ++ [(q, (k : Int))] := by simp [ptsTo, List.range_succ, List.append_assoc]
theorem ptsTo_next (p : Pat) (q : Nat) : ptsTo p q ((nth p.len q).toNat + 1) = ptsTo p (q + 1) 0 := by simp [ptsTo, List.range_succ (n := q)]
theorem ptsTo_all (p : Pat) : ptsTo p p.len.length 0 = allPts p := by simp [ptsTo, allPts]
theorem pts_flat (l : List (Nat × Int)) : (l.flatMap ptCells).length = l.length * 2 := by
  induction l with
  | nil => rfl
  | cons a l ih => simp [ptCells] at ih ⊢; omega
set_option maxRecDepth 100000 in
set_option maxHeartbeats 3200000 in
theorem points_any {S : Nat → Prop} (A1 A2 A3 : Option Addr) (c1 c2 c3 n2 n3 : Nat) (p : Pat) (w0 : World) (h1 : RI S w0 A1 p.len) (hg : Good p) :
    Calls Try.prog 18 #[.agg #[.slice A1 p.len.length c1, .slice A2 n2 c2, .slice A3 n3 c3]] w0 (RetRow w0 37 2 (allPts p).length ((allPts p).flatMap ptCells)) := by
  have hS := St.start w0 NoM
  have hn5 := hg.n5
  have HG := Lib.hid hg
  clear hg
  go_enter Try.func18, Try.ntmps18
  go_wp2_with (first | (refine oL ?_; (first | refine sL1 hS rfl rfl rfl ?_ | refine sL2 hS rfl rfl rfl ?_ | refine sL3 hS rfl rfl ?_ | refine sL4 hS rfl rfl ?_ | refine sL5 hS rfl rfl ?_ | refine sL6 hS rfl rfl ?_ | refine sL7 hS rfl rfl ?_)) | (refine oP ?_; ((first | refine sP1 hS rfl rfl rfl ?_ | refine sP2 hS rfl rfl rfl ?_ | refine sP3 hS rfl rfl rfl ?_); clear hS; first | ((fail_if_success guard_hyp L1); intro L1 cl1 w hL1 hM1 hS) | ((fail_if_success guard_hyp L2); intro L2 cl2 w hL2 hM2 hS) | fail)) | ((first | (refine oB ?_; first | refine sB1 hS rfl rfl ?_ | refine sB2 hS rfl rfl ?_) | (refine oC ?_; first | refine sC0 hS rfl ?_ | refine sC1 hS rfl rfl ?_ | refine sC2 hS rfl rfl ?_ | refine sC3 hS rfl rfl rfl ?_ | refine sC4 hS rfl rfl rfl ?_)); clear hS; first | ((fail_if_success guard_hyp g1); intro g1 w hS) | ((fail_if_success guard_hyp g2); intro g2 w hS) | ((fail_if_success guard_hyp g3); intro g3 w hS) | fail) | fail)
  go_loopw [3, 9] (fun s3 s9 wr => ∃ (q : Nat) (L : Option Addr) (cl : Nat) (l : List (Nat × Int)), q ≤ p.len.length ∧ s9 = .int .i64 q ∧ s3 = .slice L l.length cl ∧ l.length ≤ q * 65 ∧ Hid (l = ptsTo p q 0) ∧ St w0 NoM [row (.slice L l.length cl) 37 2 l.length (l.flatMap ptCells), blk g1 [.slice A1 p.len.length c1, .slice A2 n2 c2, .slice A3 n3 c3] 28] wr) (fun _ s9 _ => p.len.length - (intOf s9).toNat)
  case atStart => exact ⟨0, none, 0, [], by omega, rfl, rfl, by simp, Lib.hid (by simp [ptsTo]), St.addNil hS.re _ _⟩
  case round =>
    obtain ⟨q, L, cl, l, hq, rfl, rfl, hl, HL, hS⟩ := hrel
    by_cases hlt : q < p.len.length
    · obtain ⟨b1, o1, rfl, _, hca⟩ := h1.atNS hlt
      have hlo := HG.out.lo q hlt
      have hhi := HG.out.hi q hlt
      generalize hm : nth p.len q = m at *
      go_wp2_with (first | (refine oL ?_; (first | refine sL1 hS rfl rfl rfl ?_ | refine sL2 hS rfl rfl rfl ?_ | refine sL3 hS rfl rfl ?_ | refine sL4 hS rfl rfl ?_ | refine sL5 hS rfl rfl ?_ | refine sL6 hS rfl rfl ?_ | refine sL7 hS rfl rfl ?_)) | (refine oP ?_; ((first | refine sP1 hS rfl rfl rfl ?_ | refine sP2 hS rfl rfl rfl ?_ | refine sP3 hS rfl rfl rfl ?_); clear hS; first | ((fail_if_success guard_hyp L1); intro L1 cl1 w hL1 hM1 hS) | ((fail_if_success guard_hyp L2); intro L2 cl2 w hL2 hM2 hS) | fail)) | ((first | (refine oB ?_; first | refine sB1 hS rfl rfl ?_ | refine sB2 hS rfl rfl ?_) | (refine oC ?_; first | refine sC0 hS rfl ?_ | refine sC1 hS rfl rfl ?_ | refine sC2 hS rfl rfl ?_ | refine sC3 hS rfl rfl rfl ?_ | refine sC4 hS rfl rfl rfl ?_)); clear hS; first | ((fail_if_success guard_hyp g1); intro g1 w hS) | ((fail_if_success guard_hyp g2); intro g2 w hS) | ((fail_if_success guard_hyp g3); intro g3 w hS) | fail) | fail)
      go_loopw [3, 5] (fun s3 s5 wr => ∃ (k : Nat) (L : Option Addr) (cl : Nat) (l : List (Nat × Int)), (k : Int) ≤ m + 1 ∧ s5 = .int .i64 k ∧ s3 = .slice L l.length cl ∧ l.length ≤ q * 65 + k ∧ Hid (l = ptsTo p q k) ∧ St w0 NoM [row (.slice L l.length cl) 37 2 l.length (l.flatMap ptCells), blk g1 [.slice (some ⟨b1, o1, none⟩) p.len.length c1, .slice A2 n2 c2, .slice A3 n3 c3] 28] wr) (fun _ s5 _ => (m + 1).toNat - (intOf s5).toNat)
      case atStart => exact ⟨0, L, cl, l, by omega, rfl, rfl, by omega, HL, hS⟩
      case round =>
        clear HL hl
        obtain ⟨k, L, cl, l, hk, rfl, rfl, hl, HL, hS⟩ := hrel
        by_cases hkl : (k : Int) ≤ m
        · have d1 : decide ((k : Int) ≤ m) = true := decide_eq_true hkl
          have HPS := Lib.hid (show ptsTo p q (k + 1) = l ++ [(q, (k : Int))] by rw [ptsTo_succ, HL.out])
          have HLL := Lib.hid (show (l ++ [(q, (k : Int))]).length = l.length + 1 by simp)
          have HFL := Lib.hid (show (l ++ [(q, (k : Int))]).flatMap ptCells = l.flatMap ptCells ++ [.int .i64 (q : Int), .int .i64 (k : Int)] by simp [ptCells])
          go_wp2_with (first | (refine oL ?_; (first | refine sL1 hS rfl rfl rfl ?_ | refine sL2 hS rfl rfl rfl ?_ | refine sL3 hS rfl rfl ?_ | refine sL4 hS rfl rfl ?_ | refine sL5 hS rfl rfl ?_ | refine sL6 hS rfl rfl ?_ | refine sL7 hS rfl rfl ?_)) | (refine oP ?_; ((first | refine sP1 hS rfl rfl rfl ?_ | refine sP2 hS rfl rfl rfl ?_ | refine sP3 hS rfl rfl rfl ?_); clear hS; first | ((fail_if_success guard_hyp L1); intro L1 cl1 w hL1 hM1 hS) | ((fail_if_success guard_hyp L2); intro L2 cl2 w hL2 hM2 hS) | fail)) | ((first | (refine oB ?_; first | refine sB1 hS rfl rfl ?_ | refine sB2 hS rfl rfl ?_) | (refine oC ?_; first | refine sC0 hS rfl ?_ | refine sC1 hS rfl rfl ?_ | refine sC2 hS rfl rfl ?_ | refine sC3 hS rfl rfl rfl ?_ | refine sC4 hS rfl rfl rfl ?_)); clear hS; first | ((fail_if_success guard_hyp g1); intro g1 w hS) | ((fail_if_success guard_hyp g2); intro g2 w hS) | ((fail_if_success guard_hyp g3); intro g3 w hS) | fail) | fail)
          go_roundw
          case measure => simp [intOf]; omega
          refine ⟨k + 1, L1, cl1, l ++ [(q, (k : Int))], by omega, by go_num, by rw [HLL.out], by rw [HLL.out]; omega, Lib.hid HPS.out.symm, ?_⟩
          rw [HLL.out, HFL.out]
          exact hS
        · have d1 : decide ((k : Int) ≤ m) = false := decide_eq_false hkl
          go_wp2_with (first | (refine oL ?_; (first | refine sL1 hS rfl rfl rfl ?_ | refine sL2 hS rfl rfl rfl ?_ | refine sL3 hS rfl rfl ?_ | refine sL4 hS rfl rfl ?_ | refine sL5 hS rfl rfl ?_ | refine sL6 hS rfl rfl ?_ | refine sL7 hS rfl rfl ?_)) | (refine oP ?_; ((first | refine sP1 hS rfl rfl rfl ?_ | refine sP2 hS rfl rfl rfl ?_ | refine sP3 hS rfl rfl rfl ?_); clear hS; first | ((fail_if_success guard_hyp L1); intro L1 cl1 w hL1 hM1 hS) | ((fail_if_success guard_hyp L2); intro L2 cl2 w hL2 hM2 hS) | fail)) | ((first | (refine oB ?_; first | refine sB1 hS rfl rfl ?_ | refine sB2 hS rfl rfl ?_) | (refine oC ?_; first | refine sC0 hS rfl ?_ | refine sC1 hS rfl rfl ?_ | refine sC2 hS rfl rfl ?_ | refine sC3 hS rfl rfl rfl ?_ | refine sC4 hS rfl rfl rfl ?_)); clear hS; first | ((fail_if_success guard_hyp g1); intro g1 w hS) | ((fail_if_success guard_hyp g2); intro g2 w hS) | ((fail_if_success guard_hyp g3); intro g3 w hS) | fail) | fail)
          go_roundw
          case measure => simp [intOf]; omega
          refine ⟨q + 1, L, cl, l, by omega, by go_num, rfl, by omega, Lib.hid ?_, hS⟩
          rw [HL.out, ← ptsTo_next, hm]
          congr 1
          omega
    · go_wp2_with (first | (refine oL ?_; (first | refine sL1 hS rfl rfl rfl ?_ | refine sL2 hS rfl rfl rfl ?_ | refine sL3 hS rfl rfl ?_ | refine sL4 hS rfl rfl ?_ | refine sL5 hS rfl rfl ?_ | refine sL6 hS rfl rfl ?_ | refine sL7 hS rfl rfl ?_)) | (refine oP ?_; ((first | refine sP1 hS rfl rfl rfl ?_ | refine sP2 hS rfl rfl rfl ?_ | refine sP3 hS rfl rfl rfl ?_); clear hS; first | ((fail_if_success guard_hyp L1); intro L1 cl1 w hL1 hM1 hS) | ((fail_if_success guard_hyp L2); intro L2 cl2 w hL2 hM2 hS) | fail)) | ((first | (refine oB ?_; first | refine sB1 hS rfl rfl ?_ | refine sB2 hS rfl rfl ?_) | (refine oC ?_; first | refine sC0 hS rfl ?_ | refine sC1 hS rfl rfl ?_ | refine sC2 hS rfl rfl ?_ | refine sC3 hS rfl rfl rfl ?_ | refine sC4 hS rfl rfl rfl ?_)); clear hS; first | ((fail_if_success guard_hyp g1); intro g1 w hS) | ((fail_if_success guard_hyp g2); intro g2 w hS) | ((fail_if_success guard_hyp g3); intro g3 w hS) | fail) | fail)
      go_ret
      have hl' := HL.out
      rw [show q = p.len.length by omega, ptsTo_all] at hl'
      subst hl'
      exact hS.ret rfl
end Go.Proofs.Ytkflmichekpfbaa
