/- causal.Order. Conditions: the pattern is good and lies in memory. -/
import Derived.Test.YtkflmichekpfbaaOrdD
namespace Go.Proofs.Ytkflmichekpfbaa
open Go.RowKit
set_option linter.unusedVariables false
set_option linter.unusedSimpArgs false
set_option linter.unusedSectionVars false

theorem St.cellB {w0 w : World} {M : Nat → Prop} {cs : List (Chunk w0 M)} {f : Chunk w0 M → List (Chunk w0 M)} {g j : Nat} {vs : List Value} {t : TypeId} {v : Value} (h : St w0 M cs w) [hp : PickB g cs vs t f] (hj : vs[j]? = some v) : w.cell? ⟨g, j, none⟩ = some v :=
  cell_of_heap ((hp.eq ▸ h : St w0 M (f (blk g vs t)) w).at_ hp.gap : w.heap[g]? = _) (by simpa using hj)
theorem St.ptSlice2 {w0 w : World} {M : Nat → Prop} {cs : List (Chunk w0 M)} {f : Chunk w0 M → List (Chunk w0 M)} {L : Option Addr} {k c n : Nat} {e : TypeId} {l : List (Nat × Int)} (h : St w0 M cs w) [hp : PickL L cs k c e 2 n (l.flatMap ptCells) f] : RPt All w L l := ⟨_, h.rv, reps_pts w l⟩
set_option maxRecDepth 100000 in
set_option maxHeartbeats 6400000 in
theorem order_any {S : Nat → Prop} (v : PV) (p : Pat) (w0 : World) (hp : PatAt S w0 v p) (hg : Good p) :
    Calls Try.prog 35 #[v.val p] w0 (OrdRes p w0) := by
  have hS := St.start w0 NoM
  have hn5 := hg.n5
  have hn2 := hg.n2
  have hfew := hg.few
  have HP := Lib.hid (And.intro hp hg)
  clear hp hg
  obtain ⟨A1, c1, A2, c2, A3, c3⟩ := v
  simp only [PV.val] at *
  have hmf : ∀ (fn : Fn) (first cap : Array Value) (w : World), (Instr.makeFunc fn first cap).run Try.prog w = .ok (.func fn first cap) w := fun _ _ _ _ => rfl
  go_enter Try.func35, Try.ntmps35
  go_wp2_with (first | (go_at_call 62; refine (cfits_any ⟨A1, c1, A2, c2, A3, c3⟩ none 0 p [] _ (HP.out.1.ext hS.toExt) HP.out.2 (RL.nil_ repPt 2 All _ none) (by simp) (by simp)).mono ?_; rintro e w ⟨rfl, hx1⟩; replace hS := hS.ext hx1) | (go_at_call 63; refine (newHist_any A1 A2 A3 c1 c2 c3 p.len.length p.ck.length p.arcs _ (HP.out.1.ext hS.toExt).arcs (by omega)).mono ?_; rintro e w ⟨gh, gs, gc, rfl, hH, z1, z2, z3, hx1⟩; replace hS := hS.addHist hx1 hH z1 z2 z3; clear hH z1 z2 z3 hx1) | (refine oL ?_; (first | refine sL1 hS rfl rfl rfl ?_ | refine sL2 hS rfl rfl rfl ?_ | refine sL3 hS rfl rfl ?_ | refine sL4 hS rfl rfl ?_ | refine sL5 hS rfl rfl ?_ | refine sL6 hS rfl rfl ?_ | refine sL7 hS rfl rfl ?_)) | (refine oS ?_; ((first | refine sS1 hS rfl rfl rfl ?_ | refine sS2 hS rfl rfl rfl ?_ | refine sS3 hS rfl rfl rfl ?_ | refine sS4 hS rfl rfl rfl ?_ | refine sS5 hS rfl rfl rfl ?_); clear hS; intro w hS)) | (refine oP ?_; ((first | refine sP1 hS rfl rfl rfl ?_ | refine sP2 hS rfl rfl rfl ?_ | refine sP3 hS rfl rfl rfl ?_); clear hS; first | ((fail_if_success guard_hyp L1); intro L1 cl1 w hL1 hM1 hS) | ((fail_if_success guard_hyp L2); intro L2 cl2 w hL2 hM2 hS) | fail)) | ((first | (refine oB ?_; first | refine sB1 hS rfl rfl ?_ | refine sB2 hS rfl rfl ?_) | refine sN1 hS rfl ?_ | (refine oC ?_; first | refine sC0 hS rfl ?_ | refine sC1 hS rfl rfl ?_ | refine sC2 hS rfl rfl ?_ | refine sC3 hS rfl rfl rfl ?_ | refine sC4 hS rfl rfl rfl ?_) | refine sM1 hS rfl rfl rfl ?_); clear hS; first | ((fail_if_success guard_hyp g1); intro g1 w hS) | ((fail_if_success guard_hyp g2); intro g2 w hS) | ((fail_if_success guard_hyp g3); intro g3 w hS) | ((fail_if_success guard_hyp g4); intro g4 w hS) | ((fail_if_success guard_hyp g5); intro g5 w hS) | ((fail_if_success guard_hyp g6); intro g6 w hS) | fail) | fail)
  simp only [nB] at hS
  go_loopg [5] (lackN p.len (List.replicate p.len.length 0)) (fun kk s5 wr => ∃ (n : Nat) (l : List (Nat × Int)) (x : List Int) (L : Option Addr) (c : Nat), s5 = .slice L l.length c ∧ l.length ≤ 320 ∧ Hid (ordSt p n = (l, x) ∧ l.length + kk ≤ 320 ∧ lackN p.len x = kk ∧ validB p.len x = true) ∧ St w0 NoM [row (.slice L l.length c) 37 2 l.length (l.flatMap ptCells), blk g4 [.slice (some ⟨g3, 0, none⟩) p.len.length p.len.length] 24, row (.slice (some ⟨g3, 0, none⟩) p.len.length p.len.length) 3 1 p.len.length (ints x), blk g2 [.pointer (some ⟨gh, 0, none⟩)] 64, mpc gs (srcM p.arcs), blk gh [.slice A1 p.len.length c1, .map (some gs), .map (some gc)] 75] wr)
  case atStart => exact ⟨0, [], List.replicate p.len.length 0, none, 0, rfl, by simp, Lib.hid ⟨rfl, by have := lackN_zero HP.out.2; simpa using this, rfl, valid_zero HP.out.2⟩, St.addNil hS.re _ _⟩
  case round =>
    clear hS
    obtain ⟨n, l, x, L, c, rfl, hl, HI, hS⟩ := hrel
    have HXL := Lib.hid (valid_iff.1 HI.out.2.2.2).1
    have HIDX := Lib.hid (idxF_up HI.out.2.2.2)
    go_wp2_with (first | (go_at_call 75; refine (upcoming_any p x gh A1 _ c1 _ _ HP.out.2 HI.out.2.2.2 (hS.cellB (g := gh) rfl) (HP.out.1.len.ext hS.toExt) hS.ri).mono ?_; rintro e w ⟨L2, cl2, rfl, ho, hx1⟩; replace hS := hS.addRow ho hx1; clear ho) | (refine oL ?_; (first | refine sL1 hS rfl rfl rfl ?_ | refine sL2 hS rfl rfl rfl ?_ | refine sL3 hS rfl rfl ?_ | refine sL4 hS rfl rfl ?_ | refine sL5 hS rfl rfl ?_ | refine sL6 hS rfl rfl ?_ | refine sL7 hS rfl rfl ?_)) | (refine oS ?_; ((first | refine sS1 hS rfl rfl rfl ?_ | refine sS2 hS rfl rfl rfl ?_ | refine sS3 hS rfl rfl rfl ?_ | refine sS4 hS rfl rfl rfl ?_ | refine sS5 hS rfl rfl rfl ?_); clear hS; intro w hS)) | (refine oP ?_; ((first | refine sP1 hS rfl rfl rfl ?_ | refine sP2 hS rfl rfl rfl ?_ | refine sP3 hS rfl rfl rfl ?_); clear hS; first | ((fail_if_success guard_hyp L1); intro L1 cl1 w hL1 hM1 hS) | ((fail_if_success guard_hyp L2); intro L2 cl2 w hL2 hM2 hS) | fail)) | ((first | (refine oB ?_; first | refine sB1 hS rfl rfl ?_ | refine sB2 hS rfl rfl ?_) | refine sN1 hS rfl ?_ | (refine oC ?_; first | refine sC0 hS rfl ?_ | refine sC1 hS rfl rfl ?_ | refine sC2 hS rfl rfl ?_ | refine sC3 hS rfl rfl rfl ?_ | refine sC4 hS rfl rfl rfl ?_) | refine sM1 hS rfl rfl rfl ?_); clear hS; first | ((fail_if_success guard_hyp g1); intro g1 w hS) | ((fail_if_success guard_hyp g2); intro g2 w hS) | ((fail_if_success guard_hyp g3); intro g3 w hS) | ((fail_if_success guard_hyp g4); intro g4 w hS) | ((fail_if_success guard_hyp g5); intro g5 w hS) | ((fail_if_success guard_hyp g6); intro g6 w hS) | fail) | fail)
    have HUL := Lib.hid (upL_length p x p.len.length)
    have hcall := indexf_any (S := All) L2 cl2 g2 g4 (upL p x p.len.length) (askB p x) w (hS.ptSlice2) (by rw [HUL.out]; omega) (fun w' hx q k _ => order1_any (S := All) p x q k g2 g4 gh gs (some ⟨g3, 0, none⟩) p.len.length w' HP.out.2 HXL.out (hx.cell (hS.cellB (g := g2) (j := 0) rfl)) (hx.cell (hS.cellB (g := gh) (j := 1) rfl)) ((hS.mapAt (g := gs)).ext (hx.block gs (hS.mapAt (g := gs)).lt)) (hx.cell (hS.cellB (g := g4) (j := 0) rfl)) (RI.ext hS.ri hx))
    rw [HUL.out, HIDX.out] at hcall
    refine hcall.mono ?_
    clear hcall
    rintro e w ⟨rfl, hx1⟩
    replace hS := hS.ext hx1
    cases hn : nextQ p x with
    | none =>
      have HN := Lib.hid hn
      have HE := Lib.hid (all_come HP.out.2 HI.out.2.2.2 hn)
      clear hn
      go_wp2_with (first | (refine oL ?_; (first | refine sL1 hS rfl rfl rfl ?_ | refine sL2 hS rfl rfl rfl ?_ | refine sL3 hS rfl rfl ?_ | refine sL4 hS rfl rfl ?_ | refine sL5 hS rfl rfl ?_ | refine sL6 hS rfl rfl ?_ | refine sL7 hS rfl rfl ?_)) | (refine oS ?_; ((first | refine sS1 hS rfl rfl rfl ?_ | refine sS2 hS rfl rfl rfl ?_ | refine sS3 hS rfl rfl rfl ?_ | refine sS4 hS rfl rfl rfl ?_ | refine sS5 hS rfl rfl rfl ?_); clear hS; intro w hS)) | (refine oP ?_; ((first | refine sP1 hS rfl rfl rfl ?_ | refine sP2 hS rfl rfl rfl ?_ | refine sP3 hS rfl rfl rfl ?_); clear hS; first | ((fail_if_success guard_hyp L1); intro L1 cl1 w hL1 hM1 hS) | ((fail_if_success guard_hyp L2); intro L2 cl2 w hL2 hM2 hS) | fail)) | ((first | (refine oB ?_; first | refine sB1 hS rfl rfl ?_ | refine sB2 hS rfl rfl ?_) | refine sN1 hS rfl ?_ | (refine oC ?_; first | refine sC0 hS rfl ?_ | refine sC1 hS rfl rfl ?_ | refine sC2 hS rfl rfl ?_ | refine sC3 hS rfl rfl rfl ?_ | refine sC4 hS rfl rfl rfl ?_) | refine sM1 hS rfl rfl rfl ?_); clear hS; first | ((fail_if_success guard_hyp g1); intro g1 w hS) | ((fail_if_success guard_hyp g2); intro g2 w hS) | ((fail_if_success guard_hyp g3); intro g3 w hS) | ((fail_if_success guard_hyp g4); intro g4 w hS) | ((fail_if_success guard_hyp g5); intro g5 w hS) | ((fail_if_success guard_hyp g6); intro g6 w hS) | fail) | fail)
      go_ret
      exact ⟨n, l, by rw [← HE.out]; exact HI.out.1, by rw [← HE.out]; exact HN.out, hl, hS.ret rfl⟩
    | some j =>
      obtain ⟨hlt, hc, _⟩ := nextQ_some hn
      have hxb := (valid_iff.1 HI.out.2.2.2).2 j hlt
      have hhi := HP.out.2.hi j hlt
      have hjx : j < x.length := by rw [HXL.out]; exact hlt
      have hcell : (ints x)[j]? = some (.int .i64 (nth x j)) := by rw [ints_get hjx, nth_eq hjx]
      have hcell2 : (ints (x.set j (nth x j + 1)))[j]? = some (.int .i64 (nth x j + 1)) := by simp [ints, hjx]
      have HLK := Lib.hid (lackN_goOn HI.out.2.2.2 hlt hc)
      have HLL := Lib.hid (show (l ++ [(j, nth x j + 1)]).length = l.length + 1 by simp)
      have HFL := Lib.hid (show (l ++ [(j, nth x j + 1)]).flatMap ptCells = l.flatMap ptCells ++ [.int .i64 (j : Int), .int .i64 (nth x j + 1)] by simp [ptCells])
      have HOS := Lib.hid (show ordSt p (n + 1) = (l ++ [(j, nth x j + 1)], goOn x j) by rw [ordSt_some (q := j) (by rw [HI.out.1]; exact hn), HI.out.1])
      have HVV := Lib.hid (show validB p.len (goOn x j) = true by have := ordSt_valid HP.out.2 (n + 1); rw [HOS.out] at this; exact this)
      have hjl' : (j : Int) < p.len.length := by omega
      have HGO := Lib.hid (show goOn x j = x.set j (nth x j + 1) from rfl)
      have d0 : decide ((j : Int) < 0) = false := decide_eq_false (by omega)
      clear hc hn
      generalize hxj : nth x j = xj at *
      go_wp2_with (first | (refine oL ?_; (first | refine sL1 hS rfl rfl rfl ?_ | refine sL2 hS rfl rfl rfl ?_ | refine sL3 hS rfl rfl ?_ | refine sL4 hS rfl rfl ?_ | refine sL5 hS rfl rfl ?_ | refine sL6 hS rfl rfl ?_ | refine sL7 hS rfl rfl ?_)) | (refine oS ?_; ((first | refine sS1 hS rfl rfl rfl ?_ | refine sS2 hS rfl rfl rfl ?_ | refine sS3 hS rfl rfl rfl ?_ | refine sS4 hS rfl rfl rfl ?_ | refine sS5 hS rfl rfl rfl ?_); clear hS; intro w hS)) | (refine oP ?_; ((first | refine sP1 hS rfl rfl rfl ?_ | refine sP2 hS rfl rfl rfl ?_ | refine sP3 hS rfl rfl rfl ?_); clear hS; first | ((fail_if_success guard_hyp L1); intro L1 cl1 w hL1 hM1 hS) | ((fail_if_success guard_hyp L2); intro L2 cl2 w hL2 hM2 hS) | fail)) | ((first | (refine oB ?_; first | refine sB1 hS rfl rfl ?_ | refine sB2 hS rfl rfl ?_) | refine sN1 hS rfl ?_ | (refine oC ?_; first | refine sC0 hS rfl ?_ | refine sC1 hS rfl rfl ?_ | refine sC2 hS rfl rfl ?_ | refine sC3 hS rfl rfl rfl ?_ | refine sC4 hS rfl rfl rfl ?_) | refine sM1 hS rfl rfl rfl ?_); clear hS; first | ((fail_if_success guard_hyp g1); intro g1 w hS) | ((fail_if_success guard_hyp g2); intro g2 w hS) | ((fail_if_success guard_hyp g3); intro g3 w hS) | ((fail_if_success guard_hyp g4); intro g4 w hS) | ((fail_if_success guard_hyp g5); intro g5 w hS) | ((fail_if_success guard_hyp g6); intro g6 w hS) | fail) | fail)
      go_roundg (lackN p.len (goOn x j))
      case measure => have := HI.out.2.2.1; have := HLK.out; omega
      refine ⟨n + 1, l ++ [(j, xj + 1)], goOn x j, L1, cl1, by rw [HLL.out], by rw [HLL.out]; have := HI.out.2; have := HLK.out; omega, Lib.hid ⟨HOS.out, by rw [HLL.out]; have := HI.out.2; have := HLK.out; omega, rfl, HVV.out⟩, ?_⟩
      rw [HLL.out, HFL.out, HGO.out]
      exact hS.re
end Go.Proofs.Ytkflmichekpfbaa
