/- The sanity check of chapter 36. No condition. -/
import Derived.Test.YtombhhhaidmpeaaBases
import Derived.Test.YtombhhhaidmpeaaGf
namespace Go.Proofs.Ytombhhhaidmpeaa
open Go.RowKit
set_option linter.unusedVariables false
set_option linter.unusedSimpArgs false
set_option linter.unusedSectionVars false

def exP36 : Pat := ⟨[4, 4], [[0, 3], [0, 3]], []⟩
theorem ex36_good : Good exP36 := by
  have h0 := Good.none (n := 2) (by omega) (by omega)
  have h1 := h0.more (q := 0) (by simp [Pat.none]) (by simp [Pat.none, nth])
  have h2 := h1.more (q := 0) (by simp [Pat.none, Pat.more]) (by simp [Pat.none, Pat.more, nth])
  have h3 := h2.more (q := 0) (by simp [Pat.none, Pat.more]) (by simp [Pat.none, Pat.more, nth])
  have h4 : Good ⟨[3, 0], [[0, 3], [0]], []⟩ := h3.mark (q := 0) (by simp [Pat.none, Pat.more])
  have h5 := h4.more (q := 0) (by decide) (by decide)
  have h6 := h5.more (q := 1) (by decide) (by decide)
  have h7 := h6.more (q := 1) (by decide) (by decide)
  have h8 := h7.more (q := 1) (by decide) (by decide)
  have h9 : Good ⟨[4, 3], [[0, 3], [0, 3]], []⟩ := h8.mark (q := 1) (by decide)
  exact h9.more (q := 1) (by decide) (by decide)
theorem ex36_line (f : Nat) (y : List Int) (hv : validB exP36.len y = true) (ha : ∀ q, q < 2 → nth y q ∈ rowOf (alF exP36 [f]) q) (hg : ∀ q, q < 2 → ∀ k ∈ rowOf (alF exP36 [f]) q, k ≤ nth y q) : lineOf exP36 [f] = y :=
  (lineOf_eq ex36_good ⟨hv, by rfl, ha, fun z _ _ hz q hq => hg q hq _ (hz q hq)⟩).symm
theorem ex36_need : needL exP36 = [[3], [3]] := by
  have l0 : lineOf exP36 [0] = [3, 4] := ex36_line 0 _ (by decide) (by decide) (by decide)
  have l1 : lineOf exP36 [1] = [4, 3] := ex36_line 1 _ (by decide) (by decide) (by decide)
  have hr : List.range exP36.len.length = [0, 1] := by decide
  have r0 : rowOf exP36.ck 0 = [0, 3] := rfl
  have r1 : rowOf exP36.ck 1 = [0, 3] := rfl
  simp only [needL, needRow, hr, List.map_cons, List.map_nil, r0, r1, List.filter_cons, List.filter_nil, needB, List.any_cons, List.any_nil, l0, l1]
  decide
theorem ex36_ls {T : Nat → Prop} {w : World} {A B C : Option Addr} {c d : Nat} (h2 : RV T w B [.int .i64 0, .int .i64 3]) (h3 : RV T w C [.int .i64 0, .int .i64 3]) (h4 : RV T w A [.slice B 2 c, .slice C 2 d]) (hc : 2 ≤ c ∧ c ≤ 9) (hd : 2 ≤ d ∧ d ≤ 9) : RR T w A [[0, 3], [0, 3]] :=
  ⟨_, h4, [_], [_], rfl, rfl, ⟨B, c, rfl, hc.1, by omega, h2⟩, [_], [], rfl, rfl, ⟨C, d, rfl, hd.1, by omega, h3⟩, rfl⟩
theorem ex36_l3 {w : World} {A B C : Option Addr} {c d : Nat} (h2 : RV All w B [.int .i64 3]) (h3 : RV All w C [.int .i64 3]) (h4 : RV All w A [.slice B 1 c, .slice C 1 d]) (hc : 1 ≤ c ∧ c ≤ 9) (hd : 1 ≤ d ∧ d ≤ 9) : RR All w A [[3], [3]] :=
  ⟨_, h4, [_], [_], rfl, rfl, ⟨B, c, rfl, hc.1, by omega, h2⟩, [_], [], rfl, rfl, ⟨C, d, rfl, hd.1, by omega, h3⟩, rfl⟩
theorem ex36_needed {T : Nat → Prop} {w : World} {A1 A2 : Option Addr} (h1 : RV T w A1 [.int .i64 4, .int .i64 4]) (h2 : RR T w A2 [[0, 3], [0, 3]]) :
    Calls Try.prog 15 #[.agg #[.slice A1 2 2, .slice A2 2 2, .slice none 0 0]] w fun e w' => ∃ A c, e = .returned (.slice A 2 c) ∧ RR (Orn T w) w' A [[3], [3]] ∧ Ext w w' := by
  refine (needed_any (S := T) ⟨A1, 2, A2, 2, none, 0⟩ exP36 w ⟨h1, h2, ⟨[], RV.nil_ _ _ _, rfl⟩, by simp [exP36], by simp, by simp [exP36], by simp, by simp [exP36], by simp⟩ ex36_good).mono ?_
  rintro e w' ⟨A, c, rfl, h3, h4, h5, h6⟩
  rw [ex36_need] at h5 ⊢
  exact ⟨A, c, rfl, h5, h6⟩
theorem ex36_bases {w : World} {A X : Option Addr} (h1 : RR All w A [[0, 3], [0, 3]]) (h2 : RV All w X [.int .i64 2, .int .i64 9]) :
    Calls Try.prog 25 #[.slice A 2 2, .slice X 2 2] w (RetRow w 3 1 2 [.int .i64 0, .int .i64 3]) :=
  (bases_any (T := All) A X 2 2 2 2 [[0, 3], [0, 3]] [2, 9] w h1 h2 rfl rfl (by omega) (by omega) (by decide)).mono (fun e w' h => h)
set_option maxRecDepth 100000 in
set_option maxHeartbeats 6400000 in
theorem awake36_any (w0 : World) : Calls Try.prog 10 #[] w0 fun e w' => e = .returned (.bool true) ∧ Ext w0 w' := by
  have hS := St.start w0 NoM
  go_enter Try.func10, Try.ntmps10
  go_upto_region 2 with (first | (refine oL ?_; (first | refine sL1 hS rfl rfl rfl ?_ | refine sL2 hS rfl rfl rfl ?_ | refine sL3 hS rfl rfl ?_ | refine sL4 hS rfl rfl ?_ | refine sL5 hS rfl rfl ?_ | refine sL6 hS rfl rfl ?_ | refine sL7 hS rfl rfl ?_)) | (refine oS ?_; ((first | refine sS1 hS rfl rfl rfl ?_ | refine sS2 hS rfl rfl rfl ?_ | refine sS3 hS rfl rfl rfl ?_ | refine sS4 hS rfl rfl rfl ?_ | refine sS5 hS rfl rfl rfl ?_); clear hS; intro w hS)) | ((first | refine sN1 hS rfl ?_ | (refine oC ?_; first | refine sC0 hS rfl ?_ | refine sC1 hS rfl rfl ?_ | refine sC2 hS rfl rfl ?_ | refine sC3 hS rfl rfl rfl ?_ | refine sC4 hS rfl rfl rfl ?_)); clear hS; first | ((fail_if_success guard_hyp g1); intro g1 w hS) | ((fail_if_success guard_hyp g2); intro g2 w hS) | ((fail_if_success guard_hyp g3); intro g3 w hS) | ((fail_if_success guard_hyp g4); intro g4 w hS) | ((fail_if_success guard_hyp g5); intro g5 w hS) | ((fail_if_success guard_hyp g6); intro g6 w hS) | ((fail_if_success guard_hyp g7); intro g7 w hS) | ((fail_if_success guard_hyp g8); intro g8 w hS) | ((fail_if_success guard_hyp g9); intro g9 w hS) | ((fail_if_success guard_hyp g10); intro g10 w hS) | ((fail_if_success guard_hyp g11); intro g11 w hS) | ((fail_if_success guard_hyp g12); intro g12 w hS) | ((fail_if_success guard_hyp g13); intro g13 w hS) | ((fail_if_success guard_hyp g14); intro g14 w hS) | fail) | fail)
  have hb1 := hS.all (blk g1 [.int .i64 4, .int .i64 4] 3) (by simp)
  have hb2 := hS.all (blk g2 [.int .i64 0, .int .i64 3] 3) (by simp)
  have hb3 := hS.all (blk g3 [.int .i64 0, .int .i64 3] 3) (by simp)
  have hb4 := hS.all (blk g4 [.slice (some ⟨g2, 0, none⟩) 2 2, .slice (some ⟨g3, 0, none⟩) 2 2] 24) (by simp)
  have hS1 := (hS.re (ds := [blk g1 [.int .i64 4, .int .i64 4] 3, blk g2 [.int .i64 0, .int .i64 3] 3, blk g3 [.int .i64 0, .int .i64 3] 3, blk g4 [.slice (some ⟨g2, 0, none⟩) 2 2, .slice (some ⟨g3, 0, none⟩) 2 2] 24, blk g5 [.slice (some ⟨g1, 0, none⟩) 2 2, .slice (some ⟨g4, 0, none⟩) 2 2, .slice none 0 0] 28])).freezeN 4
  clear hS
  obtain ⟨T, hT⟩ : ∃ T : Nat → Prop, T = fun k => ∃ c ∈ [blk (w0 := w0) (M := NoM) g1 [.int .i64 4, .int .i64 4] 3, blk g2 [.int .i64 0, .int .i64 3] 3, blk g3 [.int .i64 0, .int .i64 3] 3, blk g4 [.slice (some ⟨g2, 0, none⟩) 2 2, .slice (some ⟨g3, 0, none⟩) 2 2] 24], c.own k := ⟨_, rfl⟩
  have hS : St w0 NoM [froz T w, blk g5 [.slice (some ⟨g1, 0, none⟩) 2 2, .slice (some ⟨g4, 0, none⟩) 2 2, .slice none 0 0] 28] w := by rw [hT]; exact hS1
  have h1 : RV T w (some ⟨g1, 0, none⟩) [.int .i64 4, .int .i64 4] := RV.ofBlkT hb1 (by rw [hT]; simp [blk])
  have h2 : RR T w (some ⟨g4, 0, none⟩) [[0, 3], [0, 3]] := ex36_ls (RV.ofBlkT hb2 (by rw [hT]; simp [blk])) (RV.ofBlkT hb3 (by rw [hT]; simp [blk])) (RV.ofBlkT hb4 (by rw [hT]; simp [blk])) (by omega) (by omega)
  have HD := Lib.hid (And.intro h1 h2)
  clear hb1 hb2 hb3 hb4 hS1 hT h1 h2
  refine lR ?_
  (refine ⟨?_⟩; ((first | refine sL1 hS rfl rfl rfl ?_ | refine sL2 hS rfl rfl rfl ?_ | refine sL3 hS rfl rfl ?_ | refine sL4 hS rfl rfl ?_ | refine sL5 hS rfl rfl ?_ | refine sL6 hS rfl rfl ?_ | refine sL7 hS rfl rfl ?_)); refine WL.h ?_)
  (try simp only [Act.put, nA, nB, nC])
  (refine ⟨?_⟩; (refine st_call rfl (by kernel_rfl) rfl ?_; go_at_call 15; refine (ex36_needed (HD.out.1.into hS.frozInto) (HD.out.2.into hS.frozInto)).mono ?_; rintro e w2 ⟨LA, cA, rfl, hrr, hx1⟩; obtain ⟨T2, hS2, hi1, hi0⟩ := hS.grow hx1; have HRR := Lib.hid (hrr.into hi1); clear hi1 hi0 hS hx1 hrr; replace hS := hS2; clear hS2); refine WL.h ?_)
  (try simp only [Act.put, nA, nB, nC])
  (refine ⟨?_⟩; (((first | refine sC0 hS rfl ?_ | refine sC1 hS rfl rfl ?_ | refine sC2 hS rfl rfl ?_ | refine sC3 hS rfl rfl rfl ?_ | refine sC4 hS rfl rfl rfl ?_); clear hS; first | ((fail_if_success guard_hyp g1); intro g1 w hS) | ((fail_if_success guard_hyp g2); intro g2 w hS) | ((fail_if_success guard_hyp g3); intro g3 w hS) | ((fail_if_success guard_hyp g4); intro g4 w hS) | ((fail_if_success guard_hyp g5); intro g5 w hS) | ((fail_if_success guard_hyp g6); intro g6 w hS) | ((fail_if_success guard_hyp g7); intro g7 w hS) | ((fail_if_success guard_hyp g8); intro g8 w hS) | ((fail_if_success guard_hyp g9); intro g9 w hS) | ((fail_if_success guard_hyp g10); intro g10 w hS) | ((fail_if_success guard_hyp g11); intro g11 w hS) | ((fail_if_success guard_hyp g12); intro g12 w hS) | ((fail_if_success guard_hyp g13); intro g13 w hS) | ((fail_if_success guard_hyp g14); intro g14 w hS) | fail)); refine WL.h ?_)
  (try simp only [Act.put, nA, nB, nC])
  (refine ⟨?_⟩; (((first | refine sC0 hS rfl ?_ | refine sC1 hS rfl rfl ?_ | refine sC2 hS rfl rfl ?_ | refine sC3 hS rfl rfl rfl ?_ | refine sC4 hS rfl rfl rfl ?_); clear hS; first | ((fail_if_success guard_hyp g1); intro g1 w hS) | ((fail_if_success guard_hyp g2); intro g2 w hS) | ((fail_if_success guard_hyp g3); intro g3 w hS) | ((fail_if_success guard_hyp g4); intro g4 w hS) | ((fail_if_success guard_hyp g5); intro g5 w hS) | ((fail_if_success guard_hyp g6); intro g6 w hS) | ((fail_if_success guard_hyp g7); intro g7 w hS) | ((fail_if_success guard_hyp g8); intro g8 w hS) | ((fail_if_success guard_hyp g9); intro g9 w hS) | ((fail_if_success guard_hyp g10); intro g10 w hS) | ((fail_if_success guard_hyp g11); intro g11 w hS) | ((fail_if_success guard_hyp g12); intro g12 w hS) | ((fail_if_success guard_hyp g13); intro g13 w hS) | ((fail_if_success guard_hyp g14); intro g14 w hS) | fail)); refine WL.h ?_)
  (try simp only [Act.put, nA, nB, nC])
  (refine ⟨?_⟩; (((first | refine sC0 hS rfl ?_ | refine sC1 hS rfl rfl ?_ | refine sC2 hS rfl rfl ?_ | refine sC3 hS rfl rfl rfl ?_ | refine sC4 hS rfl rfl rfl ?_); clear hS; first | ((fail_if_success guard_hyp g1); intro g1 w hS) | ((fail_if_success guard_hyp g2); intro g2 w hS) | ((fail_if_success guard_hyp g3); intro g3 w hS) | ((fail_if_success guard_hyp g4); intro g4 w hS) | ((fail_if_success guard_hyp g5); intro g5 w hS) | ((fail_if_success guard_hyp g6); intro g6 w hS) | ((fail_if_success guard_hyp g7); intro g7 w hS) | ((fail_if_success guard_hyp g8); intro g8 w hS) | ((fail_if_success guard_hyp g9); intro g9 w hS) | ((fail_if_success guard_hyp g10); intro g10 w hS) | ((fail_if_success guard_hyp g11); intro g11 w hS) | ((fail_if_success guard_hyp g12); intro g12 w hS) | ((fail_if_success guard_hyp g13); intro g13 w hS) | ((fail_if_success guard_hyp g14); intro g14 w hS) | fail)); refine WL.h ?_)
  (try simp only [Act.put, nA, nB, nC])
  (refine ⟨?_⟩; (refine st_call rfl (by kernel_rfl) rfl ?_; go_at_call 14; refine (sameR_n (ls := [[3], [3]]) rfl rfl rfl (HRR.out.into hS.frozInto) (ex36_l3 (hS.blkRV (g := g6)) (hS.blkRV (g := g7)) (hS.blkRV (g := g8)) (by omega) (by omega)) (by decide) (by decide)).mono ?_; rintro e w ⟨rfl, hx1⟩; replace hS := hS.ext hx1); refine WL.h ?_)
  (try simp only [Act.put, nA, nB, nC])
  refine lM rfl rfl ?_
  (try simp only [Act.put, nA, nB, nC])
  first | refine lQ rfl ?_ | (refine ⟨?_⟩; (refine st_call rfl (by kernel_rfl) rfl ?_; go_at_call 17; refine (most36_any _ _).mono ?_; rintro e w ⟨rfl, hx1⟩; replace hS := hS.ext hx1); refine WL.h ?_) | fail
  (try simp only [Act.put, nA, nB, nC])
  first | refine lQ rfl ?_ | refine lP rfl ?_ | fail
  (try simp only [Act.put, nA, nB, nC])
  refine lP rfl ?_
  (try simp only [Act.put, nA, nB, nC])
  refine lM rfl rfl ?_
  (try simp only [Act.put, nA, nB, nC])
  first | refine lQ rfl ?_ | (refine ⟨?_⟩; (((first | refine sC0 hS rfl ?_ | refine sC1 hS rfl rfl ?_ | refine sC2 hS rfl rfl ?_ | refine sC3 hS rfl rfl rfl ?_ | refine sC4 hS rfl rfl rfl ?_); clear hS; first | ((fail_if_success guard_hyp g1); intro g1 w hS) | ((fail_if_success guard_hyp g2); intro g2 w hS) | ((fail_if_success guard_hyp g3); intro g3 w hS) | ((fail_if_success guard_hyp g4); intro g4 w hS) | ((fail_if_success guard_hyp g5); intro g5 w hS) | ((fail_if_success guard_hyp g6); intro g6 w hS) | ((fail_if_success guard_hyp g7); intro g7 w hS) | ((fail_if_success guard_hyp g8); intro g8 w hS) | ((fail_if_success guard_hyp g9); intro g9 w hS) | ((fail_if_success guard_hyp g10); intro g10 w hS) | ((fail_if_success guard_hyp g11); intro g11 w hS) | ((fail_if_success guard_hyp g12); intro g12 w hS) | ((fail_if_success guard_hyp g13); intro g13 w hS) | ((fail_if_success guard_hyp g14); intro g14 w hS) | fail)); refine WL.h ?_) | fail
  (try simp only [Act.put, nA, nB, nC])
  first | refine lQ rfl ?_ | (refine ⟨?_⟩; (((first | refine sC0 hS rfl ?_ | refine sC1 hS rfl rfl ?_ | refine sC2 hS rfl rfl ?_ | refine sC3 hS rfl rfl rfl ?_ | refine sC4 hS rfl rfl rfl ?_); clear hS; first | ((fail_if_success guard_hyp g1); intro g1 w hS) | ((fail_if_success guard_hyp g2); intro g2 w hS) | ((fail_if_success guard_hyp g3); intro g3 w hS) | ((fail_if_success guard_hyp g4); intro g4 w hS) | ((fail_if_success guard_hyp g5); intro g5 w hS) | ((fail_if_success guard_hyp g6); intro g6 w hS) | ((fail_if_success guard_hyp g7); intro g7 w hS) | ((fail_if_success guard_hyp g8); intro g8 w hS) | ((fail_if_success guard_hyp g9); intro g9 w hS) | ((fail_if_success guard_hyp g10); intro g10 w hS) | ((fail_if_success guard_hyp g11); intro g11 w hS) | ((fail_if_success guard_hyp g12); intro g12 w hS) | ((fail_if_success guard_hyp g13); intro g13 w hS) | ((fail_if_success guard_hyp g14); intro g14 w hS) | fail)); refine WL.h ?_) | fail
  (try simp only [Act.put, nA, nB, nC])
  first | refine lQ rfl ?_ | (refine ⟨?_⟩; (((first | refine sC0 hS rfl ?_ | refine sC1 hS rfl rfl ?_ | refine sC2 hS rfl rfl ?_ | refine sC3 hS rfl rfl rfl ?_ | refine sC4 hS rfl rfl rfl ?_); clear hS; first | ((fail_if_success guard_hyp g1); intro g1 w hS) | ((fail_if_success guard_hyp g2); intro g2 w hS) | ((fail_if_success guard_hyp g3); intro g3 w hS) | ((fail_if_success guard_hyp g4); intro g4 w hS) | ((fail_if_success guard_hyp g5); intro g5 w hS) | ((fail_if_success guard_hyp g6); intro g6 w hS) | ((fail_if_success guard_hyp g7); intro g7 w hS) | ((fail_if_success guard_hyp g8); intro g8 w hS) | ((fail_if_success guard_hyp g9); intro g9 w hS) | ((fail_if_success guard_hyp g10); intro g10 w hS) | ((fail_if_success guard_hyp g11); intro g11 w hS) | ((fail_if_success guard_hyp g12); intro g12 w hS) | ((fail_if_success guard_hyp g13); intro g13 w hS) | ((fail_if_success guard_hyp g14); intro g14 w hS) | fail)); refine WL.h ?_) | fail
  (try simp only [Act.put, nA, nB, nC])
  first | refine lQ rfl ?_ | (refine ⟨?_⟩; (((first | refine sC0 hS rfl ?_ | refine sC1 hS rfl rfl ?_ | refine sC2 hS rfl rfl ?_ | refine sC3 hS rfl rfl rfl ?_ | refine sC4 hS rfl rfl rfl ?_); clear hS; first | ((fail_if_success guard_hyp g1); intro g1 w hS) | ((fail_if_success guard_hyp g2); intro g2 w hS) | ((fail_if_success guard_hyp g3); intro g3 w hS) | ((fail_if_success guard_hyp g4); intro g4 w hS) | ((fail_if_success guard_hyp g5); intro g5 w hS) | ((fail_if_success guard_hyp g6); intro g6 w hS) | ((fail_if_success guard_hyp g7); intro g7 w hS) | ((fail_if_success guard_hyp g8); intro g8 w hS) | ((fail_if_success guard_hyp g9); intro g9 w hS) | ((fail_if_success guard_hyp g10); intro g10 w hS) | ((fail_if_success guard_hyp g11); intro g11 w hS) | ((fail_if_success guard_hyp g12); intro g12 w hS) | ((fail_if_success guard_hyp g13); intro g13 w hS) | ((fail_if_success guard_hyp g14); intro g14 w hS) | fail)); refine WL.h ?_) | fail
  (try simp only [Act.put, nA, nB, nC])
  first | refine lQ rfl ?_ | (refine ⟨?_⟩; (refine st_call rfl (by kernel_rfl) rfl ?_; go_at_call 25; refine (ex36_bases (ex36_ls (hS.blkRV (g := g9)) (hS.blkRV (g := g10)) (hS.blkRV (g := g11)) (by omega) (by omega)) (hS.blkRV (g := g12))).mono ?_; rintro e w ⟨LB, cB, rfl, ho, hx1⟩; replace hS := hS.addRow ho hx1); refine WL.h ?_) | fail
  (try simp only [Act.put, nA, nB, nC])
  first | refine lQ rfl ?_ | (refine ⟨?_⟩; (((first | refine sC0 hS rfl ?_ | refine sC1 hS rfl rfl ?_ | refine sC2 hS rfl rfl ?_ | refine sC3 hS rfl rfl rfl ?_ | refine sC4 hS rfl rfl rfl ?_); clear hS; first | ((fail_if_success guard_hyp g1); intro g1 w hS) | ((fail_if_success guard_hyp g2); intro g2 w hS) | ((fail_if_success guard_hyp g3); intro g3 w hS) | ((fail_if_success guard_hyp g4); intro g4 w hS) | ((fail_if_success guard_hyp g5); intro g5 w hS) | ((fail_if_success guard_hyp g6); intro g6 w hS) | ((fail_if_success guard_hyp g7); intro g7 w hS) | ((fail_if_success guard_hyp g8); intro g8 w hS) | ((fail_if_success guard_hyp g9); intro g9 w hS) | ((fail_if_success guard_hyp g10); intro g10 w hS) | ((fail_if_success guard_hyp g11); intro g11 w hS) | ((fail_if_success guard_hyp g12); intro g12 w hS) | ((fail_if_success guard_hyp g13); intro g13 w hS) | ((fail_if_success guard_hyp g14); intro g14 w hS) | fail)); refine WL.h ?_) | fail
  (try simp only [Act.put, nA, nB, nC])
  first | refine lQ rfl ?_ | (refine ⟨?_⟩; (refine st_call rfl (by kernel_rfl) rfl ?_; go_at_call 24; refine (sameI_m (xs := [0, 3]) rfl rfl rfl (hS.rv (A := LB)) (hS.blkRV (g := g13)) (by decide)).mono ?_; rintro e w ⟨rfl, hx1⟩; replace hS := hS.ext hx1); refine WL.h ?_) | fail
  (try simp only [Act.put, nA, nB, nC])
  refine lP rfl ?_
  (try simp only [Act.put, nA, nB, nC])
  refine lA rfl rfl ?_
  (try simp only [Act.put, nA, nB, nC])
  refine lZ ?_
  go_wp2_with (first | (refine oL ?_; (first | refine sL1 hS rfl rfl rfl ?_ | refine sL2 hS rfl rfl rfl ?_ | refine sL3 hS rfl rfl ?_ | refine sL4 hS rfl rfl ?_ | refine sL5 hS rfl rfl ?_ | refine sL6 hS rfl rfl ?_ | refine sL7 hS rfl rfl ?_)) | (refine oS ?_; ((first | refine sS1 hS rfl rfl rfl ?_ | refine sS2 hS rfl rfl rfl ?_ | refine sS3 hS rfl rfl rfl ?_ | refine sS4 hS rfl rfl rfl ?_ | refine sS5 hS rfl rfl rfl ?_); clear hS; intro w hS)) | ((first | refine sN1 hS rfl ?_ | (refine oC ?_; first | refine sC0 hS rfl ?_ | refine sC1 hS rfl rfl ?_ | refine sC2 hS rfl rfl ?_ | refine sC3 hS rfl rfl rfl ?_ | refine sC4 hS rfl rfl rfl ?_)); clear hS; first | ((fail_if_success guard_hyp g1); intro g1 w hS) | ((fail_if_success guard_hyp g2); intro g2 w hS) | ((fail_if_success guard_hyp g3); intro g3 w hS) | ((fail_if_success guard_hyp g4); intro g4 w hS) | ((fail_if_success guard_hyp g5); intro g5 w hS) | ((fail_if_success guard_hyp g6); intro g6 w hS) | ((fail_if_success guard_hyp g7); intro g7 w hS) | ((fail_if_success guard_hyp g8); intro g8 w hS) | ((fail_if_success guard_hyp g9); intro g9 w hS) | ((fail_if_success guard_hyp g10); intro g10 w hS) | ((fail_if_success guard_hyp g11); intro g11 w hS) | ((fail_if_success guard_hyp g12); intro g12 w hS) | ((fail_if_success guard_hyp g13); intro g13 w hS) | ((fail_if_success guard_hyp g14); intro g14 w hS) | fail) | fail)
  go_ret
  exact ⟨rfl, hS.toExt⟩
end Go.Proofs.Ytombhhhaidmpeaa
