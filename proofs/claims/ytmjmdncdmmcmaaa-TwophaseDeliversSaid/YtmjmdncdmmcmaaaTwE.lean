/- The sanity check of chapter 24. No condition. -/
import Derived.Test.YtmjmdncdmmcmaaaTwD
import Derived.Test.YtmjmdncdmmcmaaaGf
namespace Go.Proofs.Ytmjmdncdmmcmaaa
open Go.RowKit
set_option linter.unusedVariables false
set_option linter.unusedSimpArgs false
set_option linter.unusedSectionVars false

abbrev ex24 : Pat := onePat 1 1 [0] [0] 1 1
theorem ex24_good : Good ex24 := onePat_good (by decide) (by decide) (by decide) (by decide) ⟨⟨[], rfl⟩, by simp, by simp⟩ ⟨⟨[], rfl⟩, by simp, by simp⟩ (by decide) (by decide) (by decide) (by decide)
theorem ex24_src0 : srcL ex24 0 = [] := by decide
theorem ex24_src1 : srcL ex24 1 = [0] := by decide
theorem ex24_und0 : undL ex24 0 = [1] := by decide
theorem ex24_und1 : undL ex24 1 = [] := by decide
theorem ex24_l1 {m : List Nat} (h : IsRch (srcL ex24) 1 m) : m = [0, 1] := by
  refine nat_asc_uniq h.asc (by decide) (fun x => (h.mem x).trans ⟨fun hr => ?_, fun hx => ?_⟩)
  · refine hr.closed (P := fun z => z ∈ [0, 1]) (by decide) (fun z hz y hy => ?_)
    simp only [List.mem_cons, List.not_mem_nil, or_false] at hz
    rcases hz with rfl | rfl
    · rw [ex24_src0] at hy; cases hy
    · rw [ex24_src1] at hy; simp at hy; simp [hy]
  · simp only [List.mem_cons, List.not_mem_nil, or_false] at hx
    rcases hx with rfl | rfl
    · exact Rch.step .here (by rw [ex24_src1]; simp)
    · exact .here
theorem ex24_l0 {m : List Nat} (h : IsRch (srcL ex24) 0 m) : m = [0] := by
  refine nat_asc_uniq h.asc (by decide) (fun x => (h.mem x).trans ⟨fun hr => ?_, fun hx => ?_⟩)
  · refine hr.closed (P := fun z => z ∈ [0]) (by decide) (fun z hz y hy => ?_)
    simp only [List.mem_cons, List.not_mem_nil, or_false] at hz
    subst hz
    rw [ex24_src0] at hy; cases hy
  · simp only [List.mem_cons, List.not_mem_nil, or_false] at hx
    subst hx; exact .here
theorem ex24_u0 {m : List Nat} (h : IsRch (undL ex24) 0 m) : m = [0, 1] := by
  refine nat_asc_uniq h.asc (by decide) (fun x => (h.mem x).trans ⟨fun hr => ?_, fun hx => ?_⟩)
  · refine hr.closed (P := fun z => z ∈ [0, 1]) (by decide) (fun z hz y hy => ?_)
    simp only [List.mem_cons, List.not_mem_nil, or_false] at hz
    rcases hz with rfl | rfl
    · rw [ex24_und0] at hy; simp at hy; simp [hy]
    · rw [ex24_und1] at hy; cases hy
  · simp only [List.mem_cons, List.not_mem_nil, or_false] at hx
    rcases hx with rfl | rfl
    · exact .here
    · exact Rch.step .here (by rw [ex24_und0]; simp)
theorem reps_one24 {w : World} : Reps (repArc w) 4 [.int .i64 0, .int .i64 1, .int .i64 1, .int .i64 1] ex24.arcs := ⟨[_, _, _, _], [], rfl, rfl, rfl, rfl⟩
theorem ex24_at {T : Nat → Prop} {w : World} {A1 A2 A3 B C : Option Addr} (h1 : RV T w A1 [.int .i64 1, .int .i64 1]) (h2 : RV T w B [.int .i64 0]) (h3 : RV T w C [.int .i64 0]) (h4 : RV T w A2 [.slice B 1 1, .slice C 1 1]) (h5 : RV T w A3 [.int .i64 0, .int .i64 1, .int .i64 1, .int .i64 1]) : PatAt T w ⟨A1, 2, A2, 2, A3, 1⟩ ex24 :=
  ⟨h1, ⟨_, h4, [_], [_], rfl, rfl, ⟨B, 1, rfl, by decide, by decide, h2⟩, [_], [], rfl, rfl, ⟨C, 1, rfl, by decide, by decide, h3⟩, rfl⟩, ⟨_, h5, reps_one24⟩, by simp [onePat], by simp, by simp [onePat], by simp, by simp [onePat], by simp⟩
section
variable {S : Nat → Prop} {w : World} {A1 A2 A3 : Option Addr}
theorem ex24_least1 (hp : PatAt S w ⟨A1, 2, A2, 2, A3, 1⟩ ex24) : Calls Try.prog 23 #[.agg #[.slice A1 2 2, .slice A2 2 2, .slice A3 1 1], .int .i64 1] w (RetRow w 3 1 2 (ints [0, 1])) := by
  refine (least_any ⟨A1, 2, A2, 2, A3, 1⟩ ex24 1 w hp ex24_good (by decide)).mono ?_
  rintro e w' ⟨m, hm, hr⟩
  have := ex24_l1 hm
  subst this
  exact hr
theorem ex24_least0 (hp : PatAt S w ⟨A1, 2, A2, 2, A3, 1⟩ ex24) : Calls Try.prog 23 #[.agg #[.slice A1 2 2, .slice A2 2 2, .slice A3 1 1], .int .i64 0] w (RetRow w 3 1 1 (ints [0])) := by
  refine (least_any ⟨A1, 2, A2, 2, A3, 1⟩ ex24 0 w hp ex24_good (by decide)).mono ?_
  rintro e w' ⟨m, hm, hr⟩
  have := ex24_l0 hm
  subst this
  exact hr
theorem ex24_undo0 (hp : PatAt S w ⟨A1, 2, A2, 2, A3, 1⟩ ex24) : Calls Try.prog 26 #[.agg #[.slice A1 2 2, .slice A2 2 2, .slice A3 1 1], .int .i64 0] w (RetRow w 3 1 2 (ints [0, 1])) := by
  refine (undo_any ⟨A1, 2, A2, 2, A3, 1⟩ ex24 0 w hp ex24_good (by decide)).mono ?_
  rintro e w' ⟨m, hm, hr⟩
  have := ex24_u0 hm
  subst this
  exact hr
end
set_option maxRecDepth 100000 in
set_option maxHeartbeats 6400000 in
theorem awake24_any (w0 : World) : Calls Try.prog 21 #[] w0 fun e w' => e = .returned (.bool true) ∧ Ext w0 w' := by
  have hS := St.start w0 NoM
  go_enter Try.func21, Try.ntmps21
  go_upto_region 2 with (first | (refine oS ?_; (((refine sS4 hS rfl rfl rfl ?_)); clear hS; intro w hS)) | ((first | refine sN1 hS rfl ?_ | (refine oC ?_; first | refine sC1 hS rfl rfl ?_ | refine sC2 hS rfl rfl ?_ | refine sC3 hS rfl rfl rfl ?_)); clear hS; first | ((fail_if_success guard_hyp g1); intro g1 w hS) | ((fail_if_success guard_hyp g2); intro g2 w hS) | ((fail_if_success guard_hyp g3); intro g3 w hS) | ((fail_if_success guard_hyp g4); intro g4 w hS) | ((fail_if_success guard_hyp g5); intro g5 w hS) | ((fail_if_success guard_hyp g6); intro g6 w hS)))
  have hb1 := hS.all (blk g1 [.int .i64 1, .int .i64 1] 3) (by simp)
  have hb2 := hS.all (blk g2 [.int .i64 0] 3) (by simp)
  have hb3 := hS.all (blk g3 [.int .i64 0] 3) (by simp)
  have hb4 := hS.all (blk g4 [.slice (some ⟨g2, 0, none⟩) 1 1, .slice (some ⟨g3, 0, none⟩) 1 1] 25) (by simp)
  have hb5 := hS.all (blk g5 [.int .i64 0, .int .i64 1, .int .i64 1, .int .i64 1] 84) (by simp)
  have hS1 := (hS.re (ds := [blk g1 [.int .i64 1, .int .i64 1] 3, blk g2 [.int .i64 0] 3, blk g3 [.int .i64 0] 3, blk g4 [.slice (some ⟨g2, 0, none⟩) 1 1, .slice (some ⟨g3, 0, none⟩) 1 1] 25, blk g5 [.int .i64 0, .int .i64 1, .int .i64 1, .int .i64 1] 84, blk g6 [.slice (some ⟨g1, 0, none⟩) 2 2, .slice (some ⟨g4, 0, none⟩) 2 2, .slice (some ⟨g5, 0, none⟩) 1 1] 44])).freezeN 5
  clear hS
  obtain ⟨T, hT⟩ : ∃ T : Nat → Prop, T = fun k => ∃ c ∈ [blk (w0 := w0) (M := NoM) g1 [.int .i64 1, .int .i64 1] 3, blk g2 [.int .i64 0] 3, blk g3 [.int .i64 0] 3, blk g4 [.slice (some ⟨g2, 0, none⟩) 1 1, .slice (some ⟨g3, 0, none⟩) 1 1] 25, blk g5 [.int .i64 0, .int .i64 1, .int .i64 1, .int .i64 1] 84], c.own k := ⟨_, rfl⟩
  have hS : St w0 NoM [froz T w, blk g6 [.slice (some ⟨g1, 0, none⟩) 2 2, .slice (some ⟨g4, 0, none⟩) 2 2, .slice (some ⟨g5, 0, none⟩) 1 1] 44] w := by rw [hT]; exact hS1
  have HP := Lib.hid (ex24_at (T := T) (w := w) (RV.ofBlkT hb1 (by rw [hT]; simp [blk])) (RV.ofBlkT hb2 (by rw [hT]; simp [blk])) (RV.ofBlkT hb3 (by rw [hT]; simp [blk])) (RV.ofBlkT hb4 (by rw [hT]; simp [blk])) (RV.ofBlkT hb5 (by rw [hT]; simp [blk])))
  clear hb1 hb2 hb3 hb4 hb5 hS1 hT
  generalize hu : w = u at *
  refine lR ?_
  (refine ⟨?_⟩; (((refine sL2 hS rfl rfl rfl ?_))); refine WL.h ?_)
  (try simp only [Act.put, nA, nB, nC])
  (refine ⟨?_⟩; (refine st_call rfl (by kernel_rfl) rfl ?_; go_at_call 23; refine (ex24_least1 (HP.out.into hS.frozInto)).mono ?_; rintro e w ⟨L1, k1, rfl, ho, hx1⟩; replace hS := hS.addRow ho hx1; clear ho hx1); refine WL.h ?_)
  (try simp only [Act.put, nA, nB, nC])
  (refine ⟨?_⟩; ((((refine sC3 hS rfl rfl rfl ?_)); clear hS; (((fail_if_success guard_hyp g7); intro g7 w hS)))); refine WL.h ?_)
  (try simp only [Act.put, nA, nB, nC])
  (refine ⟨?_⟩; (refine st_call rfl (by kernel_rfl) rfl ?_; go_at_call 31; refine (sameI_m (xs := [0, 1]) rfl rfl rfl hS.ri (hS.blkRV (g := g7)) (by decide)).mono ?_; rintro e w ⟨rfl, hx1⟩; replace hS := hS.ext hx1; clear hx1); refine WL.h ?_)
  (try simp only [Act.put, nA, nB, nC])
  refine lM rfl rfl ?_
  (try simp only [Act.put, nA, nB, nC])
  ((refine ⟨?_⟩; (((refine sL2 hS rfl rfl rfl ?_))); refine WL.h ?_))
  (try simp only [Act.put, nA, nB, nC])
  ((refine ⟨?_⟩; (refine st_call rfl (by kernel_rfl) rfl ?_; go_at_call 23; refine (ex24_least0 (HP.out.into hS.frozInto)).mono ?_; rintro e w ⟨L2, k2, rfl, ho, hx1⟩; replace hS := hS.addRow ho hx1; clear ho hx1); refine WL.h ?_))
  (try simp only [Act.put, nA, nB, nC])
  ((refine ⟨?_⟩; ((((refine sC1 hS rfl rfl ?_)); clear hS; (((fail_if_success guard_hyp g8); intro g8 w hS)))); refine WL.h ?_))
  (try simp only [Act.put, nA, nB, nC])
  ((refine ⟨?_⟩; (refine st_call rfl (by kernel_rfl) rfl ?_; go_at_call 31; refine (sameI_m (xs := [0]) rfl rfl rfl hS.ri (hS.blkRV (g := g8)) (by decide)).mono ?_; rintro e w ⟨rfl, hx1⟩; replace hS := hS.ext hx1; clear hx1); refine WL.h ?_))
  (try simp only [Act.put, nA, nB, nC])
  refine lP rfl ?_
  (try simp only [Act.put, nA, nB, nC])
  refine lM rfl rfl ?_
  (try simp only [Act.put, nA, nB, nC])
  ((refine ⟨?_⟩; (((refine sL2 hS rfl rfl rfl ?_))); refine WL.h ?_))
  (try simp only [Act.put, nA, nB, nC])
  ((refine ⟨?_⟩; (refine st_call rfl (by kernel_rfl) rfl ?_; go_at_call 26; refine (ex24_undo0 (HP.out.into hS.frozInto)).mono ?_; rintro e w ⟨L3, k3, rfl, ho, hx1⟩; replace hS := hS.addRow ho hx1; clear ho hx1); refine WL.h ?_))
  (try simp only [Act.put, nA, nB, nC])
  ((refine ⟨?_⟩; ((((refine sC3 hS rfl rfl rfl ?_)); clear hS; (((fail_if_success guard_hyp g9); intro g9 w hS)))); refine WL.h ?_))
  (try simp only [Act.put, nA, nB, nC])
  ((refine ⟨?_⟩; (refine st_call rfl (by kernel_rfl) rfl ?_; go_at_call 31; refine (sameI_m (xs := [0, 1]) rfl rfl rfl hS.ri (hS.blkRV (g := g9)) (by decide)).mono ?_; rintro e w ⟨rfl, hx1⟩; replace hS := hS.ext hx1; clear hx1); refine WL.h ?_))
  (try simp only [Act.put, nA, nB, nC])
  refine lP rfl ?_
  (try simp only [Act.put, nA, nB, nC])
  refine lA rfl rfl ?_
  (try simp only [Act.put, nA, nB, nC])
  refine lZ ?_
  go_wp2_with (fail)
  go_ret
  exact ⟨rfl, hS.toExt⟩
end Go.Proofs.Ytmjmdncdmmcmaaa
