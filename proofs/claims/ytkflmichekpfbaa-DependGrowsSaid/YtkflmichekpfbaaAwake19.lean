/- The sanity check of chapter 19. No condition. -/
import Derived.Test.YtkflmichekpfbaaDepD
import Derived.Test.YtkflmichekpfbaaExPat
namespace Go.Proofs.Ytkflmichekpfbaa
open Go.RowKit
set_option linter.unusedVariables false
set_option linter.unusedSimpArgs false

abbrev ex19 : Pat := onePat 2 1 [0, 1] [0] 2 1
theorem ex19_good : Good ex19 := onePat_good (by decide) (by decide) (by decide) (by decide) ⟨⟨[1], rfl⟩, by simp, by simp⟩ ⟨⟨[], rfl⟩, by simp, by simp⟩ (by decide) (by decide) (by decide) (by decide)
theorem ex19_clk {c : List Int} (h : IsClk ex19 1 1 c) : vecN ex19 c = [2, 1] := by
  rw [h.unique (onePat_clk ex19_good (by decide) (by decide) (by decide) (by decide) (by decide))]
  rfl
theorem reps_one19 {w : World} : Reps (repArc w) 4 [.int .i64 0, .int .i64 2, .int .i64 1, .int .i64 1] ex19.arcs := ⟨[_, _, _, _], [], rfl, rfl, rfl, rfl⟩
set_option maxRecDepth 100000 in
set_option maxHeartbeats 3200000 in
theorem example19_any (w0 : World) : Calls Try.prog 69 #[] w0 (RetP (fun _ => False) w0 ex19) := by
  have hS := St.start w0 NoM
  go_enter Try.func69, Try.ntmps69
  go_wp2_with (first | (refine oS ?_; ((first | refine sS1 hS rfl rfl rfl ?_ | refine sS2 hS rfl rfl rfl ?_ | refine sS3 hS rfl rfl rfl ?_ | refine sS4 hS rfl rfl rfl ?_ | refine sS5 hS rfl rfl rfl ?_); clear hS; intro w hS)) | ((first | refine sN1 hS rfl ?_ | (refine oC ?_; first | refine sC0 hS rfl ?_ | refine sC1 hS rfl rfl ?_ | refine sC2 hS rfl rfl ?_ | refine sC3 hS rfl rfl rfl ?_ | refine sC4 hS rfl rfl rfl ?_)); clear hS; first | ((fail_if_success guard_hyp g1); intro g1 w hS) | ((fail_if_success guard_hyp g2); intro g2 w hS) | ((fail_if_success guard_hyp g3); intro g3 w hS) | ((fail_if_success guard_hyp g4); intro g4 w hS) | ((fail_if_success guard_hyp g5); intro g5 w hS) | ((fail_if_success guard_hyp g6); intro g6 w hS) | ((fail_if_success guard_hyp g7); intro g7 w hS) | fail) | fail)
  have hb1 := hS.all (blk g2 [.int .i64 2, .int .i64 1] 3) (by simp)
  have hb2 := hS.all (blk g3 [.int .i64 0, .int .i64 1] 3) (by simp)
  have hb3 := hS.all (blk g4 [.int .i64 0] 3) (by simp)
  have hb4 := hS.all (blk g5 [.slice (some ⟨g3, 0, none⟩) 2 2, .slice (some ⟨g4, 0, none⟩) 1 1] 24) (by simp)
  have hb5 := hS.all (blk g6 [.int .i64 0, .int .i64 2, .int .i64 1, .int .i64 1] 57) (by simp)
  have hn1 := hS.new (blk g2 [.int .i64 2, .int .i64 1] 3) (by simp) g2 rfl
  have hn2 := hS.new (blk g3 [.int .i64 0, .int .i64 1] 3) (by simp) g3 rfl
  have hn3 := hS.new (blk g4 [.int .i64 0] 3) (by simp) g4 rfl
  have hn4 := hS.new (blk g5 [.slice (some ⟨g3, 0, none⟩) 2 2, .slice (some ⟨g4, 0, none⟩) 1 1] 24) (by simp) g5 rfl
  have hn5 := hS.new (blk g6 [.int .i64 0, .int .i64 2, .int .i64 1, .int .i64 1] 57) (by simp) g6 rfl
  refine st_retC hS rfl rfl rfl rfl ?_
  refine ⟨⟨some ⟨g2, 0, none⟩, 2, some ⟨g5, 0, none⟩, 2, some ⟨g6, 0, none⟩, 1⟩, rfl, ?_, hS.toExt⟩
  refine ⟨RV.ofBlkT (us := [.int .i64 2, .int .i64 1]) hb1 (.inr (hn1.resolve_right id)), ⟨_, RV.ofBlkT (us := [_, _]) hb4 (.inr (hn4.resolve_right id)), ?_⟩, ⟨_, RV.ofBlkT hb5 (.inr (hn5.resolve_right id)), reps_one19⟩, by simp [onePat], by simp, by simp [onePat], by simp, by simp [onePat], by simp⟩
  exact ⟨[_], [_], rfl, rfl, ⟨some ⟨g3, 0, none⟩, 2, rfl, by decide, by decide, RV.ofBlkT (us := [.int .i64 0, .int .i64 1]) hb2 (.inr (hn2.resolve_right id))⟩, [_], [], rfl, rfl, ⟨some ⟨g4, 0, none⟩, 1, rfl, by decide, by decide, RV.ofBlkT (us := [.int .i64 0]) hb3 (.inr (hn3.resolve_right id))⟩, rfl⟩
set_option maxRecDepth 100000 in
set_option maxHeartbeats 3200000 in
theorem awake19_any (w0 : World) : Calls Try.prog 31 #[] w0 fun e w' => e = .returned (.bool true) ∧ Ext w0 w' := by
  have hS := St.start w0 NoM
  go_enter Try.func31, Try.ntmps31
  go_wp2_with (first | (go_at_call 69; refine (example19_any _).mono ?_; rintro e w ⟨v, rfl, hp, hx1⟩; replace hS := hS.ext hx1; have HPv := Lib.hid hp; clear hp) | (go_at_call 34; refine (vector_any v ex19 1 1 _ HPv.out ex19_good ⟨by decide, by decide, by decide⟩).mono ?_; rintro e w ⟨c, hc, L, cl, rfl, ho, hx1⟩; rw [ex19_clk hc] at ho; replace hS := hS.addRow ho hx1; obtain ⟨g, rfl⟩ := hS.rowSome L (by decide); clear hc ho; have hl0 : (ints [2, 1])[0]? = some (.int .i64 2) := rfl; have hl1 : (ints [2, 1])[1]? = some (.int .i64 1) := rfl; simp only [show ex19.len.length = 2 from rfl] at hS ⊢) | (go_at_call 46; refine (depends_any v ex19 1 0 1 1 _ HPv.out ex19_good ⟨by decide, by decide, by decide⟩ ⟨by decide, by decide, by decide⟩).mono ?_; rintro e w ⟨c, hc, rfl, hx1⟩; rw [ex19_clk (c := c) hc]; replace hS := hS.ext hx1) | (refine oL ?_; (first | refine sL1 hS rfl rfl rfl ?_ | refine sL2 hS rfl rfl rfl ?_ | refine sL3 hS rfl rfl ?_ | refine sL4 hS rfl rfl ?_ | refine sL5 hS rfl rfl ?_ | refine sL6 hS rfl rfl ?_ | refine sL7 hS rfl rfl ?_)) | fail)
  go_ret
  exact ⟨rfl, hS.toExt⟩
end Go.Proofs.Ytkflmichekpfbaa
