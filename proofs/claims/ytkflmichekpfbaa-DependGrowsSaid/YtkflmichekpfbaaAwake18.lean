/- The sanity check of chapter 18. No condition. -/
import Derived.Test.YtkflmichekpfbaaCutE
import Derived.Test.YtkflmichekpfbaaArms
namespace Go.Proofs.Ytkflmichekpfbaa
open Go.RowKit
set_option linter.unusedVariables false
set_option linter.unusedSimpArgs false

/-- the first n pieces become data -/
theorem St.freezeN {w0 w : World} {M : Nat → Prop} {cs : List (Chunk w0 M)} (n : Nat) (h : St w0 M cs w) : St w0 M (froz (fun k => ∃ c ∈ cs.take n, c.own k) w :: cs.drop n) w := by
  have hcs : cs = cs.take n ++ cs.drop n := (List.take_append_drop n cs).symm
  have hap := h.apart
  rw [hcs, List.pairwise_append] at hap
  refine ⟨h.keep, ?_, ?_, List.pairwise_cons.2 ⟨?_, hap.2.1⟩⟩
  · intro c hc
    rcases List.mem_cons.1 hc with rfl | hc
    · rintro k ⟨c, hc, hk⟩
      exact ⟨c.lt (h.all c (List.mem_of_mem_take hc)) hk, rfl⟩
    · exact h.all c (List.mem_of_mem_drop hc)
  · intro c hc k hk
    rcases List.mem_cons.1 hc with rfl | hc
    · obtain ⟨c, hc, hk⟩ := hk
      exact h.new c (List.mem_of_mem_take hc) k hk
    · exact h.new c (List.mem_of_mem_drop hc) k hk
  · rintro d hd k ⟨c, hc, hk⟩
    exact hap.2.2 c hc d hd k hk

/-- the example of chapter 18 -/
def exPat : Pat := ⟨[2, 1], [[0], [0]], [⟨0, 2, 1, 1⟩]⟩
theorem exPat_good : Good exPat := by
  have h0 := Good.none (n := 2) (by omega) (by omega)
  have h1 := h0.more (q := 0) (by simp [Pat.none]) (by simp [Pat.none, nth])
  have h2 := h1.more (q := 0) (by simp [Pat.none, Pat.more]) (by simp [Pat.none, Pat.more, nth])
  have h3 := h2.recv (s := 0) (q := 1) (k := 2) (by simp [Pat.none, Pat.more]) (by simp [Pat.none, Pat.more]) (by omega) (by omega) (by simp [Pat.none, Pat.more, nth]) (by simp [Pat.none, Pat.more, nth]) (by simp [Pat.none, Pat.more])
  exact h3
theorem ex_low : Fin lowStep exPat.arcs [1, 1] [1, 0] := ⟨⟨1, by decide⟩, by decide⟩
theorem ex_rai : Fin raiStep exPat.arcs [1, 1] [2, 1] := ⟨⟨1, by decide⟩, by decide⟩
theorem RV.ofBlkT {T : Nat → Prop} {w : World} {t : TypeId} {g : Nat} {us : List Value} (h : w.heap[g]? = some (.cells us.toArray t (0, 0))) (ht : T g) : RV T w (some ⟨g, 0, none⟩) us := fun j u hu => ⟨g, 0, rfl, ht, by rw [Nat.zero_add]; exact cell_of_heap h (by simpa using hu)⟩

theorem St.blkRV {w0 w : World} {M : Nat → Prop} {cs : List (Chunk w0 M)} {f : Chunk w0 M → List (Chunk w0 M)} {g : Nat} {vs : List Value} {t : TypeId} (h : St w0 M cs w) [hp : PickB g cs vs t f] : RV All w (some ⟨g, 0, none⟩) vs := RV.ofBlk ((hp.eq ▸ h : St w0 M (f (blk g vs t)) w).at_ hp.gap : w.heap[g]? = _)
section
variable {S T : Nat → Prop} {w : World} {A1 A2 A3 X : Option Addr} {c1 c2 c3 c : Nat}
theorem ex_lower (hp : PatAt S w ⟨A1, c1, A2, c2, A3, c3⟩ exPat) (hx : RV T w X [.int .i64 1, .int .i64 1]) : Calls Try.prog 81 #[.agg #[.slice A1 2 c1, .slice A2 2 c2, .slice A3 1 c3], .slice X 2 c] w (RetRow w 3 1 2 [.int .i64 1, .int .i64 0]) := by
  refine (lower_any ⟨A1, c1, A2, c2, A3, c3⟩ X c exPat [1, 1] w hp exPat_good hx (by decide)).mono ?_
  rintro e w' ⟨y, hf, _, hr⟩
  have := hf.unique ex_low
  subst this
  exact hr
theorem ex_raise (hp : PatAt S w ⟨A1, c1, A2, c2, A3, c3⟩ exPat) (hx : RV T w X [.int .i64 1, .int .i64 1]) : Calls Try.prog 56 #[.agg #[.slice A1 2 c1, .slice A2 2 c2, .slice A3 1 c3], .slice X 2 c] w (RetRow w 3 1 2 [.int .i64 2, .int .i64 1]) := by
  refine (raise_any ⟨A1, c1, A2, c2, A3, c3⟩ X c exPat [1, 1] w hp exPat_good hx (by decide)).mono ?_
  rintro e w' ⟨y, hf, _, hr⟩
  have := hf.unique ex_rai
  subst this
  exact hr
theorem ex_orphans (hp : PatAt S w ⟨A1, c1, A2, c2, A3, c3⟩ exPat) (hx : RV T w X [.int .i64 1, .int .i64 1]) : Calls Try.prog 82 #[.agg #[.slice A1 2 c1, .slice A2 2 c2, .slice A3 1 c3], .slice X 2 c] w (RetRow w 3 1 1 [.int .i64 0]) :=
  (orphans_any ⟨A1, c1, A2, c2, A3, c3⟩ X c exPat [1, 1] w hp exPat_good hx (by decide)).mono (fun e w' h => h)
end
theorem reps_one {w : World} : Reps (repArc w) 4 [.int .i64 0, .int .i64 2, .int .i64 1, .int .i64 1] exPat.arcs := ⟨_, [], rfl, rfl, rfl, rfl⟩
set_option maxRecDepth 100000 in
set_option maxHeartbeats 3200000 in
theorem awake18_any (w0 : World) : Calls Try.prog 55 #[] w0 fun e w' => e = .returned (.bool true) ∧ Ext w0 w' := by
  have hS := St.start w0 NoM
  go_enter Try.func55, Try.ntmps55
  go_wp2_with (first | (refine oL ?_; (first | refine sL1 hS rfl rfl rfl ?_ | refine sL2 hS rfl rfl rfl ?_ | refine sL3 hS rfl rfl ?_ | refine sL4 hS rfl rfl ?_ | refine sL5 hS rfl rfl ?_ | refine sL6 hS rfl rfl ?_ | refine sL7 hS rfl rfl ?_)) | (refine oS ?_; ((first | refine sS1 hS rfl rfl rfl ?_ | refine sS2 hS rfl rfl rfl ?_ | refine sS3 hS rfl rfl rfl ?_ | refine sS4 hS rfl rfl rfl ?_ | refine sS5 hS rfl rfl rfl ?_); clear hS; intro w hS)) | ((first | refine sN1 hS rfl ?_ | (refine oC ?_; first | refine sC0 hS rfl ?_ | refine sC1 hS rfl rfl ?_ | refine sC2 hS rfl rfl ?_ | refine sC3 hS rfl rfl rfl ?_ | refine sC4 hS rfl rfl rfl ?_)); clear hS; first | ((fail_if_success guard_hyp g1); intro g1 w hS) | ((fail_if_success guard_hyp g2); intro g2 w hS) | ((fail_if_success guard_hyp g3); intro g3 w hS) | ((fail_if_success guard_hyp g4); intro g4 w hS) | ((fail_if_success guard_hyp g5); intro g5 w hS) | ((fail_if_success guard_hyp g6); intro g6 w hS) | ((fail_if_success guard_hyp g7); intro g7 w hS) | ((fail_if_success guard_hyp g8); intro g8 w hS) | ((fail_if_success guard_hyp g9); intro g9 w hS) | fail) | fail)
  have hb1 := hS.all (blk g1 [.int .i64 2, .int .i64 1] 3) (by simp)
  have hb2 := hS.all (blk g2 [.int .i64 0] 3) (by simp)
  have hb3 := hS.all (blk g3 [.int .i64 0] 3) (by simp)
  have hb4 := hS.all (blk g4 [.slice (some ⟨g2, 0, none⟩) 1 1, .slice (some ⟨g3, 0, none⟩) 1 1] 24) (by simp)
  have hb5 := hS.all (blk g5 [.int .i64 0, .int .i64 2, .int .i64 1, .int .i64 1] 57) (by simp)
  have hS := (hS.re (ds := [blk g1 [.int .i64 2, .int .i64 1] 3, blk g2 [.int .i64 0] 3, blk g3 [.int .i64 0] 3, blk g4 [.slice (some ⟨g2, 0, none⟩) 1 1, .slice (some ⟨g3, 0, none⟩) 1 1] 24, blk g5 [.int .i64 0, .int .i64 2, .int .i64 1, .int .i64 1] 57,
    blk g6 [.slice (some ⟨g1, 0, none⟩) 2 2, .slice (some ⟨g4, 0, none⟩) 2 2, .slice (some ⟨g5, 0, none⟩) 1 1] 28])).freezeN 5
  obtain ⟨T, hT⟩ : ∃ T : Nat → Prop, T = fun k => k = g1 ∨ k = g2 ∨ k = g3 ∨ k = g4 ∨ k = g5 := ⟨_, rfl⟩
  have hp : PatAt T w ⟨some ⟨g1, 0, none⟩, 2, some ⟨g4, 0, none⟩, 2, some ⟨g5, 0, none⟩, 1⟩ exPat := by
    subst hT
    refine ⟨RV.ofBlkT hb1 (by simp), ⟨_, RV.ofBlkT hb4 (by simp), ?_⟩, ⟨_, RV.ofBlkT hb5 (by simp), reps_one⟩, by simp [exPat], by simp, by simp [exPat], by simp, by simp [exPat], by simp⟩
    exact ⟨[_], [_], rfl, rfl, ⟨some ⟨g2, 0, none⟩, 1, rfl, by decide, by decide, RV.ofBlkT hb2 (by simp)⟩, [_], [], rfl, rfl, ⟨some ⟨g3, 0, none⟩, 1, rfl, by decide, by decide, RV.ofBlkT hb3 (by simp)⟩, rfl⟩
  have hS : St w0 NoM [froz T w, blk g6 [.slice (some ⟨g1, 0, none⟩) 2 2, .slice (some ⟨g4, 0, none⟩) 2 2, .slice (some ⟨g5, 0, none⟩) 1 1] 28] w := by
    subst hT
    have e : (fun k => ∃ c ∈ [blk (w0 := w0) (M := NoM) g1 [.int .i64 2, .int .i64 1] 3, blk g2 [.int .i64 0] 3, blk g3 [.int .i64 0] 3, blk g4 [.slice (some ⟨g2, 0, none⟩) 1 1, .slice (some ⟨g3, 0, none⟩) 1 1] 24, blk g5 [.int .i64 0, .int .i64 2, .int .i64 1, .int .i64 1] 57], c.own k) = (fun k => k = g1 ∨ k = g2 ∨ k = g3 ∨ k = g4 ∨ k = g5) := by
      funext k; simp [blk]
    rw [← e]
    exact hS
  have HP := Lib.hid hp
  clear hb1 hb2 hb3 hb4 hb5 hp hT
  refine dr_start0 []  hS (by kernel_rfl) rfl ?_; clear hS; intro w hS
  first | refine dL1 hS 0 rfl rfl rfl rfl ?_ | refine dL2 hS 0 rfl rfl rfl rfl ?_ | refine dL3 hS 0 rfl rfl rfl ?_ | refine dL4 hS 0 rfl rfl rfl ?_ | refine dL5 hS 0 rfl rfl rfl ?_ | refine dL6 hS 0 rfl rfl rfl ?_ | refine dL7 hS 0 rfl rfl rfl ?_
  (try simp only [Act.put, nA, nB, nC])
  first | refine dL1 hS 3 rfl rfl rfl rfl ?_ | refine dL2 hS 3 rfl rfl rfl rfl ?_ | refine dL3 hS 3 rfl rfl rfl ?_ | refine dL4 hS 3 rfl rfl rfl ?_ | refine dL5 hS 3 rfl rfl rfl ?_ | refine dL6 hS 3 rfl rfl rfl ?_ | refine dL7 hS 3 rfl rfl rfl ?_
  (try simp only [Act.put, nA, nB, nC])
  refine dr_two 1 4 (by kernel_rfl) rfl rfl ?_ ?_
  ((first | refine sC0 hS rfl ?_ | refine sC1 hS rfl rfl ?_ | refine sC2 hS rfl rfl ?_ | refine sC3 hS rfl rfl rfl ?_ | refine sC4 hS rfl rfl rfl ?_); clear hS; first | ((fail_if_success guard_hyp g1); intro g1 w hS) | ((fail_if_success guard_hyp g2); intro g2 w hS) | ((fail_if_success guard_hyp g3); intro g3 w hS) | ((fail_if_success guard_hyp g4); intro g4 w hS) | ((fail_if_success guard_hyp g5); intro g5 w hS) | ((fail_if_success guard_hyp g6); intro g6 w hS) | ((fail_if_success guard_hyp g7); intro g7 w hS) | ((fail_if_success guard_hyp g8); intro g8 w hS) | ((fail_if_success guard_hyp g9); intro g9 w hS) | fail)
  (try simp only [Act.put, nA, nB, nC])
  refine dr_end hS ?_
  refine dr_two 2 4 (by kernel_rfl) rfl rfl ?_ ?_
  (refine st_call rfl (by kernel_rfl) rfl ?_; go_at_call 81; refine (ex_lower (HP.out.into hS.frozInto) hS.blkRV).mono ?_; rintro e w' ⟨La, ka, rfl, ho, hx1⟩; have hS := hS.addRow ho hx1)
  (try simp only [Act.put, nA, nB, nC])
  refine dr_end hS ?_
  refine dr_one 4 (by kernel_rfl) rfl ?_
  ((first | refine sC0 hS rfl ?_ | refine sC1 hS rfl rfl ?_ | refine sC2 hS rfl rfl ?_ | refine sC3 hS rfl rfl rfl ?_ | refine sC4 hS rfl rfl rfl ?_); clear hS; first | ((fail_if_success guard_hyp g1); intro g1 w hS) | ((fail_if_success guard_hyp g2); intro g2 w hS) | ((fail_if_success guard_hyp g3); intro g3 w hS) | ((fail_if_success guard_hyp g4); intro g4 w hS) | ((fail_if_success guard_hyp g5); intro g5 w hS) | ((fail_if_success guard_hyp g6); intro g6 w hS) | ((fail_if_success guard_hyp g7); intro g7 w hS) | ((fail_if_success guard_hyp g8); intro g8 w hS) | ((fail_if_success guard_hyp g9); intro g9 w hS) | fail)
  (try simp only [Act.put, nA, nB, nC])
  refine dr_end hS ?_
  refine dr_one 5 (by kernel_rfl) rfl ?_
  (refine st_call rfl (by kernel_rfl) rfl ?_; go_at_call 56; refine (ex_raise (HP.out.into hS.frozInto) hS.blkRV).mono ?_; rintro e w' ⟨Lb, kb, rfl, ho, hx1⟩; have hS := hS.addRow ho hx1)
  (try simp only [Act.put, nA, nB, nC])
  refine dr_end hS ?_
  refine dA hS 6 rfl rfl rfl ?_
  (try simp only [Act.put, nA, nB, nC])
  refine dA hS 7 rfl rfl rfl ?_
  (try simp only [Act.put, nA, nB, nC])
  refine dr_done (by kernel_rfl) ?_
  rotate_left
  ((first | refine sC0 hS rfl ?_ | refine sC1 hS rfl rfl ?_ | refine sC2 hS rfl rfl ?_ | refine sC3 hS rfl rfl rfl ?_ | refine sC4 hS rfl rfl rfl ?_); clear hS; first | ((fail_if_success guard_hyp g1); intro g1 w hS) | ((fail_if_success guard_hyp g2); intro g2 w hS) | ((fail_if_success guard_hyp g3); intro g3 w hS) | ((fail_if_success guard_hyp g4); intro g4 w hS) | ((fail_if_success guard_hyp g5); intro g5 w hS) | ((fail_if_success guard_hyp g6); intro g6 w hS) | ((fail_if_success guard_hyp g7); intro g7 w hS) | ((fail_if_success guard_hyp g8); intro g8 w hS) | ((fail_if_success guard_hyp g9); intro g9 w hS) | fail)
  (try simp only [Act.put, nA, nB, nC])
  refine dr_end hS ?_
  refine dr_one 2 (by kernel_rfl) rfl ?_
  (refine st_call rfl (by kernel_rfl) rfl ?_; go_at_call 81; refine (ex_lower (HP.out.into hS.frozInto) hS.blkRV).mono ?_; rintro e w' ⟨La, ka, rfl, ho, hx1⟩; have hS := hS.addRow ho hx1)
  (try simp only [Act.put, nA, nB, nC])
  refine dr_end hS ?_
  refine dr_one 5 (by kernel_rfl) rfl ?_
  (refine st_call rfl (by kernel_rfl) rfl ?_; go_at_call 56; refine (ex_raise (HP.out.into hS.frozInto) hS.blkRV).mono ?_; rintro e w' ⟨Lb, kb, rfl, ho, hx1⟩; have hS := hS.addRow ho hx1)
  (try simp only [Act.put, nA, nB, nC])
  refine dr_end hS ?_
  refine dA hS 6 rfl rfl rfl ?_
  (try simp only [Act.put, nA, nB, nC])
  refine dA hS 7 rfl rfl rfl ?_
  (try simp only [Act.put, nA, nB, nC])
  refine dr_done (by kernel_rfl) ?_
  rotate_left
  ((first | refine sC0 hS rfl ?_ | refine sC1 hS rfl rfl ?_ | refine sC2 hS rfl rfl ?_ | refine sC3 hS rfl rfl rfl ?_ | refine sC4 hS rfl rfl rfl ?_); clear hS; first | ((fail_if_success guard_hyp g1); intro g1 w hS) | ((fail_if_success guard_hyp g2); intro g2 w hS) | ((fail_if_success guard_hyp g3); intro g3 w hS) | ((fail_if_success guard_hyp g4); intro g4 w hS) | ((fail_if_success guard_hyp g5); intro g5 w hS) | ((fail_if_success guard_hyp g6); intro g6 w hS) | ((fail_if_success guard_hyp g7); intro g7 w hS) | ((fail_if_success guard_hyp g8); intro g8 w hS) | ((fail_if_success guard_hyp g9); intro g9 w hS) | fail)
  (try simp only [Act.put, nA, nB, nC])
  refine dr_end hS ?_
  refine dr_one 1 (by kernel_rfl) rfl ?_
  ((first | refine sC0 hS rfl ?_ | refine sC1 hS rfl rfl ?_ | refine sC2 hS rfl rfl ?_ | refine sC3 hS rfl rfl rfl ?_ | refine sC4 hS rfl rfl rfl ?_); clear hS; first | ((fail_if_success guard_hyp g1); intro g1 w hS) | ((fail_if_success guard_hyp g2); intro g2 w hS) | ((fail_if_success guard_hyp g3); intro g3 w hS) | ((fail_if_success guard_hyp g4); intro g4 w hS) | ((fail_if_success guard_hyp g5); intro g5 w hS) | ((fail_if_success guard_hyp g6); intro g6 w hS) | ((fail_if_success guard_hyp g7); intro g7 w hS) | ((fail_if_success guard_hyp g8); intro g8 w hS) | ((fail_if_success guard_hyp g9); intro g9 w hS) | fail)
  (try simp only [Act.put, nA, nB, nC])
  refine dr_end hS ?_
  refine dr_one 2 (by kernel_rfl) rfl ?_
  (refine st_call rfl (by kernel_rfl) rfl ?_; go_at_call 81; refine (ex_lower (HP.out.into hS.frozInto) hS.blkRV).mono ?_; rintro e w' ⟨La, ka, rfl, ho, hx1⟩; have hS := hS.addRow ho hx1)
  (try simp only [Act.put, nA, nB, nC])
  refine dr_end hS ?_
  refine dr_one 5 (by kernel_rfl) rfl ?_
  (refine st_call rfl (by kernel_rfl) rfl ?_; go_at_call 56; refine (ex_raise (HP.out.into hS.frozInto) hS.blkRV).mono ?_; rintro e w' ⟨Lb, kb, rfl, ho, hx1⟩; have hS := hS.addRow ho hx1)
  (try simp only [Act.put, nA, nB, nC])
  refine dr_end hS ?_
  refine dA hS 6 rfl rfl rfl ?_
  (try simp only [Act.put, nA, nB, nC])
  refine dA hS 7 rfl rfl rfl ?_
  (try simp only [Act.put, nA, nB, nC])
  refine dr_done (by kernel_rfl) ?_
  rotate_left
  all_goals
    obtain ⟨ga, rfl⟩ := hS.rowSome La (by omega)
    obtain ⟨gb, rfl⟩ := hS.rowSome Lb (by omega)
    have q1 : ([.int .i64 1, .int .i64 0] : List Value)[0]? = some (.int .i64 1) := rfl
    have q2 : ([.int .i64 1, .int .i64 0] : List Value)[1]? = some (.int .i64 0) := rfl
    have q3 : ([.int .i64 2, .int .i64 1] : List Value)[0]? = some (.int .i64 2) := rfl
    go_wp2_with (first | (go_at_call 82; refine (ex_orphans (HP.out.into hS.frozInto) hS.blkRV).mono ?_; rintro e w' ⟨Lc, kc, rfl, ho, hx1⟩; have hS := hS.addRow ho hx1) | (refine oL ?_; (first | refine sL1 hS rfl rfl rfl ?_ | refine sL2 hS rfl rfl rfl ?_ | refine sL3 hS rfl rfl ?_ | refine sL4 hS rfl rfl ?_ | refine sL5 hS rfl rfl ?_ | refine sL6 hS rfl rfl ?_ | refine sL7 hS rfl rfl ?_)) | (refine oS ?_; ((first | refine sS1 hS rfl rfl rfl ?_ | refine sS2 hS rfl rfl rfl ?_ | refine sS3 hS rfl rfl rfl ?_ | refine sS4 hS rfl rfl rfl ?_ | refine sS5 hS rfl rfl rfl ?_); clear hS; intro w hS)) | ((first | refine sN1 hS rfl ?_ | (refine oC ?_; first | refine sC0 hS rfl ?_ | refine sC1 hS rfl rfl ?_ | refine sC2 hS rfl rfl ?_ | refine sC3 hS rfl rfl rfl ?_ | refine sC4 hS rfl rfl rfl ?_)); clear hS; first | ((fail_if_success guard_hyp g1); intro g1 w hS) | ((fail_if_success guard_hyp g2); intro g2 w hS) | ((fail_if_success guard_hyp g3); intro g3 w hS) | ((fail_if_success guard_hyp g4); intro g4 w hS) | ((fail_if_success guard_hyp g5); intro g5 w hS) | ((fail_if_success guard_hyp g6); intro g6 w hS) | ((fail_if_success guard_hyp g7); intro g7 w hS) | ((fail_if_success guard_hyp g8); intro g8 w hS) | ((fail_if_success guard_hyp g9); intro g9 w hS) | fail) | fail)
    go_ret
    exact ⟨rfl, hS.toExt⟩
end Go.Proofs.Ytkflmichekpfbaa
