/- The sanity check of chapter 18. No condition. -/
import Derived.Test.YtkflmichekpfbaaGd
import Derived.Test.YtkflmichekpfbaaGc
import Derived.MapKept
import Derived.Carry
import Derived.Test.YtkflmichekpfbaaGe
namespace Go.Proofs.Ytkflmichekpfbaa
open Go.RowKit
set_option linter.unusedVariables false
set_option linter.unusedSimpArgs false

/-- the first n pieces become data -/
theorem St.freezeN {w0 w : World} {M : Nat → Prop} {cs : List (Chunk w0 M)} (n : Nat) (h : St w0 M cs w) : St w0 M (froz (fun k => ∃ c ∈ cs.take n, c.own k) w :: cs.drop n) w := by
  have hcs : cs = cs.take n ++ cs.drop n := (List.take_append_drop n cs).symm
  have hap := h.apart
  rw [hcs, List.pairwise_append] at hap
  refine ⟨h.keep, ?_, ?_, List.pairwise_cons.2 ⟨?_, hap.2.1⟩⟩
  · intro c hc
    rcases List.mem_cons.1 hc with rfl | hc
    · rintro k ⟨c, hc, hk⟩
      exact ⟨c.lt (h.all c (List.mem_of_mem_take hc)) hk, rfl⟩
    · exact h.all c (List.mem_of_mem_drop hc)
  · intro c hc k hk
    rcases List.mem_cons.1 hc with rfl | hc
    · obtain ⟨c, hc, hk⟩ := hk
      exact h.new c (List.mem_of_mem_take hc) k hk
    · exact h.new c (List.mem_of_mem_drop hc) k hk
  · rintro d hd k ⟨c, hc, hk⟩
    exact hap.2.2 c hc d hd k hk

/-- the example of chapter 18 -/
def exPat : Pat := ⟨[2, 1], [[0], [0]], [⟨0, 2, 1, 1⟩]⟩
theorem exPat_good : Good exPat := by
  have h0 := Good.none (n := 2) (by omega) (by omega)
  have h1 := h0.more (q := 0) (by simp [Pat.none]) (by simp [Pat.none, nth])
  have h2 := h1.more (q := 0) (by simp [Pat.none, Pat.more]) (by simp [Pat.none, Pat.more, nth])
  have h3 := h2.recv (s := 0) (q := 1) (k := 2) (by simp [Pat.none, Pat.more]) (by simp [Pat.none, Pat.more]) (by omega) (by omega) (by simp [Pat.none, Pat.more, nth]) (by simp [Pat.none, Pat.more, nth]) (by simp [Pat.none, Pat.more])
  exact h3
theorem ex_low : Fin lowStep exPat.arcs [1, 1] [1, 0] := ⟨⟨1, by decide⟩, by decide⟩
theorem ex_rai : Fin raiStep exPat.arcs [1, 1] [2, 1] := ⟨⟨1, by decide⟩, by decide⟩
theorem RV.ofBlkT {T : Nat → Prop} {w : World} {t : TypeId} {g : Nat} {us : List Value} (h : w.heap[g]? = some (.cells us.toArray t (0, 0))) (ht : T g) : RV T w (some ⟨g, 0, none⟩) us := fun j u hu => ⟨g, 0, rfl, ht, by rw [Nat.zero_add]; exact cell_of_heap h (by simpa using hu)⟩

theorem St.blkRV {w0 w : World} {M : Nat → Prop} {cs : List (Chunk w0 M)} {f : Chunk w0 M → List (Chunk w0 M)} {g : Nat} {vs : List Value} {t : TypeId} (h : St w0 M cs w) [hp : PickB g cs vs t f] : RV All w (some ⟨g, 0, none⟩) vs := RV.ofBlk ((hp.eq ▸ h : St w0 M (f (blk g vs t)) w).at_ hp.gap : w.heap[g]? = _)
section
variable {S T : Nat → Prop} {w : World} {A1 A2 A3 X : Option Addr} {c1 c2 c3 c : Nat}
theorem ex_lower (hp : PatAt S w ⟨A1, c1, A2, c2, A3, c3⟩ exPat) (hx : RV T w X [.int .i64 1, .int .i64 1]) : Calls Try.prog 81 #[.agg #[.slice A1 2 c1, .slice A2 2 c2, .slice A3 1 c3], .slice X 2 c] w (RetRow w 3 1 2 [.int .i64 1, .int .i64 0]) := by
  refine (lower_any ⟨A1, c1, A2, c2, A3, c3⟩ X c exPat [1, 1] w hp exPat_good hx (by decide)).mono ?_
  rintro e w' ⟨y, hf, _, hr⟩
  have := hf.unique ex_low
  subst this
  exact hr
theorem ex_raise (hp : PatAt S w ⟨A1, c1, A2, c2, A3, c3⟩ exPat) (hx : RV T w X [.int .i64 1, .int .i64 1]) : Calls Try.prog 56 #[.agg #[.slice A1 2 c1, .slice A2 2 c2, .slice A3 1 c3], .slice X 2 c] w (RetRow w 3 1 2 [.int .i64 2, .int .i64 1]) := by
  refine (raise_any ⟨A1, c1, A2, c2, A3, c3⟩ X c exPat [1, 1] w hp exPat_good hx (by decide)).mono ?_
  rintro e w' ⟨y, hf, _, hr⟩
  have := hf.unique ex_rai
  subst this
  exact hr
theorem ex_orphans (hp : PatAt S w ⟨A1, c1, A2, c2, A3, c3⟩ exPat) (hx : RV T w X [.int .i64 1, .int .i64 1]) : Calls Try.prog 82 #[.agg #[.slice A1 2 c1, .slice A2 2 c2, .slice A3 1 c3], .slice X 2 c] w (RetRow w 3 1 1 [.int .i64 0]) :=
  (orphans_any ⟨A1, c1, A2, c2, A3, c3⟩ X c exPat [1, 1] w hp exPat_good hx (by decide)).mono (fun e w' h => h)
end
theorem reps_one {w : World} : Reps (repArc w) 4 [.int .i64 0, .int .i64 2, .int .i64 1, .int .i64 1] exPat.arcs := ⟨_, [], rfl, rfl, rfl, rfl⟩
set_option maxRecDepth 100000 in
set_option maxHeartbeats 3200000 in
theorem awake18_any (w0 : World) : Calls Try.prog 55 #[] w0 fun e w' => e = .returned (.bool true) ∧ Ext w0 w' := by
  have hS := St.start w0 NoM
  go_enter Try.func55, Try.ntmps55
  go_wp2_with (first | (refine oL ?_; (first | refine sL1 hS rfl rfl rfl ?_ | refine sL2 hS rfl rfl rfl ?_ | refine sL3 hS rfl rfl ?_ | refine sL4 hS rfl rfl ?_ | refine sL5 hS rfl rfl ?_ | refine sL6 hS rfl rfl ?_ | refine sL7 hS rfl rfl ?_)) | (refine oS ?_; ((first | refine sS1 hS rfl rfl rfl ?_ | refine sS2 hS rfl rfl rfl ?_ | refine sS3 hS rfl rfl rfl ?_ | refine sS4 hS rfl rfl rfl ?_ | refine sS5 hS rfl rfl rfl ?_); clear hS; intro w hS)) | ((first | refine sN1 hS rfl ?_ | (refine oC ?_; first | refine sC0 hS rfl ?_ | refine sC1 hS rfl rfl ?_ | refine sC2 hS rfl rfl ?_ | refine sC3 hS rfl rfl rfl ?_ | refine sC4 hS rfl rfl rfl ?_)); clear hS; first | ((fail_if_success guard_hyp g1); intro g1 w hS) | ((fail_if_success guard_hyp g2); intro g2 w hS) | ((fail_if_success guard_hyp g3); intro g3 w hS) | ((fail_if_success guard_hyp g4); intro g4 w hS) | ((fail_if_success guard_hyp g5); intro g5 w hS) | ((fail_if_success guard_hyp g6); intro g6 w hS) | ((fail_if_success guard_hyp g7); intro g7 w hS) | ((fail_if_success guard_hyp g8); intro g8 w hS) | ((fail_if_success guard_hyp g9); intro g9 w hS) | ((fail_if_success guard_hyp g10); intro g10 w hS) | fail) | fail)
  have hb1 := hS.all (blk g1 [.int .i64 2, .int .i64 1] 3) (by simp)
  have hb2 := hS.all (blk g2 [.int .i64 0] 3) (by simp)
  have hb3 := hS.all (blk g3 [.int .i64 0] 3) (by simp)
  have hb4 := hS.all (blk g4 [.slice (some ⟨g2, 0, none⟩) 1 1, .slice (some ⟨g3, 0, none⟩) 1 1] 24) (by simp)
  have hb5 := hS.all (blk g5 [.int .i64 0, .int .i64 2, .int .i64 1, .int .i64 1] 57) (by simp)
  have hS := (hS.re (ds := [blk g1 [.int .i64 2, .int .i64 1] 3, blk g2 [.int .i64 0] 3, blk g3 [.int .i64 0] 3, blk g4 [.slice (some ⟨g2, 0, none⟩) 1 1, .slice (some ⟨g3, 0, none⟩) 1 1] 24, blk g5 [.int .i64 0, .int .i64 2, .int .i64 1, .int .i64 1] 57,
    blk g6 [.slice (some ⟨g1, 0, none⟩) 2 2, .slice (some ⟨g4, 0, none⟩) 2 2, .slice (some ⟨g5, 0, none⟩) 1 1] 28])).freezeN 5
  obtain ⟨T, hT⟩ : ∃ T : Nat → Prop, T = fun k => k = g1 ∨ k = g2 ∨ k = g3 ∨ k = g4 ∨ k = g5 := ⟨_, rfl⟩
  have hp : PatAt T w ⟨some ⟨g1, 0, none⟩, 2, some ⟨g4, 0, none⟩, 2, some ⟨g5, 0, none⟩, 1⟩ exPat := by
    subst hT
    refine ⟨RV.ofBlkT hb1 (by simp), ⟨_, RV.ofBlkT hb4 (by simp), ?_⟩, ⟨_, RV.ofBlkT hb5 (by simp), reps_one⟩, by simp [exPat], by simp, by simp [exPat], by simp, by simp [exPat], by simp⟩
    exact ⟨[_], [_], rfl, rfl, ⟨some ⟨g2, 0, none⟩, 1, rfl, by decide, by decide, RV.ofBlkT hb2 (by simp)⟩, [_], [], rfl, rfl, ⟨some ⟨g3, 0, none⟩, 1, rfl, by decide, by decide, RV.ofBlkT hb3 (by simp)⟩, rfl⟩
  have hS : St w0 NoM [froz T w, blk g6 [.slice (some ⟨g1, 0, none⟩) 2 2, .slice (some ⟨g4, 0, none⟩) 2 2, .slice (some ⟨g5, 0, none⟩) 1 1] 28] w := by
    subst hT
    have e : (fun k => ∃ c ∈ [blk (w0 := w0) (M := NoM) g1 [.int .i64 2, .int .i64 1] 3, blk g2 [.int .i64 0] 3, blk g3 [.int .i64 0] 3, blk g4 [.slice (some ⟨g2, 0, none⟩) 1 1, .slice (some ⟨g3, 0, none⟩) 1 1] 24, blk g5 [.int .i64 0, .int .i64 2, .int .i64 1, .int .i64 1] 57], c.own k) = (fun k => k = g1 ∨ k = g2 ∨ k = g3 ∨ k = g4 ∨ k = g5) := by
      funext k; simp [blk]
    rw [← e]
    exact hS
  have HP := Lib.hid hp
  clear hb1 hb2 hb3 hb4 hb5 hp hT
  refine dr_start0 []  hS (by kernel_rfl) rfl ?_; clear hS; intro w hS
  first | refine dL1 hS 0 rfl rfl rfl rfl ?_ | refine dL2 hS 0 rfl rfl rfl rfl ?_ | refine dL3 hS 0 rfl rfl rfl ?_ | refine dL4 hS 0 rfl rfl rfl ?_ | refine dL5 hS 0 rfl rfl rfl ?_ | refine dL6 hS 0 rfl rfl rfl ?_ | refine dL7 hS 0 rfl rfl rfl ?_
  (try simp only [Act.put, nA, nB, nC])
  first | refine dL1 hS 3 rfl rfl rfl rfl ?_ | refine dL2 hS 3 rfl rfl rfl rfl ?_ | refine dL3 hS 3 rfl rfl rfl ?_ | refine dL4 hS 3 rfl rfl rfl ?_ | refine dL5 hS 3 rfl rfl rfl ?_ | refine dL6 hS 3 rfl rfl rfl ?_ | refine dL7 hS 3 rfl rfl rfl ?_
  (try simp only [Act.put, nA, nB, nC])
  refine dr_two 1 4 (by kernel_rfl) rfl rfl ?_ ?_
  ((first | refine sC0 hS rfl ?_ | refine sC1 hS rfl rfl ?_ | refine sC2 hS rfl rfl ?_ | refine sC3 hS rfl rfl rfl ?_ | refine sC4 hS rfl rfl rfl ?_); clear hS; first | ((fail_if_success guard_hyp g1); intro g1 w hS) | ((fail_if_success guard_hyp g2); intro g2 w hS) | ((fail_if_success guard_hyp g3); intro g3 w hS) | ((fail_if_success guard_hyp g4); intro g4 w hS) | ((fail_if_success guard_hyp g5); intro g5 w hS) | ((fail_if_success guard_hyp g6); intro g6 w hS) | ((fail_if_success guard_hyp g7); intro g7 w hS) | ((fail_if_success guard_hyp g8); intro g8 w hS) | ((fail_if_success guard_hyp g9); intro g9 w hS) | ((fail_if_success guard_hyp g10); intro g10 w hS) | fail)
  (try simp only [Act.put, nA, nB, nC])
  refine dr_end hS ?_
  refine dr_two 2 4 (by kernel_rfl) rfl rfl ?_ ?_
  (refine st_call rfl (by kernel_rfl) rfl ?_; go_at_call 81; refine (ex_lower (HP.out.into hS.frozInto) hS.blkRV).mono ?_; rintro e w' ⟨La, ka, rfl, ho, hx1⟩; have hS := hS.addRow ho hx1)
  (try simp only [Act.put, nA, nB, nC])
  refine dr_end hS ?_
  refine dr_one 4 (by kernel_rfl) rfl ?_
  ((first | refine sC0 hS rfl ?_ | refine sC1 hS rfl rfl ?_ | refine sC2 hS rfl rfl ?_ | refine sC3 hS rfl rfl rfl ?_ | refine sC4 hS rfl rfl rfl ?_); clear hS; first | ((fail_if_success guard_hyp g1); intro g1 w hS) | ((fail_if_success guard_hyp g2); intro g2 w hS) | ((fail_if_success guard_hyp g3); intro g3 w hS) | ((fail_if_success guard_hyp g4); intro g4 w hS) | ((fail_if_success guard_hyp g5); intro g5 w hS) | ((fail_if_success guard_hyp g6); intro g6 w hS) | ((fail_if_success guard_hyp g7); intro g7 w hS) | ((fail_if_success guard_hyp g8); intro g8 w hS) | ((fail_if_success guard_hyp g9); intro g9 w hS) | ((fail_if_success guard_hyp g10); intro g10 w hS) | fail)
  (try simp only [Act.put, nA, nB, nC])
  refine dr_end hS ?_
  refine dr_one 5 (by kernel_rfl) rfl ?_
  (refine st_call rfl (by kernel_rfl) rfl ?_; go_at_call 56; refine (ex_raise (HP.out.into hS.frozInto) hS.blkRV).mono ?_; rintro e w' ⟨Lb, kb, rfl, ho, hx1⟩; have hS := hS.addRow ho hx1)
  (try simp only [Act.put, nA, nB, nC])
  refine dr_end hS ?_
  refine dA hS 6 rfl rfl rfl ?_
  (try simp only [Act.put, nA, nB, nC])
  refine dA hS 7 rfl rfl rfl ?_
  (try simp only [Act.put, nA, nB, nC])
  refine dr_done (by kernel_rfl) ?_
  rotate_left
  ((first | refine sC0 hS rfl ?_ | refine sC1 hS rfl rfl ?_ | refine sC2 hS rfl rfl ?_ | refine sC3 hS rfl rfl rfl ?_ | refine sC4 hS rfl rfl rfl ?_); clear hS; first | ((fail_if_success guard_hyp g1); intro g1 w hS) | ((fail_if_success guard_hyp g2); intro g2 w hS) | ((fail_if_success guard_hyp g3); intro g3 w hS) | ((fail_if_success guard_hyp g4); intro g4 w hS) | ((fail_if_success guard_hyp g5); intro g5 w hS) | ((fail_if_success guard_hyp g6); intro g6 w hS) | ((fail_if_success guard_hyp g7); intro g7 w hS) | ((fail_if_success guard_hyp g8); intro g8 w hS) | ((fail_if_success guard_hyp g9); intro g9 w hS) | ((fail_if_success guard_hyp g10); intro g10 w hS) | fail)
  (try simp only [Act.put, nA, nB, nC])
  refine dr_end hS ?_
  refine dr_one 2 (by kernel_rfl) rfl ?_
  (refine st_call rfl (by kernel_rfl) rfl ?_; go_at_call 81; refine (ex_lower (HP.out.into hS.frozInto) hS.blkRV).mono ?_; rintro e w' ⟨La, ka, rfl, ho, hx1⟩; have hS := hS.addRow ho hx1)
  (try simp only [Act.put, nA, nB, nC])
  refine dr_end hS ?_
  refine dr_one 5 (by kernel_rfl) rfl ?_
  (refine st_call rfl (by kernel_rfl) rfl ?_; go_at_call 56; refine (ex_raise (HP.out.into hS.frozInto) hS.blkRV).mono ?_; rintro e w' ⟨Lb, kb, rfl, ho, hx1⟩; have hS := hS.addRow ho hx1)
  (try simp only [Act.put, nA, nB, nC])
  refine dr_end hS ?_
  refine dA hS 6 rfl rfl rfl ?_
  (try simp only [Act.put, nA, nB, nC])
  refine dA hS 7 rfl rfl rfl ?_
  (try simp only [Act.put, nA, nB, nC])
  refine dr_done (by kernel_rfl) ?_
  rotate_left
  ((first | refine sC0 hS rfl ?_ | refine sC1 hS rfl rfl ?_ | refine sC2 hS rfl rfl ?_ | refine sC3 hS rfl rfl rfl ?_ | refine sC4 hS rfl rfl rfl ?_); clear hS; first | ((fail_if_success guard_hyp g1); intro g1 w hS) | ((fail_if_success guard_hyp g2); intro g2 w hS) | ((fail_if_success guard_hyp g3); intro g3 w hS) | ((fail_if_success guard_hyp g4); intro g4 w hS) | ((fail_if_success guard_hyp g5); intro g5 w hS) | ((fail_if_success guard_hyp g6); intro g6 w hS) | ((fail_if_success guard_hyp g7); intro g7 w hS) | ((fail_if_success guard_hyp g8); intro g8 w hS) | ((fail_if_success guard_hyp g9); intro g9 w hS) | ((fail_if_success guard_hyp g10); intro g10 w hS) | fail)
  (try simp only [Act.put, nA, nB, nC])
  refine dr_end hS ?_
  refine dr_one 1 (by kernel_rfl) rfl ?_
  ((first | refine sC0 hS rfl ?_ | refine sC1 hS rfl rfl ?_ | refine sC2 hS rfl rfl ?_ | refine sC3 hS rfl rfl rfl ?_ | refine sC4 hS rfl rfl rfl ?_); clear hS; first | ((fail_if_success guard_hyp g1); intro g1 w hS) | ((fail_if_success guard_hyp g2); intro g2 w hS) | ((fail_if_success guard_hyp g3); intro g3 w hS) | ((fail_if_success guard_hyp g4); intro g4 w hS) | ((fail_if_success guard_hyp g5); intro g5 w hS) | ((fail_if_success guard_hyp g6); intro g6 w hS) | ((fail_if_success guard_hyp g7); intro g7 w hS) | ((fail_if_success guard_hyp g8); intro g8 w hS) | ((fail_if_success guard_hyp g9); intro g9 w hS) | ((fail_if_success guard_hyp g10); intro g10 w hS) | fail)
  (try simp only [Act.put, nA, nB, nC])
  refine dr_end hS ?_
  refine dr_one 2 (by kernel_rfl) rfl ?_
  (refine st_call rfl (by kernel_rfl) rfl ?_; go_at_call 81; refine (ex_lower (HP.out.into hS.frozInto) hS.blkRV).mono ?_; rintro e w' ⟨La, ka, rfl, ho, hx1⟩; have hS := hS.addRow ho hx1)
  (try simp only [Act.put, nA, nB, nC])
  refine dr_end hS ?_
  refine dr_one 5 (by kernel_rfl) rfl ?_
  (refine st_call rfl (by kernel_rfl) rfl ?_; go_at_call 56; refine (ex_raise (HP.out.into hS.frozInto) hS.blkRV).mono ?_; rintro e w' ⟨Lb, kb, rfl, ho, hx1⟩; have hS := hS.addRow ho hx1)
  (try simp only [Act.put, nA, nB, nC])
  refine dr_end hS ?_
  refine dA hS 6 rfl rfl rfl ?_
  (try simp only [Act.put, nA, nB, nC])
  refine dA hS 7 rfl rfl rfl ?_
  (try simp only [Act.put, nA, nB, nC])
  refine dr_done (by kernel_rfl) ?_
  rotate_left
  all_goals
    obtain ⟨ga, rfl⟩ := hS.rowSome La (by omega)
    obtain ⟨gb, rfl⟩ := hS.rowSome Lb (by omega)
    have q1 : ([.int .i64 1, .int .i64 0] : List Value)[0]? = some (.int .i64 1) := rfl
    have q2 : ([.int .i64 1, .int .i64 0] : List Value)[1]? = some (.int .i64 0) := rfl
    have q3 : ([.int .i64 2, .int .i64 1] : List Value)[0]? = some (.int .i64 2) := rfl
    go_wp2_with (first | (go_at_call 82; refine (ex_orphans (HP.out.into hS.frozInto) hS.blkRV).mono ?_; rintro e w' ⟨Lc, kc, rfl, ho, hx1⟩; have hS := hS.addRow ho hx1) | (refine oL ?_; (first | refine sL1 hS rfl rfl rfl ?_ | refine sL2 hS rfl rfl rfl ?_ | refine sL3 hS rfl rfl ?_ | refine sL4 hS rfl rfl ?_ | refine sL5 hS rfl rfl ?_ | refine sL6 hS rfl rfl ?_ | refine sL7 hS rfl rfl ?_)) | (refine oS ?_; ((first | refine sS1 hS rfl rfl rfl ?_ | refine sS2 hS rfl rfl rfl ?_ | refine sS3 hS rfl rfl rfl ?_ | refine sS4 hS rfl rfl rfl ?_ | refine sS5 hS rfl rfl rfl ?_); clear hS; intro w hS)) | ((first | refine sN1 hS rfl ?_ | (refine oC ?_; first | refine sC0 hS rfl ?_ | refine sC1 hS rfl rfl ?_ | refine sC2 hS rfl rfl ?_ | refine sC3 hS rfl rfl rfl ?_ | refine sC4 hS rfl rfl rfl ?_)); clear hS; first | ((fail_if_success guard_hyp g1); intro g1 w hS) | ((fail_if_success guard_hyp g2); intro g2 w hS) | ((fail_if_success guard_hyp g3); intro g3 w hS) | ((fail_if_success guard_hyp g4); intro g4 w hS) | ((fail_if_success guard_hyp g5); intro g5 w hS) | ((fail_if_success guard_hyp g6); intro g6 w hS) | ((fail_if_success guard_hyp g7); intro g7 w hS) | ((fail_if_success guard_hyp g8); intro g8 w hS) | ((fail_if_success guard_hyp g9); intro g9 w hS) | ((fail_if_success guard_hyp g10); intro g10 w hS) | fail) | fail)
    go_ret
    exact ⟨rfl, hS.toExt⟩
end Go.Proofs.Ytkflmichekpfbaa

/- Maps keyed by points: look-up, update, as operations of a walk. No condition. -/
namespace Go.Proofs.Ytkflmichekpfbaa
open Go.RowKit
set_option linter.unusedVariables false
set_option linter.unusedSectionVars false

/-- a point as a value -/
abbrev ptv (k : Int × Int) : Value := .agg #[.int .i64 k.1, .int .i64 k.2]
set_option maxHeartbeats 800000 in
theorem eq_pt (k l : Int × Int) (w : World) : (Op.equal 37 (ptv k) (ptv l)).run Try.prog w = .ok (decide (k = l)) w := by
  obtain ⟨a, b⟩ := k
  obtain ⟨c, d⟩ := l
  have h1 : (binOp .eql 37 (.agg #[.int .i64 a, .int .i64 b]) (.agg #[.int .i64 c, .int .i64 d])).run Try.prog w = .ok (.bool (decide ((a, b) = (c, d)))) w := by
    by_cases h1 : a = c
    · subst h1
      by_cases h2 : b = d
      · subst h2; go_simp
      · have h3 : (b == d) = false := by simp [h2]
        go_simp
    · have h2 : (a == c) = false := by simp [h1]
      go_simp
  rw [run_eql_struct] at h1
  show (Op.equalIn 10000 37 _ _).run _ _ = _
  cases hr : (Op.equalIn 10000 37 (.agg #[.int .i64 a, .int .i64 b]) (.agg #[.int .i64 c, .int .i64 d])).run Try.prog w with
  | ok r w' =>
    rw [hr] at h1
    simp only [Result.andThen_ok] at h1
    injection h1 with e1 e2
    injection e1 with e1
    rw [e1, e2]
  | halt x w' => rw [hr] at h1; simp [Result.andThen] at h1
theorem ck_int (e : Bool) (a : Int) (w : World) : (Instr.checkKey e 9999 3 (.int .i64 a)).run Try.prog w = .ok () w := by
  show (Instr.checkKey e (9998 + 1) 3 (.int .i64 a)).run Try.prog w = .ok () w
  rw [Instr.checkKey]
  simp only [Sem.run_bind, run_underlying Try.underlying3, Result.andThen_ok, Sem.run_pure]
set_option maxHeartbeats 800000 in
theorem ck_pt (e : Bool) (k : Int × Int) (w : World) : (Instr.checkKey e 10000 37 (ptv k)).run Try.prog w = .ok () w := by
  obtain ⟨a, b⟩ := k
  show (Instr.checkKey e (9999 + 1) 37 (.agg #[.int .i64 a, .int .i64 b])).run Try.prog w = .ok () w
  rw [Instr.checkKey]
  simp only [Sem.run_bind, run_underlying Try.underlying37, Result.andThen_ok]
  rw [← Array.forIn_toList]
  simp [ck_int, go_sem]

/-- entries as a list of points and values -/
def EntL (es : List MapEntry) (L : List ((Int × Int) × Value)) : Prop := es.map (fun e => (e.key, e.val)) = L.map (fun x => (ptv x.1, x.2))
theorem EntL.cons {e : MapEntry} {es : List MapEntry} {L : List ((Int × Int) × Value)} (h : EntL (e :: es) L) : ∃ k v L', L = (k, v) :: L' ∧ e.key = ptv k ∧ e.val = v ∧ EntL es L' := by
  cases L with
  | nil => simp [EntL] at h
  | cons x L =>
    simp only [EntL, List.map_cons, List.cons.injEq, Prod.mk.injEq] at h
    exact ⟨x.1, x.2, L, rfl, h.1.1, h.1.2, h.2⟩
theorem EntL.nil {L : List ((Int × Int) × Value)} (h : EntL [] L) : L = [] := by
  cases L with
  | nil => rfl
  | cons x L => simp [EntL] at h
/-- what finding a key yields -/
def Found (k : Int × Int) (L : List ((Int × Int) × Value)) (i0 : Nat) (r : Option (Nat × Value)) : Prop :=
  (r = none ∧ L.lookup k = none) ∨ ∃ i v, r = some (i0 + i, v) ∧ L.lookup k = some v ∧ L[i]? = some (k, v) ∧ (L.take i).lookup k = none
theorem run_findAsking_pt (k : Int × Int) (w : World) : ∀ (es : List MapEntry) (L : List ((Int × Int) × Value)) (i0 : Nat), EntL es L → ∃ r, (Instr.findAsking 37 (ptv k) es i0).run Try.prog w = .ok r w ∧ Found k L i0 r
  | [], L, i0, h => by
    have := h.nil
    subst this
    exact ⟨none, rfl, .inl ⟨rfl, rfl⟩⟩
  | e :: es, L, i0, h => by
    obtain ⟨l, v, L', rfl, hk, hv, h'⟩ := h.cons
    rw [Instr.findAsking]
    by_cases hkl : k = l
    · subst hkl
      refine ⟨some (i0, v), ?_, .inr ⟨0, v, rfl, by simp, rfl, rfl⟩⟩
      simp only [Sem.run_bind, hk, eq_pt, Result.andThen_ok, decide_true, if_true, Sem.run_pure, hv]
    · obtain ⟨r, hr, hf⟩ := run_findAsking_pt k w es L' (i0 + 1) h'
      refine ⟨r, ?_, ?_⟩
      · simp only [Sem.run_bind, hk, eq_pt, Result.andThen_ok, hkl, decide_false, Bool.false_eq_true, if_false, hr]
      · have hb : (k == l) = false := by simpa using hkl
        rcases hf with ⟨h1, h2⟩ | ⟨i, u, h1, h2, h3, h4⟩
        · exact .inl ⟨h1, by rw [List.lookup_cons, hb]; exact h2⟩
        · exact .inr ⟨i + 1, u, by rw [h1]; congr 2; omega, by rw [List.lookup_cons, hb]; exact h2, by simpa using h3, by rw [List.take_succ_cons, List.lookup_cons, hb]; exact h4⟩
theorem run_findKey_pt (k : Int × Int) (w : World) (es : List MapEntry) (L : List ((Int × Int) × Value)) (h : EntL es L) : ∃ r, (Instr.findKey 37 (ptv k) es).run Try.prog w = .ok r w ∧ Found k L 0 r := by
  cases es with
  | nil =>
    have := h.nil
    subst this
    refine ⟨none, ?_, .inl ⟨rfl, rfl⟩⟩
    simp only [Instr.findKey, Sem.run_bind, run_underlying Try.underlying37, Result.andThen_ok, Instr.findNow, Sem.run_pure]
  | cons e es =>
    obtain ⟨r, hr, hf⟩ := run_findAsking_pt k w (e :: es) L 0 h
    refine ⟨r, ?_, hf⟩
    obtain ⟨l, v, L', rfl, hk, hv, h'⟩ := h.cons
    simp only [Instr.findKey, Sem.run_bind, run_underlying Try.underlying37, Result.andThen_ok, Instr.findNow, hk, Instr.sameNow]
    exact hr

/-- block g is a map, m says what it holds -/
def MapAt (w : World) (g : Nat) (m : Int × Int → Option Value) : Prop := ∃ (es : Array MapEntry) (clock : Nat) (L : List ((Int × Int) × Value)), w.heap[g]? = some (.map es clock) ∧ EntL es.toList L ∧ ∀ k, L.lookup k = m k
def mpc {w0 : World} {M : Nat → Prop} (g : Nat) (m : Int × Int → Option Value) : Chunk w0 M :=
  ⟨fun k => k = g, fun w => MapAt w g m, fun {w w'} h hk => by obtain ⟨es, c, L, h1, h2, h3⟩ := h; exact ⟨es, c, L, (hk g (.inl rfl)).trans h1, h2, h3⟩, fun {w k} h e => by obtain ⟨es, c, L, h1, _⟩ := h; subst e; exact lt_of_block h1⟩
class PickM {w0 : World} {M : Nat → Prop} (g : Nat) (cs : List (Chunk w0 M)) (m : outParam (Int × Int → Option Value)) (f : outParam (Chunk w0 M → List (Chunk w0 M))) : Prop where
  eq : cs = f (mpc g m)
  gap : Gap f
instance {w0 : World} {M : Nat → Prop} (g : Nat) (m : Int × Int → Option Value) (r : List (Chunk w0 M)) : PickM g (mpc g m :: r) m (fun c => c :: r) := ⟨rfl, .head r⟩
instance (priority := low) {w0 : World} {M : Nat → Prop} (g : Nat) (m : Int × Int → Option Value) (d : Chunk w0 M) (r : List (Chunk w0 M)) (f : Chunk w0 M → List (Chunk w0 M)) [h : PickM g r m f] : PickM g (d :: r) m (fun c => d :: f c) := ⟨by rw [h.eq], .tail d h.gap⟩
class MapT (P : Program) (t : TypeId) (e : outParam TypeId) (z : outParam Value) : Prop where
  und : P.underlying t = some (.map 37 e)
  zero : (P.info? e).map (·.zero) = some (some z)
def mget (m : Int × Int → Option Value) (z : Value) (k : Int × Int) : Value := (m k).getD z
def mput (m : Int × Int → Option Value) (k : Int × Int) (v : Value) : Int × Int → Option Value := fun l => if l = k then some v else m l

theorem run_look {t e : TypeId} {z : Value} (hT : MapT Try.prog t e z) {w : World} {g : Nat} {m : Int × Int → Option Value} (h : MapAt w g m) (k : Int × Int) :
    (Instr.lookup t (.map (some g)) (ptv k) true).run Try.prog w = .ok (.tuple #[mget m z k, .bool (m k).isSome]) w ∧ (Instr.lookup t (.map (some g)) (ptv k) false).run Try.prog w = .ok (mget m z k) w := by
  obtain ⟨es, c, L, h1, h2, h3⟩ := h
  obtain ⟨r, hr, hf⟩ := run_findKey_pt k w es.toList L h2
  have hz : (zeroValue e).run Try.prog w = .ok z w := by
    have := hT.zero
    cases hi : (Try.prog).info? e with
    | none => rw [hi] at this; cases this
    | some i =>
      rw [hi] at this
      simp only [Option.map_some, Option.some.injEq] at this
      simp [zeroValue, typeInfo, hi, this]
  have hg : (getObj g).run Try.prog w = .ok (.map es c) w := by simp [getObj, Sem.run, h1]
  rcases hf with ⟨rfl, hl⟩ | ⟨i, v, rfl, hl, _, _⟩
  · rw [h3] at hl
    constructor <;> simp [Instr.lookup, run_underlying hT.und, hg, ck_pt, hr, hz, mget, hl]
  · rw [h3] at hl
    constructor <;> simp [Instr.lookup, run_underlying hT.und, hg, ck_pt, hr, mget, hl]
theorem lookup_set {k : Int × Int} {v : Value} : ∀ {L : List ((Int × Int) × Value)} {i : Nat} {u : Value}, L[i]? = some (k, u) → ∀ l, (L.set i (k, v)).lookup l = if l = k then (if (L.take i).lookup k = none then some v else (L.take i).lookup k) else L.lookup l
  | [], i, u, h, l => by simp at h
  | x :: L, 0, u, h, l => by
    simp only [List.getElem?_cons_zero, Option.some.injEq] at h
    subst h
    rw [List.set_cons_zero, List.lookup_cons, List.lookup_cons]
    by_cases e : l = k
    · subst e; simp
    · have hb : (l == k) = false := by simpa using e
      rw [hb, if_neg e]
  | (k1, v1) :: L, i + 1, u, h, l => by
    have ih := lookup_set (v := v) (L := L) (i := i) (u := u) (by simpa using h) l
    rw [List.set_cons_succ, List.lookup_cons, List.lookup_cons, List.take_succ_cons, List.lookup_cons, ih]
    by_cases e : l = k1
    · subst e
      simp only [BEq.rfl]
      by_cases e2 : l = k
      · subst e2; simp
      · rw [if_neg e2]
    · have hb : (l == k1) = false := by simpa using e
      rw [hb]
      by_cases e2 : l = k
      · subst e2
        rw [if_pos rfl, if_pos rfl, hb]
      · rw [if_neg e2, if_neg e2]
theorem lookup_snoc {k : Int × Int} {v : Value} : ∀ {L : List ((Int × Int) × Value)}, L.lookup k = none → ∀ l, (L ++ [(k, v)]).lookup l = if l = k then some v else L.lookup l
  | [], _, l => by
    rw [List.nil_append, List.lookup_cons]
    by_cases e : l = k
    · subst e; simp
    · have hb : (l == k) = false := by simpa using e
      rw [hb, if_neg e]
  | (k1, v1) :: L, h, l => by
    have hk : ¬ k = k1 := fun e => by subst e; simp at h
    have hb : (k == k1) = false := by simpa using hk
    rw [List.lookup_cons, hb] at h
    have ih := lookup_snoc (v := v) h l
    rw [List.cons_append, List.lookup_cons, List.lookup_cons, ih]
    by_cases e : l = k1
    · subst e
      have hne : ¬ l = k := fun e => hk e.symm
      simp [hne]
    · have hb2 : (l == k1) = false := by simpa using e
      rw [hb2]
theorem run_upd {t e : TypeId} {z : Value} (hT : MapT Try.prog t e z) {w : World} {g : Nat} {m : Int × Int → Option Value} (h : MapAt w g m) (k : Int × Int) (v : Value) :
    ∃ w', (Instr.mapUpdate t (.map (some g)) (ptv k) v).run Try.prog w = .ok () w' ∧ MapAt w' g (mput m k v) ∧ Keep (fun k => ¬ k = g) w w' := by
  obtain ⟨es, c, L, h1, h2, h3⟩ := h
  obtain ⟨r, hr, hf⟩ := run_findKey_pt k w es.toList L h2
  have hg : (getObj g).run Try.prog w = .ok (.map es c) w := by simp [getObj, Sem.run, h1]
  have hs : ∀ o, (setObj g o).run Try.prog w = .ok () { w with heap := w.heap.setIfInBounds g o } := fun o => by simp [setObj, Sem.run, h1]
  have hgl := lt_of_block h1
  have hk : ∀ o, Keep (fun k => ¬ k = g) w { w with heap := w.heap.setIfInBounds g o } := fun o => ⟨rfl, rfl, rfl, by simp, fun i hi hne => by simp [Ne.symm hne]⟩
  rcases hf with ⟨rfl, hl⟩ | ⟨i, u, rfl, hl, hi, ht⟩
  · refine ⟨{ w with heap := w.heap.setIfInBounds g (.map (es.push ⟨ptv k, v, c⟩) (c + 1)) }, ?_, ⟨es.push ⟨ptv k, v, c⟩, c + 1, L ++ [(k, v)], by simp [hgl], ?_, fun l => ?_⟩, hk _⟩
    · simp only [Instr.mapUpdate, Sem.run_bind, run_underlying hT.und, Result.andThen_ok, hg, ck_pt, hr, hs]
    · have h2' : es.toList.map (fun e => (e.key, e.val)) = L.map (fun x => (ptv x.1, x.2)) := h2
      simp only [EntL, Array.toList_push, List.map_append, h2', List.map_cons, List.map_nil]
    · rw [lookup_snoc hl, mput, h3]
  · have hlen : es.size = L.length := by have := congrArg List.length h2; simpa using this
    have hil : i < L.length := (List.getElem?_eq_some_iff.1 hi).1
    have hie : i < es.size := by omega
    have hkey : es[i].key = ptv k := by
      have h4 := congrArg (fun l => l[i]?) h2
      simp only [List.getElem?_map, hi, Array.getElem?_toList, Array.getElem?_eq_getElem hie, Option.map_some, Option.some.injEq, Prod.mk.injEq] at h4
      exact h4.1
    have hst : (Instr.keyThatStays (ptv k) (ptv k)).run Try.prog w = .ok (ptv k) w := by
      have : Instr.sameBits 10000 (ptv k) (ptv k) = true := by simp [Instr.sameBits]
      simp [Instr.keyThatStays, this]
    refine ⟨{ w with heap := w.heap.setIfInBounds g (.map (es.modify i fun e => { e with key := ptv k, val := v }) c) }, ?_, ⟨es.modify i fun e => { e with key := ptv k, val := v }, c, L.set i (k, v), by simp [hgl], ?_, fun l => ?_⟩, hk _⟩
    · simp only [Instr.mapUpdate, Sem.run_bind, run_underlying hT.und, Result.andThen_ok, hg, ck_pt, hr, Nat.zero_add, Array.getElem?_eq_getElem hie, Option.map_some, Option.getD_some, hkey, hst, hs]
    · unfold EntL
      apply List.ext_getElem?
      intro j
      have h4 := congrArg (fun l => l[j]?) h2
      simp only [List.getElem?_map, Array.getElem?_toList, Array.getElem?_modify, List.getElem?_set] at h4 ⊢
      by_cases e : i = j
      · subst e
        simp [hie, hil]
      · simp only [e, if_false]; exact h4
    · rw [lookup_set hi, ht, if_pos rfl, mput, h3]
section
variable {ops : Array Oper} {Q : Exit → Act → World → Prop} {a : Act} {w w0 : World} {M : Nat → Prop} {cs fx : List (Chunk w0 M)} {f : Chunk w0 M → List (Chunk w0 M)} {rest : List Oper} {d : Option Tmp} {tt t e : TypeId} {pos : String} {af : Array Edge} {gd : Option (Nat × Bool)} {x y z : Operand} {md : Region.Mode} {fuel : Nat} {listed : Array Bool} {late : List Nat} {g : Nat} {i j : Int} {m : Int × Int → Option Value} {v zv : Value}
theorem oK {c : Bool} (k : wpList Try.prog ops Q (⟨d, .lookup t x y c, tt, pos, af, gd⟩ :: rest) a w) : wpList Try.prog ops Q (⟨d, .lookup t x y c, tt, pos, af, gd⟩ :: rest) a w := k
theorem oU (k : wpList Try.prog ops Q (⟨d, .mapUpdate t x y z, tt, pos, af, gd⟩ :: rest) a w) : wpList Try.prog ops Q (⟨d, .mapUpdate t x y z, tt, pos, af, gd⟩ :: rest) a w := k
theorem St.mapAt (h : St w0 M cs w) [hp : PickM g cs m f] : MapAt w g m := (hp.eq ▸ h : St w0 M (f (mpc g m)) w).at_ hp.gap
theorem look_some [hT : MapT Try.prog t e zv] (hx' : oval a x = some (.map (some g))) (hy' : oval a y = some (.agg #[.int .i64 i, .int .i64 j])) (hm : m (i, j) = some v) (h : MapAt w g m) : (execOp a.eval ⟨d, .lookup t x y true, tt, pos, af, gd⟩).run Try.prog w = .ok (.value (.tuple #[v, .bool true])) w := by
  have := (run_look hT h (i, j)).1
  rw [mget, hm] at this
  simp only [execOp, oval_eval hx', oval_eval hy', Sem.run_bind, this, Result.andThen_ok, Sem.run_pure, Option.getD_some, Option.isSome_some]
theorem look_none [hT : MapT Try.prog t e zv] (hx' : oval a x = some (.map (some g))) (hy' : oval a y = some (.agg #[.int .i64 i, .int .i64 j])) (hm : m (i, j) = none) (h : MapAt w g m) : (execOp a.eval ⟨d, .lookup t x y true, tt, pos, af, gd⟩).run Try.prog w = .ok (.value (.tuple #[zv, .bool false])) w := by
  have := (run_look hT h (i, j)).1
  rw [mget, hm] at this
  simp only [execOp, oval_eval hx', oval_eval hy', Sem.run_bind, this, Result.andThen_ok, Sem.run_pure, Option.getD_none, Option.isSome_none]
theorem look_one [hT : MapT Try.prog t e zv] (hx' : oval a x = some (.map (some g))) (hy' : oval a y = some (.agg #[.int .i64 i, .int .i64 j])) (h : MapAt w g m) : (execOp a.eval ⟨d, .lookup t x y false, tt, pos, af, gd⟩).run Try.prog w = .ok (.value (mget m zv (i, j))) w := by
  have := (run_look hT h (i, j)).2
  simp only [execOp, oval_eval hx', oval_eval hy', Sem.run_bind, this, Result.andThen_ok, Sem.run_pure]
theorem sK1 (hS : St w0 M cs w) [hT : MapT Try.prog t e zv] (hw : Region.wanted ⟨d, .lookup t x y true, tt, pos, af, gd⟩ (yielded ops a.tmps) = true) (hx' : oval a x = some (.map (some g))) (hy' : oval a y = some (.agg #[.int .i64 i, .int .i64 j])) [hp : PickM g cs m f] (k : wpList Try.prog ops Q rest (a.put d (.tuple #[v, .bool true])) w) (hm : m (i, j) = some v := by assumption) :
    wpList Try.prog ops Q (⟨d, .lookup t x y true, tt, pos, af, gd⟩ :: rest) a w := st_run hw (look_some hx' hy' hm hS.mapAt) k
theorem sK2 (hS : St w0 M cs w) [hT : MapT Try.prog t e zv] (hw : Region.wanted ⟨d, .lookup t x y true, tt, pos, af, gd⟩ (yielded ops a.tmps) = true) (hx' : oval a x = some (.map (some g))) (hy' : oval a y = some (.agg #[.int .i64 i, .int .i64 j])) [hp : PickM g cs m f] (k : wpList Try.prog ops Q rest (a.put d (.tuple #[zv, .bool false])) w) (hm : m (i, j) = none := by assumption) :
    wpList Try.prog ops Q (⟨d, .lookup t x y true, tt, pos, af, gd⟩ :: rest) a w := st_run hw (look_none hx' hy' hm hS.mapAt) k
theorem sK3 (hS : St w0 M cs w) [hT : MapT Try.prog t e zv] (hw : Region.wanted ⟨d, .lookup t x y false, tt, pos, af, gd⟩ (yielded ops a.tmps) = true) (hx' : oval a x = some (.map (some g))) (hy' : oval a y = some (.agg #[.int .i64 i, .int .i64 j])) [hp : PickM g cs m f] (k : wpList Try.prog ops Q rest (a.put d (mget m zv (i, j))) w) :
    wpList Try.prog ops Q (⟨d, .lookup t x y false, tt, pos, af, gd⟩ :: rest) a w := st_run hw (look_one hx' hy' hS.mapAt) k
/-- a map is written -/
theorem sU1 (hS : St w0 M cs w) [hT : MapT Try.prog t e zv] (hw : Region.wanted ⟨d, .mapUpdate t x y z, tt, pos, af, gd⟩ (yielded ops a.tmps) = true) (hx' : oval a x = some (.map (some g))) (hy' : oval a y = some (.agg #[.int .i64 i, .int .i64 j])) (hz' : oval a z = some v) [hp : PickM g cs m f] (k : ∀ w', St w0 M (f (mpc g (mput m (i, j) v))) w' → wpList Try.prog ops Q rest (a.put d undef) w') :
    wpList Try.prog ops Q (⟨d, .mapUpdate t x y z, tt, pos, af, gd⟩ :: rest) a w := by
  have hS' : St w0 M (f (mpc g m)) w := hp.eq ▸ hS
  obtain ⟨w', h1, h2, h3⟩ := run_upd hT (hS'.at_ hp.gap) (i, j) v
  refine st_skip hw (w' := w') (by simp only [execOp, oval_eval hx', oval_eval hy', oval_eval hz', Sem.run_bind, h1, Result.andThen_ok, Sem.run_pure]) (k w' (hS'.updG hp.gap h3 h2 (fun k e => .inl e)))
/-- a new map -/
theorem sW1 (hS : St w0 M cs w) (hw : Region.wanted ⟨d, .makeMap t none, tt, pos, af, gd⟩ (yielded ops a.tmps) = true) (k : ∀ g w', St w0 M (mpc g (fun _ => none) :: cs) w' → wpList Try.prog ops Q rest (a.put d (.map (some g))) w') :
    wpList Try.prog ops Q (⟨d, .makeMap t none, tt, pos, af, gd⟩ :: rest) a w :=
  st_run hw (w' := w.alloc (.map #[] 0)) (v := .map (some w.heap.size)) (by simp only [execOp, Option.map_none, Sem.run_bind, run_makeMap, Result.andThen_ok, Sem.run_pure]) (k w.heap.size _ (hS.add ((Ext.refl' w).alloc' _) ⟨#[], 0, [], heap_new w _, rfl, fun _ => rfl⟩ (fun k e => Nat.le_of_eq e.symm)))
theorem dK1 [hs : SubC fx cs] (hS : St w0 M cs w) (n : Nat) [hT : MapT Try.prog t e zv] (hi : ops[n]? = some ⟨d, .lookup t x y true, tt, pos, af, gd⟩) (hw : Region.wanted ⟨d, .lookup t x y true, tt, pos, af, gd⟩ (yielded ops a.tmps) = true) (hx' : oval a x = some (.map (some g))) (hy' : oval a y = some (.agg #[.int .i64 i, .int .i64 j])) [hp : PickM g fx m f]
    (h : wpAnyL Try.prog md ops Q (SF w0 M fx) late fuel (listed.setIfInBounds n true) (a.put d (.tuple #[v, .bool true])) w) (hm : m (i, j) = some v := by assumption) (hn : Region.noSelect ops = true := by kernel_rfl) (hf : (Region.free md ops listed n && lateOk md ops late n) = true := by kernel_rfl) (hr : (Region.ready md ops listed).contains n = true := by kernel_rfl) (hQ : ∀ c a v w, Q (.panic c) (a.put d v) w → Q (.panic c) a w := by exact fun _ _ _ _ h => h) :
    wpAnyL Try.prog md ops Q (SF w0 M fx) late (fuel + 1) listed a w :=
  dr_take hS n hi hn hf hr (fun c a w => hQ c a _ w) hw (fun w hw' => look_some hx' hy' hm (hw'.ok (c := mpc g m) (by rw [hp.eq]; exact gap_mem hp.gap))) h
theorem dK2 [hs : SubC fx cs] (hS : St w0 M cs w) (n : Nat) [hT : MapT Try.prog t e zv] (hi : ops[n]? = some ⟨d, .lookup t x y true, tt, pos, af, gd⟩) (hw : Region.wanted ⟨d, .lookup t x y true, tt, pos, af, gd⟩ (yielded ops a.tmps) = true) (hx' : oval a x = some (.map (some g))) (hy' : oval a y = some (.agg #[.int .i64 i, .int .i64 j])) [hp : PickM g fx m f]
    (h : wpAnyL Try.prog md ops Q (SF w0 M fx) late fuel (listed.setIfInBounds n true) (a.put d (.tuple #[zv, .bool false])) w) (hm : m (i, j) = none := by assumption) (hn : Region.noSelect ops = true := by kernel_rfl) (hf : (Region.free md ops listed n && lateOk md ops late n) = true := by kernel_rfl) (hr : (Region.ready md ops listed).contains n = true := by kernel_rfl) (hQ : ∀ c a v w, Q (.panic c) (a.put d v) w → Q (.panic c) a w := by exact fun _ _ _ _ h => h) :
    wpAnyL Try.prog md ops Q (SF w0 M fx) late (fuel + 1) listed a w :=
  dr_take hS n hi hn hf hr (fun c a w => hQ c a _ w) hw (fun w hw' => look_none hx' hy' hm (hw'.ok (c := mpc g m) (by rw [hp.eq]; exact gap_mem hp.gap))) h
theorem dK3 [hs : SubC fx cs] (hS : St w0 M cs w) (n : Nat) [hT : MapT Try.prog t e zv] (hi : ops[n]? = some ⟨d, .lookup t x y false, tt, pos, af, gd⟩) (hw : Region.wanted ⟨d, .lookup t x y false, tt, pos, af, gd⟩ (yielded ops a.tmps) = true) (hx' : oval a x = some (.map (some g))) (hy' : oval a y = some (.agg #[.int .i64 i, .int .i64 j])) [hp : PickM g fx m f]
    (h : wpAnyL Try.prog md ops Q (SF w0 M fx) late fuel (listed.setIfInBounds n true) (a.put d (mget m zv (i, j))) w) (hn : Region.noSelect ops = true := by kernel_rfl) (hf : (Region.free md ops listed n && lateOk md ops late n) = true := by kernel_rfl) (hr : (Region.ready md ops listed).contains n = true := by kernel_rfl) (hQ : ∀ c a v w, Q (.panic c) (a.put d v) w → Q (.panic c) a w := by exact fun _ _ _ _ h => h) :
    wpAnyL Try.prog md ops Q (SF w0 M fx) late (fuel + 1) listed a w :=
  dr_take hS n hi hn hf hr (fun c a w => hQ c a _ w) hw (fun w hw' => look_one hx' hy' (hw'.ok (c := mpc g m) (by rw [hp.eq]; exact gap_mem hp.gap))) h
end
instance : MapT Try.prog 72 37 (.agg #[.int .i64 0, .int .i64 0]) := ⟨Try.underlying72, by kernel_rfl⟩
instance : MapT Try.prog 73 24 (.slice none 0 0) := ⟨Try.underlying73, by kernel_rfl⟩
end Go.Proofs.Ytkflmichekpfbaa

/- Clocks: the clock of a point is the least consistent cut that contains it. No condition. -/
namespace Go.Proofs.Ytkflmichekpfbaa
set_option linter.unusedVariables false
set_option linter.unusedSimpArgs false

/-- c is the clock of event k of process q -/
structure IsClk (p : Pat) (q : Nat) (k : Int) (c : List Int) : Prop where
  v : validB p.len c = true
  s : consB p.arcs c = true
  e : nth c q = k
  l : ∀ z, validB p.len z = true → consB p.arcs z = true → k ≤ nth z q → Le p.len.length c z
theorem le_antisymm {n : Nat} {x y : List Int} (hx : x.length = n) (hy : y.length = n) (h1 : Le n x y) (h2 : Le n y x) : x = y := by
  apply List.ext_getElem (by omega)
  intro i hi hj
  have a := h1 i (by omega)
  have b := h2 i (by omega)
  rw [nth_eq hi, nth_eq hj] at a b
  omega
theorem IsClk.len {p : Pat} {q : Nat} {k : Int} {c : List Int} (h : IsClk p q k c) : c.length = p.len.length := (valid_iff.1 h.v).1
theorem IsClk.unique {p : Pat} {q : Nat} {k : Int} {c d : List Int} (h : IsClk p q k c) (h' : IsClk p q k d) : c = d :=
  le_antisymm h.len h'.len (h.l d h'.v h'.s (by rw [h'.e]; omega)) (h'.l c h.v h.s (by rw [h.e]; omega))
/-- the cut of all points of rank at most R -/
def rankCut (len : List Int) (rk : Nat → Int → Nat) (R : Nat) : List Int := (List.range len.length).map fun q => (((List.range (nth len q).toNat).filter fun (j : Nat) => decide (rk q ((j : Int) + 1) ≤ R)).length : Int)
theorem rankCut_nth {len : List Int} {rk : Nat → Int → Nat} {R q : Nat} (hq : q < len.length) : nth (rankCut len rk R) q = (((List.range (nth len q).toNat).filter fun (j : Nat) => decide (rk q ((j : Int) + 1) ≤ R)).length : Int) := by
  rw [nth_eq (by simpa [rankCut] using hq)]
  simp [rankCut]
/-- of a rising predicate's complement: the first ones -/
theorem filter_down {P : Nat → Bool} : ∀ (n : Nat), (∀ i j, i ≤ j → j < n → P j = true → P i = true) → ∀ i, i < n → (P i = true ↔ i < ((List.range n).filter P).length)
  | 0, _, i, hi => absurd hi (by omega)
  | n + 1, hd, i, hi => by
    have ih := filter_down n (fun i j h1 h2 h3 => hd i j h1 (by omega) h3)
    have hle : ((List.range n).filter P).length ≤ n := by have := List.length_filter_le P (List.range n); simpa using this
    rw [List.range_succ, List.filter_append, List.length_append]
    by_cases hP : P n = true
    · have hall : ((List.range n).filter P).length = n := by
        rw [List.filter_eq_self.2 (fun j hj => hd j n (by have := List.mem_range.1 hj; omega) (by omega) hP)]; simp
      have h1 := hd i n (by omega) (by omega) hP
      simp [hP, h1, hall]; omega
    · have hP' : P n = false := by simpa using hP
      have h0 : (List.filter P [n]).length = 0 := by simp [hP']
      rw [h0, Nat.add_zero]
      rcases Nat.lt_succ_iff_lt_or_eq.1 hi with h | h
      · exact ih i h
      · subst h
        rw [hP']
        constructor
        · intro h; cases h
        · intro h; omega
section
variable {p : Pat} {rk : Nat → Int → Nat}
theorem rank_mono (hr : Ranked p.len.length p.len p.arcs rk) {q : Nat} (hq : q < p.len.length) : ∀ (d : Nat) (i : Int), 0 ≤ i → i + d ≤ nth p.len q → rk q i ≤ rk q (i + d)
  | 0, i, _, _ => by simp
  | d + 1, i, h0, h => by
    have h1 := rank_mono hr hq d i h0 (by omega)
    have h2 := hr.1 q hq (i + d) (by omega) (by omega)
    have e : i + (d : Int) + 1 = i + ((d + 1 : Nat) : Int) := by omega
    rw [e] at h2; omega
theorem rankCut_iff (hg : Good p) (hr : Ranked p.len.length p.len p.arcs rk) (R : Nat) {q : Nat} (hq : q < p.len.length) {k : Int} (h1 : 1 ≤ k) (hk : k ≤ nth p.len q) : k ≤ nth (rankCut p.len rk R) q ↔ rk q k ≤ R := by
  rw [rankCut_nth hq]
  have hd := filter_down (P := fun (j : Nat) => decide (rk q ((j : Int) + 1) ≤ R)) (nth p.len q).toNat (fun i j h2 h3 h4 => by
    have h5 := rank_mono hr hq (j - i) ((i : Int) + 1) (by omega) (by omega)
    rw [show (i : Int) + 1 + ((j - i : Nat) : Int) = (j : Int) + 1 by omega] at h5
    simp at h4 ⊢; omega) (k - 1).toNat (by omega)
  rw [show (((k - 1).toNat : Int)) + 1 = k by omega] at hd
  simp only [decide_eq_true_eq] at hd
  rw [hd]; omega
theorem rankCut_good (hg : Good p) (hr : Ranked p.len.length p.len p.arcs rk) (R : Nat) : validB p.len (rankCut p.len rk R) = true ∧ consB p.arcs (rankCut p.len rk R) = true := by
  have hb : ∀ q, q < p.len.length → 0 ≤ nth (rankCut p.len rk R) q ∧ nth (rankCut p.len rk R) q ≤ nth p.len q := fun q hq => by
    rw [rankCut_nth hq]
    have := List.length_filter_le (fun (j : Nat) => decide (rk q ((j : Int) + 1) ≤ R)) (List.range (nth p.len q).toNat)
    have h0 := hg.lo q hq
    simp at this
    omega
  refine ⟨valid_iff.2 ⟨by simp [rankCut], hb⟩, cons_iff.2 fun a ha h1 h2 => ?_⟩
  have ho := hg.arc a ha
  have h3 := (rankCut_iff hg hr R ho.to (by omega) ho.at1).1 h2
  have h4 := hr.2 a ha (by omega)
  by_cases h0 : 1 ≤ a.ix
  · exact (rankCut_iff hg hr R ho.fr h0 ho.ix1).2 (by omega)
  · have := (hb a.fr ho.fr).1
    have := ho.ix0
    omega
/-- a point of lower rank has not seen one of higher rank -/
theorem IsClk.below (hg : Good p) (hr : Ranked p.len.length p.len p.arcs rk) {s q : Nat} {j k : Int} {c : List Int} (h : IsClk p s j c) (hs : s < p.len.length) (hj : 0 ≤ j) (hj' : j ≤ nth p.len s) (hq : q < p.len.length) (hk : 1 ≤ k) (hk' : k ≤ nth p.len q) (hlt : rk s j < rk q k) : nth c q < k := by
  obtain ⟨h1, h2⟩ := rankCut_good hg hr (rk s j)
  have h3 : j ≤ nth (rankCut p.len rk (rk s j)) s := by
    by_cases h0 : 1 ≤ j
    · exact (rankCut_iff hg hr _ hs h0 hj').2 (Nat.le_refl _)
    · have := ((valid_iff.1 h1).2 s hs).1; omega
  have h4 := h.l _ h1 h2 h3 q hq
  have h5 := rankCut_iff hg hr (rk s j) hq hk hk'
  omega
/-- where the message came from that an event received -/
def srcF (az : List Arc) (k : Int × Int) : Option (Nat × Int) := (az.reverse.find? (fun a => decide (a.at_ ≠ 0) && decide (((a.to : Int), a.at_) = k))).map fun a => (a.fr, a.ix)
theorem clk_zero (hg : Good p) {q : Nat} (hq : q < p.len.length) : IsClk p q 0 (List.replicate p.len.length 0) :=
  ⟨valid_zero hg, cons_zero hg, by rw [nth_rep], fun z hz _ _ => fun k hk => by rw [nth_rep]; exact ((valid_iff.1 hz).2 k hk).1⟩
/-- the clock behind an event that received nothing -/
theorem clk_step (hg : Good p) {q : Nat} {k : Int} {c : List Int} (hq : q < p.len.length) (hk : 1 ≤ k) (hk' : k ≤ nth p.len q) (h : IsClk p q (k - 1) c) (hn : ∀ a ∈ p.arcs, a.to = q → a.at_ ≠ k) : IsClk p q k (c.set q k) := by
  obtain ⟨hl, hb⟩ := valid_iff.1 h.v
  have hn' : ∀ r, nth (c.set q k) r = if q = r then k else nth c r := fun r => nth_set (by omega) k
  refine ⟨valid_iff.2 ⟨by simpa using hl, fun r hr => ?_⟩, cons_iff.2 fun a ha h1 h2 => ?_, by rw [hn', if_pos rfl], fun z hz hc hzk => fun r hr => ?_⟩
  · have := hb r hr
    rw [hn']; split
    · rename_i e; subst e; omega
    · exact this
  · have ho := hg.arc a ha
    have hq' := h.e
    have h3 := cons_iff.1 h.s a ha h1
    rw [hn'] at h2 ⊢
    split at h2
    · rename_i e
      have h4 := hn a ha e.symm
      have h5 := h3 (by rw [← e]; omega)
      rw [if_neg (fun e2 => ho.ne (e2.symm.trans e))]; exact h5
    · have h5 := h3 h2
      split
      · rename_i e; rw [← e] at h5; omega
      · exact h5
  · rw [hn']; split
    · rename_i e; subst e; exact hzk
    · exact h.l z hz hc (by omega) r hr
/-- the clock behind an event that received a message -/
theorem clk_recv (hg : Good p) (hr : Ranked p.len.length p.len p.arcs rk) {q : Nat} {k : Int} {c d : List Int} {a : Arc} (ha : a ∈ p.arcs) (hto : a.to = q) (hat : a.at_ = k) (hk : 1 ≤ k) (h : IsClk p q (k - 1) c) (h' : IsClk p a.fr a.ix d) : IsClk p q k ((List.zipWith max c d).set q k) := by
  have ho := hg.arc a ha
  have hq : q < p.len.length := by rw [← hto]; exact ho.to
  have hk' : k ≤ nth p.len q := by rw [← hto, ← hat]; exact ho.at1
  have hdq : nth d q < k := h'.below hg hr ho.fr ho.ix0 ho.ix1 hq hk hk' (by have := hr.2 a ha (by omega); rw [hto, hat] at this; exact this)
  have hj := join_good hg h.v h'.v h.s h'.s
  have hcd : c.length = d.length := by rw [h.len, h'.len]
  have hz : zipI max c d = List.zipWith max c d := by simp [zipI, hcd]
  rw [hz] at hj
  have hnj : ∀ r, r < p.len.length → nth (List.zipWith max c d) r = max (nth c r) (nth d r) := fun r hr => by rw [← hz]; exact zipI_nth hcd (by rw [h'.len]; exact hr)
  have hlz : (List.zipWith max c d).length = p.len.length := by simp [h.len, h'.len]
  have hn' : ∀ r, nth ((List.zipWith max c d).set q k) r = if q = r then k else nth (List.zipWith max c d) r := fun r => nth_set (by omega) k
  refine ⟨valid_iff.2 ⟨by simpa using hlz, fun r hr => ?_⟩, cons_iff.2 fun b hb h1 h2 => ?_, by rw [hn', if_pos rfl], fun z hz' hc hzk => fun r hr' => ?_⟩
  · rw [hn']; split
    · rename_i e; subst e; omega
    · exact (valid_iff.1 hj.1).2 r hr
  · have hob := hg.arc b hb
    have h3 := cons_iff.1 hj.2.1 b hb h1
    rw [hn'] at h2 ⊢
    split at h2
    · rename_i e
      rw [if_neg (fun e2 => hob.ne (e2.symm.trans e))]
      by_cases hbk : b.at_ = k
      · have hba : b.fr = a.fr ∧ b.ix = a.ix := by
          obtain ⟨i, hi, rfl⟩ := List.getElem_of_mem ha
          obtain ⟨j, hj', rfl⟩ := List.getElem_of_mem hb
          rcases Nat.lt_trichotomy i j with hlt | rfl | hlt
          · have := hg.uniq i j hi hj' hlt (by rw [hto, e]) (by rw [hat, hbk]); omega
          · exact ⟨rfl, rfl⟩
          · have := hg.uniq j i hj' hi hlt (by rw [hto, e]) (by rw [hat, hbk]); omega
        rw [hnj _ hob.fr, hba.1, hba.2]
        have := h'.e
        omega
      · refine h3 ?_
        rw [hnj _ hob.to, ← e]
        have := h.e
        omega
    · have h5 := h3 h2
      split
      · rename_i e
        rw [hnj _ hob.fr, ← e] at h5
        have := h.e
        omega
      · exact h5
  · rw [hn']; split
    · rename_i e; subst e; exact hzk
    · rw [hnj r hr']
      have h6 := h.l z hz' hc (by omega) r hr'
      have h7 := h'.l z hz' hc (cons_iff.1 hc a ha (by omega) (by rw [hto, hat]; exact hzk)) r hr'
      omega
end
end Go.Proofs.Ytkflmichekpfbaa

/- causal: fits, raise, newHistory. Conditions: the pattern is good and lies in memory, the points are points of it. -/
namespace Go.Proofs.Ytkflmichekpfbaa
open Go.RowKit
set_option linter.unusedVariables false
set_option linter.unusedSimpArgs false

def ptCells (a : Nat × Int) : List Value := [.int .i64 (a.1 : Int), .int .i64 a.2]
def repPt (w : World) (cs : List Value) (a : Nat × Int) : Prop := cs = ptCells a
def RPt (S : Nat → Prop) (w : World) (A : Option Addr) (l : List (Nat × Int)) : Prop := RL repPt 2 S w A l
theorem RPt.into {S S' : Nat → Prop} {w w' : World} {A : Option Addr} {l : List (Nat × Int)} (h : RPt S w A l) (k : Into S S' w w') : RPt S' w' A l := RL.into h k (fun _ _ h => h)
theorem RPt.fcs {S : Nat → Prop} {w : World} {A : Option Addr} {l : List (Nat × Int)} (h : RPt S w A l) {k : Nat} (hk : k < l.length) : ∃ b o, A = some ⟨b, o, none⟩ ∧ S b ∧ Cells w b (o + k * 2) (ptCells l[k]) := by
  obtain ⟨vs, hv, hr⟩ := h
  obtain ⟨cs, hcl, hcs, hat⟩ := hr.at_ hk
  unfold repPt at hcs
  subst hcs
  have h0 := hat 0 (by omega)
  obtain ⟨b, o, e, ht, _⟩ := hv (k * 2 + 0) _ (h0.trans (by simp [ptCells]; rfl))
  refine ⟨b, o, e, ht, fun i x hi => ?_⟩
  have hi2 : i < 2 := by
    have := (List.getElem?_eq_some_iff.1 hi).1
    simpa [ptCells] using this
  obtain ⟨b', o', e', _, hc⟩ := hv (k * 2 + i) x ((hat i hi2).trans hi)
  rw [e] at e'
  injection e' with e'; injection e' with e1 e2
  subst e1; subst e2
  rw [Nat.add_assoc]; exact hc
/-- a point of a pattern -/
abbrev PtOk (p : Pat) (a : Nat × Int) : Prop := a.1 < p.len.length ∧ 0 ≤ a.2 ∧ a.2 ≤ nth p.len a.1

set_option maxHeartbeats 1600000 in
theorem cfits_any {S T : Nat → Prop} (v : PV) (X : Option Addr) (c : Nat) (p : Pat) (l : List (Nat × Int)) (w0 : World) (hp : PatAt S w0 v p) (hg : Good p) (hx : RPt T w0 X l) (hv : ∀ a ∈ l, PtOk p a) (hll : l.length ≤ 1000000) :
    Calls Try.prog 62 #[v.val p, .slice X l.length c] w0 fun e w' => e = .returned (.bool true) ∧ Ext w0 w' := by
  have hS := St.start w0 NoM
  have hn5 := hg.n5
  have HP := Lib.hid (And.intro hp (And.intro hg hv))
  have h1 := hp.len
  clear hp hg hv
  obtain ⟨A1, c1, A2, c2, A3, c3⟩ := v
  simp only [PV.val] at *
  go_enter Try.func62, Try.ntmps62
  go_wp2_with (first | (go_at_call 80; refine (check_good ⟨A1, c1, A2, c2, A3, c3⟩ p _ (HP.out.1.ext hS.toExt) HP.out.2.1).mono ?_; rintro e w ⟨rfl, hx1⟩; replace hS := hS.ext hx1) | (refine oL ?_; (first | refine sL1 hS rfl rfl rfl ?_ | refine sL2 hS rfl rfl rfl ?_ | refine sL3 hS rfl rfl ?_ | refine sL4 hS rfl rfl ?_ | refine sL5 hS rfl rfl ?_ | refine sL6 hS rfl rfl ?_ | refine sL7 hS rfl rfl ?_)) | (refine oS ?_; ((first | refine sS1 hS rfl rfl rfl ?_ | refine sS2 hS rfl rfl rfl ?_ | refine sS3 hS rfl rfl rfl ?_ | refine sS4 hS rfl rfl rfl ?_ | refine sS5 hS rfl rfl rfl ?_); clear hS; intro w hS)) | ((first | (refine oB ?_; first | refine sB1 hS rfl rfl ?_ | refine sB2 hS rfl rfl ?_) | refine sN1 hS rfl ?_); clear hS; first | ((fail_if_success guard_hyp g1); intro g1 w hS) | ((fail_if_success guard_hyp g2); intro g2 w hS) | ((fail_if_success guard_hyp g3); intro g3 w hS) | fail) | fail)
  go_loopw [12] (fun i wr => ∃ k : Nat, k ≤ l.length ∧ i = .int .i64 k ∧ St w0 NoM [blk g1 [.slice A1 p.len.length c1, .slice A2 p.ck.length c2, .slice A3 p.arcs.length c3] 28] wr) (fun i _ => l.length - (intOf i).toNat)
  case atStart => exact ⟨0, Nat.zero_le _, rfl, hS⟩
  case round =>
    obtain ⟨k, hk, rfl, hS⟩ := hrel
    by_cases hlt : k < l.length
    · obtain ⟨b2, o2, rfl, _, hcs⟩ := hx.fcs hlt
      have ho := HP.out.2.2 _ (List.getElem_mem hlt)
      generalize l[k] = a at *
      obtain ⟨q, ix⟩ := a
      obtain ⟨hq, hi0, hi1⟩ := ho
      simp only [ptCells] at *
      obtain ⟨b1, o1, rfl, _, hca⟩ := h1.atNS hq
      generalize nth p.len q = m at *
      have hq' : (q : Int) < p.len.length := by omega
      have d1 : decide ((p.len.length : Int) ≤ (q : Int)) = false := by simp; omega
      have d1' : decide (p.len.length ≤ q) = false := by simp; omega
      have d2 : decide (ix < 0) = false := by simp; omega
      have d3 : decide (m < ix) = false := by simp; omega
      go_wp2_with (first | (refine oL ?_; (first | refine sL1 hS rfl rfl rfl ?_ | refine sL2 hS rfl rfl rfl ?_ | refine sL3 hS rfl rfl ?_ | refine sL4 hS rfl rfl ?_ | refine sL5 hS rfl rfl ?_ | refine sL6 hS rfl rfl ?_ | refine sL7 hS rfl rfl ?_)) | (refine oS ?_; ((first | refine sS1 hS rfl rfl rfl ?_ | refine sS2 hS rfl rfl rfl ?_ | refine sS3 hS rfl rfl rfl ?_ | refine sS4 hS rfl rfl rfl ?_ | refine sS5 hS rfl rfl rfl ?_); clear hS; intro w hS)) | ((first | (refine oB ?_; first | refine sB1 hS rfl rfl ?_ | refine sB2 hS rfl rfl ?_) | refine sN1 hS rfl ?_); clear hS; first | ((fail_if_success guard_hyp g1); intro g1 w hS) | ((fail_if_success guard_hyp g2); intro g2 w hS) | ((fail_if_success guard_hyp g3); intro g3 w hS) | fail) | fail)
      refine dr_start0 []  hS (by kernel_rfl) rfl ?_; clear hS; intro w hS
      refine dP hS 0 rfl rfl ?_
      (try simp only [Act.put, nA, nB, nC])
      first | refine dL1 hS 1 rfl rfl rfl rfl ?_ | refine dL2 hS 1 rfl rfl rfl rfl ?_ | refine dL3 hS 1 rfl rfl rfl ?_ | refine dL4 hS 1 rfl rfl rfl ?_ | refine dL5 hS 1 rfl rfl rfl ?_ | refine dL6 hS 1 rfl rfl rfl ?_ | refine dL7 hS 1 rfl rfl rfl ?_
      (try simp only [Act.put, nA, nB, nC])
      refine dP hS 2 rfl rfl ?_
      (try simp only [Act.put, nA, nB, nC])
      refine dM hS 3 rfl rfl rfl ?_
      (try simp only [Act.put, nA, nB, nC])
      first | refine dP hS 4 rfl rfl ?_ | refine dQ hS 4 rfl rfl ?_
      (try simp only [Act.put, nA, nB, nC])
      first | refine dL1 hS 5 rfl rfl rfl rfl ?_ | refine dL2 hS 5 rfl rfl rfl rfl ?_ | refine dL3 hS 5 rfl rfl rfl ?_ | refine dL4 hS 5 rfl rfl rfl ?_ | refine dL5 hS 5 rfl rfl rfl ?_ | refine dL6 hS 5 rfl rfl rfl ?_ | refine dL7 hS 5 rfl rfl rfl ?_ | refine dQ hS 5 rfl rfl ?_
      (try simp only [Act.put, nA, nB, nC])
      first | refine dP hS 6 rfl rfl ?_ | refine dQ hS 6 rfl rfl ?_
      (try simp only [Act.put, nA, nB, nC])
      first | refine dL1 hS 7 rfl rfl rfl rfl ?_ | refine dL2 hS 7 rfl rfl rfl rfl ?_ | refine dL3 hS 7 rfl rfl rfl ?_ | refine dL4 hS 7 rfl rfl rfl ?_ | refine dL5 hS 7 rfl rfl rfl ?_ | refine dL6 hS 7 rfl rfl rfl ?_ | refine dL7 hS 7 rfl rfl rfl ?_ | refine dQ hS 7 rfl rfl ?_
      (try simp only [Act.put, nA, nB, nC])
      first | refine dP hS 8 rfl rfl ?_ | refine dQ hS 8 rfl rfl ?_
      (try simp only [Act.put, nA, nB, nC])
      first | refine dP hS 9 rfl rfl ?_ | refine dQ hS 9 rfl rfl ?_
      (try simp only [Act.put, nA, nB, nC])
      refine dP hS 10 rfl rfl ?_
      (try simp only [Act.put, nA, nB, nC])
      refine dM hS 11 rfl rfl rfl ?_
      (try simp only [Act.put, nA, nB, nC])
      first | refine dP hS 12 rfl rfl ?_ | refine dQ hS 12 rfl rfl ?_
      (try simp only [Act.put, nA, nB, nC])
      first | refine dL1 hS 13 rfl rfl rfl rfl ?_ | refine dL2 hS 13 rfl rfl rfl rfl ?_ | refine dL3 hS 13 rfl rfl rfl ?_ | refine dL4 hS 13 rfl rfl rfl ?_ | refine dL5 hS 13 rfl rfl rfl ?_ | refine dL6 hS 13 rfl rfl rfl ?_ | refine dL7 hS 13 rfl rfl rfl ?_ | refine dQ hS 13 rfl rfl ?_
      (try simp only [Act.put, nA, nB, nC])
      first | refine dP hS 14 rfl rfl ?_ | refine dQ hS 14 rfl rfl ?_
      (try simp only [Act.put, nA, nB, nC])
      refine dP hS 15 rfl rfl ?_
      (try simp only [Act.put, nA, nB, nC])
      refine dM hS 16 rfl rfl rfl ?_
      (try simp only [Act.put, nA, nB, nC])
      first | refine dP hS 17 rfl rfl ?_ | refine dQ hS 17 rfl rfl ?_
      (try simp only [Act.put, nA, nB, nC])
      first | refine dL1 hS 18 rfl rfl rfl rfl ?_ | refine dL2 hS 18 rfl rfl rfl rfl ?_ | refine dL3 hS 18 rfl rfl rfl ?_ | refine dL4 hS 18 rfl rfl rfl ?_ | refine dL5 hS 18 rfl rfl rfl ?_ | refine dL6 hS 18 rfl rfl rfl ?_ | refine dL7 hS 18 rfl rfl rfl ?_ | refine dQ hS 18 rfl rfl ?_
      (try simp only [Act.put, nA, nB, nC])
      first | refine dP hS 19 rfl rfl ?_ | refine dQ hS 19 rfl rfl ?_
      (try simp only [Act.put, nA, nB, nC])
      first | refine dL1 hS 20 rfl rfl rfl rfl ?_ | refine dL2 hS 20 rfl rfl rfl rfl ?_ | refine dL3 hS 20 rfl rfl rfl ?_ | refine dL4 hS 20 rfl rfl rfl ?_ | refine dL5 hS 20 rfl rfl rfl ?_ | refine dL6 hS 20 rfl rfl rfl ?_ | refine dL7 hS 20 rfl rfl rfl ?_ | refine dQ hS 20 rfl rfl ?_
      (try simp only [Act.put, nA, nB, nC])
      first | refine dP hS 21 rfl rfl ?_ | refine dQ hS 21 rfl rfl ?_
      (try simp only [Act.put, nA, nB, nC])
      first | refine dL1 hS 22 rfl rfl rfl rfl ?_ | refine dL2 hS 22 rfl rfl rfl rfl ?_ | refine dL3 hS 22 rfl rfl rfl ?_ | refine dL4 hS 22 rfl rfl rfl ?_ | refine dL5 hS 22 rfl rfl rfl ?_ | refine dL6 hS 22 rfl rfl rfl ?_ | refine dL7 hS 22 rfl rfl rfl ?_ | refine dQ hS 22 rfl rfl ?_
      (try simp only [Act.put, nA, nB, nC])
      first | refine dP hS 23 rfl rfl ?_ | refine dQ hS 23 rfl rfl ?_
      (try simp only [Act.put, nA, nB, nC])
      first | refine dL1 hS 24 rfl rfl rfl rfl ?_ | refine dL2 hS 24 rfl rfl rfl rfl ?_ | refine dL3 hS 24 rfl rfl rfl ?_ | refine dL4 hS 24 rfl rfl rfl ?_ | refine dL5 hS 24 rfl rfl rfl ?_ | refine dL6 hS 24 rfl rfl rfl ?_ | refine dL7 hS 24 rfl rfl rfl ?_ | refine dQ hS 24 rfl rfl ?_
      (try simp only [Act.put, nA, nB, nC])
      first | refine dP hS 25 rfl rfl ?_ | refine dQ hS 25 rfl rfl ?_
      (try simp only [Act.put, nA, nB, nC])
      refine dP hS 26 rfl rfl ?_
      (try simp only [Act.put, nA, nB, nC])
      refine dr_done (by kernel_rfl) ?_
      go_wp2_with (first | (refine oL ?_; (first | refine sL1 hS rfl rfl rfl ?_ | refine sL2 hS rfl rfl rfl ?_ | refine sL3 hS rfl rfl ?_ | refine sL4 hS rfl rfl ?_ | refine sL5 hS rfl rfl ?_ | refine sL6 hS rfl rfl ?_ | refine sL7 hS rfl rfl ?_)) | (refine oS ?_; ((first | refine sS1 hS rfl rfl rfl ?_ | refine sS2 hS rfl rfl rfl ?_ | refine sS3 hS rfl rfl rfl ?_ | refine sS4 hS rfl rfl rfl ?_ | refine sS5 hS rfl rfl rfl ?_); clear hS; intro w hS)) | ((first | (refine oB ?_; first | refine sB1 hS rfl rfl ?_ | refine sB2 hS rfl rfl ?_) | refine sN1 hS rfl ?_); clear hS; first | ((fail_if_success guard_hyp g1); intro g1 w hS) | ((fail_if_success guard_hyp g2); intro g2 w hS) | ((fail_if_success guard_hyp g3); intro g3 w hS) | fail) | fail)
      go_roundw
      case measure => simp [intOf]; omega
      exact ⟨k + 1, by omega, by go_num, hS.re⟩
    · go_wp2_with (first | (refine oL ?_; (first | refine sL1 hS rfl rfl rfl ?_ | refine sL2 hS rfl rfl rfl ?_ | refine sL3 hS rfl rfl ?_ | refine sL4 hS rfl rfl ?_ | refine sL5 hS rfl rfl ?_ | refine sL6 hS rfl rfl ?_ | refine sL7 hS rfl rfl ?_)) | (refine oS ?_; ((first | refine sS1 hS rfl rfl rfl ?_ | refine sS2 hS rfl rfl rfl ?_ | refine sS3 hS rfl rfl rfl ?_ | refine sS4 hS rfl rfl rfl ?_ | refine sS5 hS rfl rfl rfl ?_); clear hS; intro w hS)) | ((first | (refine oB ?_; first | refine sB1 hS rfl rfl ?_ | refine sB2 hS rfl rfl ?_) | refine sN1 hS rfl ?_); clear hS; first | ((fail_if_success guard_hyp g1); intro g1 w hS) | ((fail_if_success guard_hyp g2); intro g2 w hS) | ((fail_if_success guard_hyp g3); intro g3 w hS) | fail) | fail)
      go_ret
      exact ⟨rfl, hS.toExt⟩

/-- the state at the entry of a function that writes a row of its caller -/
theorem St.startRow {w : World} {e : TypeId} {sz n g c : Nat} {vs : List Value} (h : w.ownsRow 0 e sz (.slice (some ⟨g, 0, none⟩) n c) n vs) : St w (fun k => k = g) [row (.slice (some ⟨g, 0, none⟩) n c) e sz n vs] w := by
  refine ⟨Keep.refl _ _, ?_, ?_, by simp⟩
  · intro c hc
    rw [List.mem_singleton.1 hc]; exact h
  · intro c hc k hk
    rw [List.mem_singleton.1 hc] at hk
    injection hk with hk
    exact .inr hk.symm
theorem max_fill {cs ds : List Int} (hl : ds.length = cs.length) {k : Nat} (hk : k < cs.length) :
    ((List.zipWith max cs ds).take k ++ cs.drop k).set k (max (nth cs k) (nth ds k)) = (List.zipWith max cs ds).take (k + 1) ++ cs.drop (k + 1) := by
  have hlt : ((List.zipWith max cs ds).take k).length = k := by simp; omega
  rw [zipWith_take_succ max hk (by omega), List.append_assoc, List.set_append_right _ _ (by omega), hlt, Nat.sub_self, List.drop_eq_getElem_cons hk, List.set_cons_zero]
  rfl
theorem max_fill_at {cs ds : List Int} (hl : ds.length = cs.length) {k : Nat} (hk : k < cs.length) : (ints ((List.zipWith max cs ds).take k ++ cs.drop k))[k]? = some (.int .i64 (nth cs k)) := by
  have hlt : ((List.zipWith max cs ds).take k).length = k := by simp; omega
  rw [ints, List.getElem?_map, List.getElem?_append_right (by omega), hlt, Nat.sub_self, List.getElem?_drop, Nat.add_zero, List.getElem?_eq_getElem hk, nth_eq hk]
  rfl
set_option maxHeartbeats 1600000 in
theorem raise_row {S : Nat → Prop} (g cp cd : Nat) (D : Option Addr) (cs ds : List Int) (w0 : World) (ho : w0.ownsRow 0 3 1 (.slice (some ⟨g, 0, none⟩) cs.length cp) cs.length (ints cs)) (hd : RI S w0 D ds) (hS0 : ∀ k, S k → k ≠ g) (hl : ds.length = cs.length) (hn : cs.length ≤ 1000) :
    Calls Try.prog 67 #[.slice (some ⟨g, 0, none⟩) cs.length cp, .slice D cs.length cd] w0 fun e w' => e = .returned (.tuple #[]) ∧ Keep (fun k => ¬ k = g) w0 w' ∧ w'.ownsRow 0 3 1 (.slice (some ⟨g, 0, none⟩) cs.length cp) cs.length (ints (List.zipWith max cs ds)) := by
  have hS := St.startRow ho
  have HL := Lib.hid hl
  clear hl ho
  go_enter Try.func67, Try.ntmps67
  go_wp2_with (fail)
  go_loopw [7] (fun s7 wr => ∃ (k : Nat) (zs : List Int), k ≤ cs.length ∧ zs.length = cs.length ∧ Hid (zs = (List.zipWith max cs ds).take k ++ cs.drop k) ∧ s7 = .int .i64 k ∧ St w0 (fun k => k = g) [row (.slice (some ⟨g, 0, none⟩) cs.length cp) 3 1 cs.length (ints zs)] wr) (fun s7 _ => cs.length - (intOf s7).toNat)
  case atStart => exact ⟨0, cs, by omega, rfl, Lib.hid (by simp), rfl, hS⟩
  case round =>
    obtain ⟨k, zs, hk, hzl, HZ, rfl, hS⟩ := hrel
    by_cases hlt : k < cs.length
    · obtain ⟨b2, o2, rfl, hsb, hcb⟩ := hd.atNS (k := k) (by rw [HL.out]; exact hlt)
      have hbg := hS0 b2 hsb
      have HF := Lib.hid (max_fill HL.out hlt)
      have hcell := max_fill_at HL.out hlt
      rw [← HZ.out] at hcell
      clear hS0 hsb
      generalize nth cs k = y at *
      generalize nth ds k = m at *
      by_cases h0 : y < m
      all_goals
        go_wp2_with (fail)
        refine dr_start0 [12]  hS (by kernel_rfl) rfl ?_; clear hS; intro w hS
        refine dM hS 0 rfl rfl rfl ?_
        (try simp only [Act.put, nA, nB, nC])
        refine dM hS 1 rfl rfl rfl ?_
        (try simp only [Act.put, nA, nB, nC])
        refine dM hS 2 rfl rfl rfl ?_
        (try simp only [Act.put, nA, nB, nC])
        refine dM hS 3 rfl rfl rfl ?_
        (try simp only [Act.put, nA, nB, nC])
        refine dP hS 4 rfl rfl ?_
        (try simp only [Act.put, nA, nB, nC])
        first | refine dL1 hS 5 rfl rfl rfl rfl ?_ | refine dL2 hS 5 rfl rfl rfl rfl ?_ | refine dL3 hS 5 rfl rfl rfl ?_ | refine dL4 hS 5 rfl rfl rfl ?_ | refine dL5 hS 5 rfl rfl rfl ?_ | refine dL6 hS 5 rfl rfl rfl ?_ | refine dL7 hS 5 rfl rfl rfl ?_
        (try simp only [Act.put, nA, nB, nC])
        refine dM hS 6 rfl rfl rfl ?_
        (try simp only [Act.put, nA, nB, nC])
        refine dM hS 7 rfl rfl rfl ?_
        (try simp only [Act.put, nA, nB, nC])
        refine dP hS 8 rfl rfl ?_
        (try simp only [Act.put, nA, nB, nC])
        first | refine dL1 hS 9 rfl rfl rfl rfl ?_ | refine dL2 hS 9 rfl rfl rfl rfl ?_ | refine dL3 hS 9 rfl rfl rfl ?_ | refine dL4 hS 9 rfl rfl rfl ?_ | refine dL5 hS 9 rfl rfl rfl ?_ | refine dL6 hS 9 rfl rfl rfl ?_ | refine dL7 hS 9 rfl rfl rfl ?_
        (try simp only [Act.put, nA, nB, nC])
        refine dP hS 10 rfl rfl ?_
        (try simp only [Act.put, nA, nB, nC])
        refine dP hS 11 rfl rfl ?_
        (try simp only [Act.put, nA, nB, nC])
        refine dr_one 12 (by kernel_rfl) rfl ?_
        ((first | refine sS1 hS rfl rfl rfl ?_ | refine sS2 hS rfl rfl rfl ?_ | refine sS3 hS rfl rfl rfl ?_ | refine sS4 hS rfl rfl rfl ?_ | refine sS5 hS rfl rfl rfl ?_); clear hS; intro w hS)
        (try simp only [Act.put, nA, nB, nC])
        refine dr_late (by kernel_rfl) ?_
        refine dr_done (by kernel_rfl) ?_
        go_wp2_with (fail)
        go_roundw
        case measure => simp [intOf]; omega
        refine ⟨k + 1, _, by omega, by simp [hzl], Lib.hid ?_, by go_num, hS⟩
        rw [← HF.out, HZ.out]
        congr 1
        first | rfl | omega
    · go_wp2_with (fail)
      go_end0
      have hz := HZ.out
      rw [List.take_of_length_le (by simp; omega), List.drop_of_length_le (by omega), List.append_nil] at hz
      subst hz
      exact ⟨rfl, hS.keep, hS.rowOk⟩
end Go.Proofs.Ytkflmichekpfbaa

/- causal.newHistory: a history with no clocks yet. Conditions: the messages lie in memory. -/
namespace Go.Proofs.Ytkflmichekpfbaa
open Go.RowKit
set_option linter.unusedVariables false
set_option linter.unusedSimpArgs false

/-- the map of sources -/
def srcM (az : List Arc) : Int × Int → Option Value := fun l => (srcF az l).map fun a => .agg #[.int .i64 (a.1 : Int), .int .i64 a.2]
theorem srcF_nil (l : Int × Int) : srcF [] l = none := rfl
theorem srcF_snoc (az : List Arc) (a : Arc) (l : Int × Int) : srcF (az ++ [a]) l = if a.at_ ≠ 0 ∧ ((a.to : Int), a.at_) = l then some (a.fr, a.ix) else srcF az l := by
  unfold srcF
  rw [List.reverse_append]
  simp only [List.reverse_cons, List.reverse_nil, List.nil_append, List.singleton_append, List.find?_cons]
  by_cases h : a.at_ ≠ 0 ∧ ((a.to : Int), a.at_) = l
  · rw [if_pos h]
    have : (decide (a.at_ ≠ 0) && decide (((a.to : Int), a.at_) = l)) = true := by simp [h.1, h.2]
    rw [this]; rfl
  · rw [if_neg h]
    have : (decide (a.at_ ≠ 0) && decide (((a.to : Int), a.at_) = l)) = false := by
      rw [← Bool.not_eq_true]; intro hh; apply h; simpa using hh
    rw [this]
theorem srcM_put {az : List Arc} {a : Arc} (h : a.at_ ≠ 0) : mput (srcM az) ((a.to : Int), a.at_) (.agg #[.int .i64 (a.fr : Int), .int .i64 a.ix]) = srcM (az ++ [a]) := by
  funext l
  simp only [mput, srcM, srcF_snoc]
  by_cases e : l = ((a.to : Int), a.at_)
  · rw [if_pos e, if_pos ⟨h, e.symm⟩]; rfl
  · rw [if_neg e, if_neg (fun hh => e hh.2.symm)]
theorem srcM_skip {az : List Arc} {a : Arc} (h : a.at_ = 0) : srcM (az ++ [a]) = srcM az := by
  funext l
  simp only [srcM, srcF_snoc]
  rw [if_neg (fun hh => hh.1 h)]

/-- a history: lengths, sources, clocks -/
structure HistB (w : World) (gh gs gc : Nat) (A1 : Option Addr) (n c1 : Nat) (sm cm : Int × Int → Option Value) : Prop where
  blk : w.heap[gh]? = some (.cells #[.slice A1 n c1, .map (some gs), .map (some gc)] 75 (0, 0))
  src : MapAt w gs sm
  clk : MapAt w gc cm
  d1 : gh ≠ gs
  d2 : gh ≠ gc
  d3 : gs ≠ gc
set_option maxHeartbeats 1600000 in
theorem newHist_any {S : Nat → Prop} (A1 A2 A3 : Option Addr) (c1 c2 c3 n1 n2 : Nat) (az : List Arc) (w0 : World) (ha : RA S w0 A3 az) (hn : az.length ≤ 1000) :
    Calls Try.prog 63 #[.agg #[.slice A1 n1 c1, .slice A2 n2 c2, .slice A3 az.length c3]] w0 fun e w' => ∃ gh gs gc, e = .returned (.pointer (some ⟨gh, 0, none⟩)) ∧ HistB w' gh gs gc A1 n1 c1 (srcM az) (fun _ => none) ∧ w0.heap.size ≤ gh ∧ w0.heap.size ≤ gs ∧ w0.heap.size ≤ gc ∧ Ext w0 w' := by
  have hS := St.start w0 NoM
  go_enter Try.func63, Try.ntmps63
  go_wp2_with (first | (refine oL ?_; (first | refine sL1 hS rfl rfl rfl ?_ | refine sL2 hS rfl rfl rfl ?_ | refine sL3 hS rfl rfl ?_ | refine sL4 hS rfl rfl ?_ | refine sL5 hS rfl rfl ?_ | refine sL6 hS rfl rfl ?_ | refine sL7 hS rfl rfl ?_)) | (refine oS ?_; ((first | refine sS1 hS rfl rfl rfl ?_ | refine sS2 hS rfl rfl rfl ?_ | refine sS3 hS rfl rfl rfl ?_ | refine sS4 hS rfl rfl rfl ?_ | refine sS5 hS rfl rfl rfl ?_); clear hS; intro w hS)) | (skip; (refine sW1 hS rfl ?_; clear hS; first | ((fail_if_success guard_hyp g1); intro g1 w hS) | ((fail_if_success guard_hyp g2); intro g2 w hS) | ((fail_if_success guard_hyp g3); intro g3 w hS) | ((fail_if_success guard_hyp g4); intro g4 w hS) | ((fail_if_success guard_hyp g5); intro g5 w hS) | ((fail_if_success guard_hyp g6); intro g6 w hS) | fail)) | ((first | (refine oB ?_; first | refine sB1 hS rfl rfl ?_ | refine sB2 hS rfl rfl ?_) | refine sN1 hS rfl ?_); clear hS; first | ((fail_if_success guard_hyp g1); intro g1 w hS) | ((fail_if_success guard_hyp g2); intro g2 w hS) | ((fail_if_success guard_hyp g3); intro g3 w hS) | ((fail_if_success guard_hyp g4); intro g4 w hS) | ((fail_if_success guard_hyp g5); intro g5 w hS) | ((fail_if_success guard_hyp g6); intro g6 w hS) | fail) | fail)
  go_loopw [15] (fun s15 wr => ∃ (k : Nat) (m : Int × Int → Option Value), k ≤ az.length ∧ s15 = .int .i64 k ∧ Hid (m = srcM (az.take k)) ∧ St w0 NoM [blk g4 [.slice A1 n1 c1, .map (some g2), .map (some g3)] 75, mpc g2 m, mpc g3 (fun _ => none), blk g1 [.slice A1 n1 c1, .slice A2 n2 c2, .slice A3 az.length c3] 28] wr) (fun s15 _ => az.length - (intOf s15).toNat)
  case atStart => exact ⟨0, fun _ => none, by omega, rfl, Lib.hid (by rw [List.take_zero]; rfl), hS.re⟩
  case round =>
    obtain ⟨k, m, hk, rfl, HM, hS⟩ := hrel
    by_cases hlt : k < az.length
    · obtain ⟨b3, o3, rfl, _, hcs⟩ := ha.cells hlt
      have HT := Lib.hid (List.take_succ_eq_append_getElem hlt)
      generalize az[k] = ar at *
      simp only [arcCells] at hcs
      by_cases h0 : ar.at_ = 0
      · go_wp2_with (first | (refine oL ?_; (first | refine sL1 hS rfl rfl rfl ?_ | refine sL2 hS rfl rfl rfl ?_ | refine sL3 hS rfl rfl ?_ | refine sL4 hS rfl rfl ?_ | refine sL5 hS rfl rfl ?_ | refine sL6 hS rfl rfl ?_ | refine sL7 hS rfl rfl ?_)) | (refine oS ?_; ((first | refine sS1 hS rfl rfl rfl ?_ | refine sS2 hS rfl rfl rfl ?_ | refine sS3 hS rfl rfl rfl ?_ | refine sS4 hS rfl rfl rfl ?_ | refine sS5 hS rfl rfl rfl ?_); clear hS; intro w hS)) | (skip; (refine sW1 hS rfl ?_; clear hS; first | ((fail_if_success guard_hyp g1); intro g1 w hS) | ((fail_if_success guard_hyp g2); intro g2 w hS) | ((fail_if_success guard_hyp g3); intro g3 w hS) | ((fail_if_success guard_hyp g4); intro g4 w hS) | ((fail_if_success guard_hyp g5); intro g5 w hS) | ((fail_if_success guard_hyp g6); intro g6 w hS) | fail)) | ((first | (refine oB ?_; first | refine sB1 hS rfl rfl ?_ | refine sB2 hS rfl rfl ?_) | refine sN1 hS rfl ?_); clear hS; first | ((fail_if_success guard_hyp g1); intro g1 w hS) | ((fail_if_success guard_hyp g2); intro g2 w hS) | ((fail_if_success guard_hyp g3); intro g3 w hS) | ((fail_if_success guard_hyp g4); intro g4 w hS) | ((fail_if_success guard_hyp g5); intro g5 w hS) | ((fail_if_success guard_hyp g6); intro g6 w hS) | fail) | fail)
        go_roundw
        case measure => simp [intOf]; omega
        exact ⟨k + 1, m, by omega, by go_num, Lib.hid (by rw [HT.out, srcM_skip h0, HM.out]), hS.re⟩
      · have d0 : (ar.at_ != 0) = true := by simp [h0]
        go_wp2_with (first | (refine oL ?_; (first | refine sL1 hS rfl rfl rfl ?_ | refine sL2 hS rfl rfl rfl ?_ | refine sL3 hS rfl rfl ?_ | refine sL4 hS rfl rfl ?_ | refine sL5 hS rfl rfl ?_ | refine sL6 hS rfl rfl ?_ | refine sL7 hS rfl rfl ?_)) | (refine oS ?_; ((first | refine sS1 hS rfl rfl rfl ?_ | refine sS2 hS rfl rfl rfl ?_ | refine sS3 hS rfl rfl rfl ?_ | refine sS4 hS rfl rfl rfl ?_ | refine sS5 hS rfl rfl rfl ?_); clear hS; intro w hS)) | (skip; (refine sW1 hS rfl ?_; clear hS; first | ((fail_if_success guard_hyp g1); intro g1 w hS) | ((fail_if_success guard_hyp g2); intro g2 w hS) | ((fail_if_success guard_hyp g3); intro g3 w hS) | ((fail_if_success guard_hyp g4); intro g4 w hS) | ((fail_if_success guard_hyp g5); intro g5 w hS) | ((fail_if_success guard_hyp g6); intro g6 w hS) | fail)) | ((first | (refine oB ?_; first | refine sB1 hS rfl rfl ?_ | refine sB2 hS rfl rfl ?_) | refine sN1 hS rfl ?_); clear hS; first | ((fail_if_success guard_hyp g1); intro g1 w hS) | ((fail_if_success guard_hyp g2); intro g2 w hS) | ((fail_if_success guard_hyp g3); intro g3 w hS) | ((fail_if_success guard_hyp g4); intro g4 w hS) | ((fail_if_success guard_hyp g5); intro g5 w hS) | ((fail_if_success guard_hyp g6); intro g6 w hS) | fail) | fail)
        refine dr_start1 [] 2 hS (by kernel_rfl) rfl ?_; clear hS; intro w hS
        refine dM hS 0 rfl rfl rfl ?_
        (try simp only [Act.put, nA, nB, nC])
        refine dP hS 1 rfl rfl ?_
        (try simp only [Act.put, nA, nB, nC])
        refine dP hS 2 rfl rfl ?_
        (try simp only [Act.put, nA, nB, nC])
        first | refine dL1 hS 3 rfl rfl rfl rfl ?_ | refine dL2 hS 3 rfl rfl rfl rfl ?_ | refine dL3 hS 3 rfl rfl rfl ?_ | refine dL4 hS 3 rfl rfl rfl ?_ | refine dL5 hS 3 rfl rfl rfl ?_ | refine dL6 hS 3 rfl rfl rfl ?_ | refine dL7 hS 3 rfl rfl rfl ?_
        (try simp only [Act.put, nA, nB, nC])
        refine dP hS 4 rfl rfl ?_
        (try simp only [Act.put, nA, nB, nC])
        first | refine dL1 hS 5 rfl rfl rfl rfl ?_ | refine dL2 hS 5 rfl rfl rfl rfl ?_ | refine dL3 hS 5 rfl rfl rfl ?_ | refine dL4 hS 5 rfl rfl rfl ?_ | refine dL5 hS 5 rfl rfl rfl ?_ | refine dL6 hS 5 rfl rfl rfl ?_ | refine dL7 hS 5 rfl rfl rfl ?_
        (try simp only [Act.put, nA, nB, nC])
        refine dP hS 6 rfl rfl ?_
        (try simp only [Act.put, nA, nB, nC])
        first | refine dL1 hS 7 rfl rfl rfl rfl ?_ | refine dL2 hS 7 rfl rfl rfl rfl ?_ | refine dL3 hS 7 rfl rfl rfl ?_ | refine dL4 hS 7 rfl rfl rfl ?_ | refine dL5 hS 7 rfl rfl rfl ?_ | refine dL6 hS 7 rfl rfl rfl ?_ | refine dL7 hS 7 rfl rfl rfl ?_
        (try simp only [Act.put, nA, nB, nC])
        refine dP hS 8 rfl rfl ?_
        (try simp only [Act.put, nA, nB, nC])
        refine dP hS 9 rfl rfl ?_
        (try simp only [Act.put, nA, nB, nC])
        first | refine dL1 hS 10 rfl rfl rfl rfl ?_ | refine dL2 hS 10 rfl rfl rfl rfl ?_ | refine dL3 hS 10 rfl rfl rfl ?_ | refine dL4 hS 10 rfl rfl rfl ?_ | refine dL5 hS 10 rfl rfl rfl ?_ | refine dL6 hS 10 rfl rfl rfl ?_ | refine dL7 hS 10 rfl rfl rfl ?_
        (try simp only [Act.put, nA, nB, nC])
        refine dP hS 11 rfl rfl ?_
        (try simp only [Act.put, nA, nB, nC])
        first | refine dL1 hS 12 rfl rfl rfl rfl ?_ | refine dL2 hS 12 rfl rfl rfl rfl ?_ | refine dL3 hS 12 rfl rfl rfl ?_ | refine dL4 hS 12 rfl rfl rfl ?_ | refine dL5 hS 12 rfl rfl rfl ?_ | refine dL6 hS 12 rfl rfl rfl ?_ | refine dL7 hS 12 rfl rfl rfl ?_
        (try simp only [Act.put, nA, nB, nC])
        refine dP hS 13 rfl rfl ?_
        (try simp only [Act.put, nA, nB, nC])
        refine dr_one 14 (by kernel_rfl) rfl ?_
        (refine sU1 hS rfl rfl rfl rfl ?_; clear hS; intro w hS)
        (try simp only [Act.put, nA, nB, nC])
        refine dr_end hS ?_
        refine dr_done (by kernel_rfl) ?_
        go_wp2_with (first | (refine oL ?_; (first | refine sL1 hS rfl rfl rfl ?_ | refine sL2 hS rfl rfl rfl ?_ | refine sL3 hS rfl rfl ?_ | refine sL4 hS rfl rfl ?_ | refine sL5 hS rfl rfl ?_ | refine sL6 hS rfl rfl ?_ | refine sL7 hS rfl rfl ?_)) | (refine oS ?_; ((first | refine sS1 hS rfl rfl rfl ?_ | refine sS2 hS rfl rfl rfl ?_ | refine sS3 hS rfl rfl rfl ?_ | refine sS4 hS rfl rfl rfl ?_ | refine sS5 hS rfl rfl rfl ?_); clear hS; intro w hS)) | (skip; (refine sW1 hS rfl ?_; clear hS; first | ((fail_if_success guard_hyp g1); intro g1 w hS) | ((fail_if_success guard_hyp g2); intro g2 w hS) | ((fail_if_success guard_hyp g3); intro g3 w hS) | ((fail_if_success guard_hyp g4); intro g4 w hS) | ((fail_if_success guard_hyp g5); intro g5 w hS) | ((fail_if_success guard_hyp g6); intro g6 w hS) | fail)) | ((first | (refine oB ?_; first | refine sB1 hS rfl rfl ?_ | refine sB2 hS rfl rfl ?_) | refine sN1 hS rfl ?_); clear hS; first | ((fail_if_success guard_hyp g1); intro g1 w hS) | ((fail_if_success guard_hyp g2); intro g2 w hS) | ((fail_if_success guard_hyp g3); intro g3 w hS) | ((fail_if_success guard_hyp g4); intro g4 w hS) | ((fail_if_success guard_hyp g5); intro g5 w hS) | ((fail_if_success guard_hyp g6); intro g6 w hS) | fail) | fail)
        go_roundw
        case measure => simp [intOf]; omega
        exact ⟨k + 1, mput m ((ar.to : Int), ar.at_) (.agg #[.int .i64 (ar.fr : Int), .int .i64 ar.ix]), by omega, by go_num, Lib.hid (by rw [HT.out, ← srcM_put h0, HM.out]), hS.re⟩
    · go_wp2_with (first | (refine oL ?_; (first | refine sL1 hS rfl rfl rfl ?_ | refine sL2 hS rfl rfl rfl ?_ | refine sL3 hS rfl rfl ?_ | refine sL4 hS rfl rfl ?_ | refine sL5 hS rfl rfl ?_ | refine sL6 hS rfl rfl ?_ | refine sL7 hS rfl rfl ?_)) | (refine oS ?_; ((first | refine sS1 hS rfl rfl rfl ?_ | refine sS2 hS rfl rfl rfl ?_ | refine sS3 hS rfl rfl rfl ?_ | refine sS4 hS rfl rfl rfl ?_ | refine sS5 hS rfl rfl rfl ?_); clear hS; intro w hS)) | (skip; (refine sW1 hS rfl ?_; clear hS; first | ((fail_if_success guard_hyp g1); intro g1 w hS) | ((fail_if_success guard_hyp g2); intro g2 w hS) | ((fail_if_success guard_hyp g3); intro g3 w hS) | ((fail_if_success guard_hyp g4); intro g4 w hS) | ((fail_if_success guard_hyp g5); intro g5 w hS) | ((fail_if_success guard_hyp g6); intro g6 w hS) | fail)) | ((first | (refine oB ?_; first | refine sB1 hS rfl rfl ?_ | refine sB2 hS rfl rfl ?_) | refine sN1 hS rfl ?_); clear hS; first | ((fail_if_success guard_hyp g1); intro g1 w hS) | ((fail_if_success guard_hyp g2); intro g2 w hS) | ((fail_if_success guard_hyp g3); intro g3 w hS) | ((fail_if_success guard_hyp g4); intro g4 w hS) | ((fail_if_success guard_hyp g5); intro g5 w hS) | ((fail_if_success guard_hyp g6); intro g6 w hS) | fail) | fail)
      go_ret
      have hm := HM.out
      rw [List.take_of_length_le (by omega)] at hm
      subst hm
      have hap := hS.apart
      simp only [List.pairwise_cons] at hap
      have e1 := hS.all (blk g4 [.slice A1 n1 c1, .map (some g2), .map (some g3)] 75) (by simp)
      have e2 := hap.1 (mpc g2 (srcM az)) (by simp) g4 rfl
      have e3 := hap.1 (mpc g3 (fun _ => none)) (by simp) g4 rfl
      have e4 := hap.2.1 (mpc g3 (fun _ => none)) (by simp) g2 rfl
      have e5 := hS.new (blk g4 [.slice A1 n1 c1, .map (some g2), .map (some g3)] 75) (by simp) g4 rfl
      have e6 := hS.new (mpc g2 (srcM az)) (by simp) g2 rfl
      have e7 := hS.new (mpc g3 (fun _ => none)) (by simp) g3 rfl
      exact ⟨g4, g2, g3, rfl, ⟨e1, hS.mapAt, hS.mapAt, fun e => e2 e, fun e => e3 e, fun e => e4 e⟩, e5.resolve_right id, e6.resolve_right id, e7.resolve_right id, hS.toExt⟩
end Go.Proofs.Ytkflmichekpfbaa

/- causal: the state of a history during a call; copy; raise. Conditions: as said at each. -/
namespace Go.Proofs.Ytkflmichekpfbaa
open Go.RowKit
set_option linter.unusedVariables false
set_option linter.unusedSimpArgs false
set_option linter.unusedSectionVars false

/-- the clocks that are known already -/
def Memo (p : Pat) (S : Nat → Prop) (w : World) (cm : Int × Int → Option Value) : Prop :=
  ∀ pt v, cm pt = some v → ∃ (q : Nat) (k : Int) (L : Option Addr) (cap : Nat) (c : List Int), pt = ((q : Int), k) ∧ v = .slice L p.len.length cap ∧ IsClk p q k c ∧ RI S w L c ∧ capOk p.len.length cap
theorem Memo.into {p : Pat} {S S' : Nat → Prop} {w w' : World} {cm : Int × Int → Option Value} (h : Memo p S w cm) (hi : Into S S' w w') : Memo p S' w' cm := fun pt v hv => by
  obtain ⟨q, k, L, cap, c, h1, h2, h3, h4, h5⟩ := h pt v hv
  exact ⟨q, k, L, cap, c, h1, h2, h3, h4.into hi, h5⟩
theorem Memo.put {p : Pat} {S : Nat → Prop} {w : World} {cm : Int × Int → Option Value} (h : Memo p S w cm) {q : Nat} {k : Int} {L : Option Addr} {cap : Nat} {c : List Int} (hc : IsClk p q k c) (hr : RI S w L c) (hcap : capOk p.len.length cap) : Memo p S w (mput cm ((q : Int), k) (.slice L p.len.length cap)) := fun pt v hv => by
  unfold mput at hv
  split at hv
  · rename_i e
    injection hv with hv
    exact ⟨q, k, L, cap, c, e, hv.symm, hc, hr, hcap⟩
  · exact h pt v hv
theorem Memo.none (p : Pat) (S : Nat → Prop) (w : World) : Memo p S w (fun _ => Option.none) := fun pt v hv => by cases hv
section
variable {w0 w w' : World} {M : Nat → Prop} {cs : List (Chunk w0 M)} {f1 f2 : Chunk w0 M → List (Chunk w0 M)} {gs gc : Nat} {sm cm cm' : Int × Int → Option Value}
/-- the entry of a function that may write the two maps of a history -/
theorem St.startH {w : World} (h1 : MapAt w gc cm) (h2 : MapAt w gs sm) (hne : gs ≠ gc) : St w (fun k => k = gc ∨ k = gs) [mpc gc cm, mpc gs sm] w := by
  refine ⟨Keep.refl _ _, ?_, ?_, ?_⟩
  · intro c hc
    simp only [List.mem_cons, List.not_mem_nil, or_false] at hc
    rcases hc with rfl | rfl
    · exact h1
    · exact h2
  · intro c hc k hk
    simp only [List.mem_cons, List.not_mem_nil, or_false] at hc
    rcases hc with rfl | rfl
    · exact .inr (.inl hk)
    · exact .inr (.inr hk)
  · refine List.pairwise_cons.2 ⟨fun c hc k hk hk2 => ?_, by simp⟩
    rw [List.mem_singleton.1 hc] at hk2
    have e1 : k = gc := hk
    have e2 : k = gs := hk2
    exact hne (e2.symm.trans e1)
/-- a call that wrote a history's maps, and made data -/
theorem St.usedH (h : St w0 M cs w) [hp1 : PickM gc cs cm f1] [hp2 : PickM gs (f1 nop) sm f2] (hk : Keep (fun k => ¬ (k = gc ∨ k = gs)) w w') (h1 : MapAt w' gc cm') (h2 : MapAt w' gs sm) :
    St w0 M (froz (fun k => w.heap.size ≤ k ∧ k < w'.heap.size) w' :: mpc gc cm' :: f2 (mpc gs sm)) w' := by
  have ha : St w0 M (f1 (mpc gc cm)) w := hp1.eq ▸ h
  obtain ⟨s, p1, p2⟩ := gap_perm hp1.gap (mpc gc cm)
  have hb : St w0 M (nop :: mpc gc cm :: s) w := (ha.perm p1).emp
  have hc : St w0 M (mpc gc cm :: f1 nop) w := (hb.perm (List.Perm.swap _ _ _)).perm ((p2 nop).cons _)
  rw [hp2.eq] at hc
  obtain ⟨s2, q1, q2⟩ := gap_perm hp2.gap (mpc gs sm)
  have hd : St w0 M (mpc gc cm :: mpc gs sm :: s2) w := hc.perm (q1.cons _)
  have hap := List.pairwise_cons.1 hd.apart
  have hne : ∀ k, k = gc → ¬ k = gs := fun k => hap.1 (mpc gs sm) (by simp) k
  have he := hd.join
  have hlt1 : gc < w.heap.size := (mpc gc cm : Chunk w0 M).lt (hd.all _ (by simp)) rfl
  have hlt2 : gs < w.heap.size := (mpc gs sm : Chunk w0 M).lt (hd.all _ (by simp)) rfl
  have hf : St w0 M (pair (froz (fun k => w.heap.size ≤ k ∧ k < w'.heap.size) w') (pair (mpc gc cm') (mpc gs sm)) :: s2) w' := by
    refine he.upd hk ⟨fun k hk => ⟨hk.2, rfl⟩, ⟨h1, h2, hne⟩, fun k h3 h4 => ?_⟩ (fun k hk => ?_)
    · rcases h4 with h4 | h4
      · have : k = gc := h4
        have := h3.1; omega
      · have : k = gs := h4
        have := h3.1; omega
    · rcases hk with hk | hk
      · exact .inr hk.1
      · exact .inl hk
  have hg := hf.split
  have hh := (hg.perm (List.Perm.swap _ _ _)).split
  have hi : St w0 M (mpc gc cm' :: mpc gs sm :: froz (fun k => w.heap.size ≤ k ∧ k < w'.heap.size) w' :: s2) w' := hh
  refine hi.perm ?_
  refine (List.Perm.trans ?_ (((q2 (mpc gs sm)).cons (mpc gc cm')).cons (froz (fun k => w.heap.size ≤ k ∧ k < w'.heap.size) w')))
  exact (List.Perm.cons _ (List.Perm.swap _ _ _)).trans (List.Perm.swap _ _ _)
end
section
variable {P : Program} {ops : Array Oper} {Q : Exit → Act → World → Prop} {a : Act} {w w0 : World} {M : Nat → Prop} {cs ds : List (Chunk w0 M)} {f : Chunk w0 M → List (Chunk w0 M)} {rest : List Oper} {d : Option Tmp} {tt ty t e : TypeId} {pos : String} {af : Array Edge} {x y : Operand}
/-- copy of numbers over a whole row of numbers -/
theorem st_copyI {bytes n c cp g : Nat} {ys zs : List Int} {B : Option Addr} {S : Nat → Prop} [hT : ElemC P t e 1 bytes] (hS : St w0 M cs w)
    (hx' : oval a x = some (.slice (some ⟨g, 0, none⟩) n cp)) (hy' : oval a y = some (.slice B n c)) [hp : PickR (.slice (some ⟨g, 0, none⟩) n cp) cs e 1 n (ints zs) f] (hr : RI S w B ys) (hl : ys.length = n)
    (k : ∀ w', St w0 M (f (row (.slice (some ⟨g, 0, none⟩) n cp) e 1 n (ints ys))) w' → wpList P ops Q rest (a.put d (goInt n)) w') :
    wpList P ops Q (⟨d, .call { callee := .builtin .copy, args := #[x, y], argTypes := #[t, t] }, tt, pos, af, none⟩ :: rest) a w := by
  have hS' : St w0 M (f (row (.slice (some ⟨g, 0, none⟩) n cp) e 1 n (ints zs))) w := hp.eq ▸ hS
  have ho : w.ownsRow 0 e 1 (.slice (some ⟨g, 0, none⟩) n cp) n (ints zs) := hS'.at_ hp.gap
  have hzl : (ints zs).length = n := by rw [ho.1]; omega
  refine wpList_copyRow hT.h rfl x y rfl (off := 0) ho (oval_eval hx') (oval_eval hy') (by simp [hl]) (by simp [hl]) (fun _ => rfl) hr (by simp [hl]) (oneCell_ints ys) ?_
  intro w' h1 h2 h3
  have e1 : over (ints zs) 0 (ints ys) = ints ys := by
    unfold over
    rw [List.take_zero, List.nil_append, List.drop_of_length_le (by rw [hzl]; simp [hl]), List.append_nil]
  rw [e1] at h1
  have e2 : (ints ys).length = n := by simp [hl]
  rw [e2]
  exact k w' (hS'.updG hp.gap (h2.mono (fun k hk => fun e => hk (by rw [e]; rfl))) h1 (fun k e => .inl e))
end
end Go.Proofs.Ytkflmichekpfbaa

/- causal: the clock of a point, by recursion with a memory of clocks. Conditions: the pattern is good, the history lies in memory. -/
namespace Go.Proofs.Ytkflmichekpfbaa
open Go.RowKit
set_option linter.unusedVariables false
set_option linter.unusedSimpArgs false

theorem raise_st {w0 w : World} {M S : Nat → Prop} {cs : List (Chunk w0 M)} {f : Chunk w0 M → List (Chunk w0 M)} {g cp cd n : Nat} {D : Option Addr} {zs ds : List Int} (h : St w0 M cs w) [hp : PickR (.slice (some ⟨g, 0, none⟩) n cp) cs 3 1 n (ints zs) f] (hz : zs.length = n) (hd : RI S w D ds) (hS0 : ∀ k, S k → k ≠ g) (hl : ds.length = n) (hn : n ≤ 1000) :
    Calls Try.prog 67 #[.slice (some ⟨g, 0, none⟩) n cp, .slice D n cd] w fun e w' => e = .returned (.tuple #[]) ∧ St w0 M (f (row (.slice (some ⟨g, 0, none⟩) n cp) 3 1 n (ints (List.zipWith max zs ds)))) w' := by
  have hS' : St w0 M (f (row (.slice (some ⟨g, 0, none⟩) n cp) 3 1 n (ints zs))) w := hp.eq ▸ h
  have ho : w.ownsRow 0 3 1 (.slice (some ⟨g, 0, none⟩) n cp) n (ints zs) := hS'.at_ hp.gap
  subst hz
  refine (raise_row g cp cd D zs ds w ho hd hS0 hl hn).mono ?_
  rintro e w' ⟨rfl, hk, ho'⟩
  exact ⟨rfl, hS'.updG hp.gap (hk.mono (fun k hk => fun e => hk (by rw [e]; rfl))) ho' (fun k e => .inl e)⟩
def ClkPost (p : Pat) (gs gc : Nat) (S : Nat → Prop) (w0 : World) (q : Nat) (k : Int) (e : Ending) (w' : World) : Prop :=
  ∃ (L : Option Addr) (cap : Nat) (c : List Int) (cm' : Int × Int → Option Value), e = .returned (.slice L p.len.length cap) ∧ IsClk p q k c ∧ RI (Orn S w0) w' L c ∧ capOk p.len.length cap ∧ MapAt w' gc cm' ∧ MapAt w' gs (srcM p.arcs) ∧ Memo p (Orn S w0) w' cm' ∧ Keep (fun b => ¬ (b = gc ∨ b = gs)) w0 w'
theorem St.intoS {w0 w : World} {M S : Nat → Prop} {cs : List (Chunk w0 M)} (h : St w0 M cs w) (hS : ∀ k, S k → ¬ M k) : Into S (Orn S w0) w0 w := fun k hs hk => ⟨.inl hs, h.keep.block k hk (hS k hs)⟩
theorem St.notIn {w0 w : World} {M : Nat → Prop} {cs : List (Chunk w0 M)} {f : Chunk w0 M → List (Chunk w0 M)} {c : Chunk w0 M} (h : St w0 M cs w) [hp : PickK c cs f] {g : Nat} {m : Int × Int → Option Value} (hq : mpc g m ∈ f nop) : ∀ b, c.own b → b ≠ g := by
  intro b hb e
  subst e
  have h' : St w0 M (f c) w := hp.eq ▸ h
  obtain ⟨s, h1, h2⟩ := gap_perm hp.gap c
  have hm : mpc b m ∈ s := by
    rcases List.mem_cons.1 ((h2 nop).mem_iff.2 hq) with h3 | h3
    · have := congrArg (fun c => c.own b) h3
      simp [mpc, nop] at this
    · exact h3
  exact (List.pairwise_cons.1 (h'.perm h1).apart).1 _ hm b hb rfl
theorem St.newH {w0 w : World} {gc gs : Nat} {cs : List (Chunk w0 (fun k => k = gc ∨ k = gs))} {f : Chunk w0 (fun k => k = gc ∨ k = gs) → List (Chunk w0 (fun k => k = gc ∨ k = gs))} {c : Chunk w0 (fun k => k = gc ∨ k = gs)} {cm sm : Int × Int → Option Value} (h : St w0 (fun k => k = gc ∨ k = gs) cs w) [hp : PickK c cs f] {f1 f2 : Chunk w0 (fun k => k = gc ∨ k = gs) → List (Chunk w0 (fun k => k = gc ∨ k = gs))} [hq1 : PickM gc (f nop) cm f1] [hq2 : PickM gs (f nop) sm f2] : ∀ b, c.own b → w0.heap.size ≤ b := by
  intro b hb
  have h' : St w0 (fun k => k = gc ∨ k = gs) (f c) w := hp.eq ▸ h
  obtain ⟨l, r, he⟩ := hp.gap.ex
  rw [he] at h'
  rcases h'.new c (by simp) b hb with h1 | h1 | h1
  · exact h1
  · exact absurd h1 (h.notIn (g := gc) (m := cm) (by rw [hq1.eq]; exact gap_mem hq1.gap) b hb)
  · exact absurd h1 (h.notIn (g := gs) (m := sm) (by rw [hq2.eq]; exact gap_mem hq2.gap) b hb)
theorem St.riH {w0 w : World} {gc gs : Nat} {S : Nat → Prop} {cs : List (Chunk w0 (fun k => k = gc ∨ k = gs))} {f : Chunk w0 (fun k => k = gc ∨ k = gs) → List (Chunk w0 (fun k => k = gc ∨ k = gs))} {cm sm : Int × Int → Option Value} {A : Option Addr} {k c n : Nat} {e : TypeId} {xs : List Int} (h : St w0 (fun k => k = gc ∨ k = gs) cs w) [hp : PickL A cs k c e 1 n (ints xs) f] {f1 f2 : Chunk w0 (fun k => k = gc ∨ k = gs) → List (Chunk w0 (fun k => k = gc ∨ k = gs))} [hq1 : PickM gc (f nop) cm f1] [hq2 : PickM gs (f nop) sm f2] : RI (Orn S w0) w A xs := by
  have hk : PickK (row (.slice A k c) e 1 n (ints xs) : Chunk w0 (fun k => k = gc ∨ k = gs)) cs f := ⟨hp.eq, hp.gap⟩
  have hnew := St.newH (hp := hk) (hq1 := hq1) (hq2 := hq2) h
  have h1 : RV (fun b => (Value.slice A k c).ownBlock = some b) w A (ints xs) := h.rvOwn (hp := hp)
  exact RV.sub h1 (fun b hb => .inr (hnew b hb))
/-- what was said of older data and of data that a call has made -/
theorem St.intoN {w0 w u : World} {M S N : Nat → Prop} {cs : List (Chunk w0 M)} {f : Chunk w0 M → List (Chunk w0 M)} (h : St w0 M cs w) [hp : PickK (froz N u) cs f] (hSl : ∀ b, S b → b < w0.heap.size) (hSM : ∀ b, S b → ¬ M b) (hK : Keep (fun k => ¬ M k) w0 u) : Into (fun b => S b ∨ N b) (fun b => S b ∨ N b) u w := by
  have hf := (hp.eq ▸ h : St w0 M (f (froz N u)) w).at_ hp.gap
  intro b hb hl
  refine ⟨hb, ?_⟩
  rcases hb with hb | hb
  · rw [h.keep.block b (hSl b hb) (hSM b hb), hK.block b (hSl b hb) (hSM b hb)]
  · exact (hf b hb).2
theorem srcF_none {az : List Arc} {q : Nat} {k : Int} (h : srcF az ((q : Int), k) = none) (hk : k ≠ 0) : ∀ a ∈ az, a.to = q → a.at_ ≠ k := by
  intro a ha e1 e2
  unfold srcF at h
  rw [Option.map_eq_none_iff, List.find?_eq_none] at h
  have := h a (by simpa using ha)
  apply this
  simp [e1, e2, hk]
theorem srcF_some {az : List Arc} {q : Nat} {k : Int} {s : Nat × Int} (h : srcF az ((q : Int), k) = some s) : ∃ a ∈ az, a.to = q ∧ a.at_ = k ∧ k ≠ 0 ∧ s = (a.fr, a.ix) := by
  unfold srcF at h
  rw [Option.map_eq_some_iff] at h
  obtain ⟨a, ha, hs⟩ := h
  have hm := List.mem_of_find?_eq_some ha
  have hp := List.find?_some ha
  simp only [Bool.and_eq_true, decide_eq_true_eq, Prod.mk.injEq] at hp
  exact ⟨a, by simpa using hm, by omega, hp.2.2, by rw [← hp.2.2]; exact hp.1, hs.symm⟩
theorem St.off {w0 w : World} {M : Nat → Prop} {cs : List (Chunk w0 M)} {f : Chunk w0 M → List (Chunk w0 M)} {c d : Chunk w0 M} (h : St w0 M cs w) [hp : PickK c cs f] (hq : d ∈ f nop) : ∀ b, c.own b → ¬ d.own b := by
  intro b hb hd
  have h' : St w0 M (f c) w := hp.eq ▸ h
  obtain ⟨s, h1, h2⟩ := gap_perm hp.gap c
  rcases List.mem_cons.1 ((h2 nop).mem_iff.2 hq) with h3 | h3
  · subst h3; exact hd
  · exact (List.pairwise_cons.1 (h'.perm h1).apart).1 _ h3 b hb hd
theorem St.offRow {w0 w : World} {M : Nat → Prop} {cs : List (Chunk w0 M)} {f f2 : Chunk w0 M → List (Chunk w0 M)} {c : Chunk w0 M} {g n m cp sz : Nat} {e : TypeId} {vs : List Value} (h : St w0 M cs w) [hp : PickK c cs f] [hq : PickG g (f nop) e sz n m cp vs f2] : ∀ b, c.own b → b ≠ g := by
  intro b hb e
  subst e
  exact h.off (d := row (.slice (some ⟨b, 0, none⟩) m cp) e sz n vs) (by rw [hq.eq]; exact gap_mem hq.gap) b hb rfl
/-- the same, of the data of two calls -/
theorem St.intoN2 {w0 w u1 u2 : World} {M S N1 N2 : Nat → Prop} {cs : List (Chunk w0 M)} {f f' : Chunk w0 M → List (Chunk w0 M)} (h : St w0 M cs w) [hp : PickK (froz N1 u1) cs f] [hp' : PickK (froz N2 u2) cs f'] (hF : ∀ b, N1 b → u2.heap[b]? = u1.heap[b]?) (hSl : ∀ b, S b → b < w0.heap.size) (hSM : ∀ b, S b → ¬ M b) (hK : Keep (fun k => ¬ M k) w0 u2) : Into (fun b => (S b ∨ N1 b) ∨ N2 b) (fun b => (S b ∨ N1 b) ∨ N2 b) u2 w := by
  have hf := (hp.eq ▸ h : St w0 M (f (froz N1 u1)) w).at_ hp.gap
  have hf' := (hp'.eq ▸ h : St w0 M (f' (froz N2 u2)) w).at_ hp'.gap
  intro b hb hl
  refine ⟨hb, ?_⟩
  rcases hb with (hb | hb) | hb
  · rw [h.keep.block b (hSl b hb) (hSM b hb), hK.block b (hSl b hb) (hSM b hb)]
  · exact (hf b hb).2.trans (hF b hb).symm
  · exact (hf' b hb).2
theorem St.frozAt {w0 w u : World} {M N : Nat → Prop} {cs : List (Chunk w0 M)} {f : Chunk w0 M → List (Chunk w0 M)} (h : St w0 M cs w) [hp : PickK (froz N u) cs f] : ∀ b, N b → w.heap[b]? = u.heap[b]? := fun b hb =>
  (((hp.eq ▸ h : St w0 M (f (froz N u)) w).at_ hp.gap) b hb).2
set_option maxRecDepth 100000 in
set_option maxHeartbeats 3200000 in
theorem clock_rec (p : Pat) (hg : Good p) (rk : Nat → Int → Nat) (hr : Ranked p.len.length p.len p.arcs rk) (gh gs gc : Nat) (A1 : Option Addr) (c1 : Nat) : ∀ (f : Nat) (q : Nat) (k : Int) (S : Nat → Prop) (cm : Int × Int → Option Value) (w0 : World), rk q k < f → PtOk p (q, k) → HistB w0 gh gs gc A1 p.len.length c1 (srcM p.arcs) cm → (∀ b, S b → ¬ (b = gc ∨ b = gs) ∧ b < w0.heap.size) → Memo p S w0 cm →
    Calls Try.prog 64 #[.pointer (some ⟨gh, 0, none⟩), .agg #[.int .i64 (q : Int), .int .i64 k]] w0 (ClkPost p gs gc S w0 q k)
  | 0, q, k, S, cm, w0, hf, _, _, _, _ => absurd hf (by omega)
  | f + 1, q, k, S, cm, w0, hf, hpt, hH, hS0, hmm => by
    have hS := St.startH hH.clk hH.src hH.d3
    have hc0 : w0.cell? ⟨gh, 0, none⟩ = some (.slice A1 p.len.length c1) := cell_of_heap hH.blk rfl
    have hc1 : w0.cell? ⟨gh, 1, none⟩ = some (.map (some gs)) := cell_of_heap hH.blk rfl
    have hc2 : w0.cell? ⟨gh, 2, none⟩ = some (.map (some gc)) := cell_of_heap hH.blk rfl
    have hgh : ¬ (gh = gc ∨ gh = gs) := fun h => h.elim hH.d2 hH.d1
    have hSl : ∀ b, S b → b < w0.heap.size := fun b hb => (hS0 b hb).2
    have HH := Lib.hid (And.intro hH (And.intro (fun b hb => (hS0 b hb).1 : ∀ b, S b → ¬ (b = gc ∨ b = gs)) hmm))
    have HI := Lib.hid (clock_rec p hg rk hr gh gs gc A1 c1 f)
    clear hS0 hmm hH
    cases hcm : cm ((q : Int), k) with
    | some v =>
      obtain ⟨q', k', L, cap, c, e1, rfl, hck, hri, hcap⟩ := HH.out.2.2 _ _ hcm
      injection e1 with e1 e2
      have e1' : q' = q := by omega
      subst e1' e2
      go_enter Try.func64, Try.ntmps64
      go_wp2_with (first | (refine oL ?_; (first | refine sL1 hS rfl rfl rfl ?_ | refine sL2 hS rfl rfl rfl ?_ | refine sL3 hS rfl rfl ?_ | refine sL4 hS rfl rfl ?_ | refine sL5 hS rfl rfl ?_ | refine sL6 hS rfl rfl ?_ | refine sL7 hS rfl rfl ?_)) | (refine oS ?_; ((first | refine sS1 hS rfl rfl rfl ?_ | refine sS2 hS rfl rfl rfl ?_ | refine sS3 hS rfl rfl rfl ?_ | refine sS4 hS rfl rfl rfl ?_ | refine sS5 hS rfl rfl rfl ?_); clear hS; intro w hS)) | ((first | (refine oB ?_; first | refine sB1 hS rfl rfl ?_ | refine sB2 hS rfl rfl ?_) | refine sM1 hS rfl rfl rfl ?_); clear hS; first | ((fail_if_success guard_hyp g1); intro g1 w hS) | ((fail_if_success guard_hyp g2); intro g2 w hS) | ((fail_if_success guard_hyp g3); intro g3 w hS) | ((fail_if_success guard_hyp g4); intro g4 w hS) | fail) | fail)
      refine dr_start0 []  hS (by kernel_rfl) rfl ?_; clear hS; intro w hS
      refine dM hS 0 rfl rfl rfl ?_
      (try simp only [Act.put, nA, nB, nC])
      refine dP hS 1 rfl rfl ?_
      (try simp only [Act.put, nA, nB, nC])
      refine dP hS 2 rfl rfl ?_
      (try simp only [Act.put, nA, nB, nC])
      first | refine dL1 hS 3 rfl rfl rfl rfl ?_ | refine dL2 hS 3 rfl rfl rfl rfl ?_ | refine dL3 hS 3 rfl rfl rfl ?_ | refine dL4 hS 3 rfl rfl rfl ?_ | refine dL5 hS 3 rfl rfl rfl ?_ | refine dL6 hS 3 rfl rfl rfl ?_ | refine dL7 hS 3 rfl rfl rfl ?_
      (try simp only [Act.put, nA, nB, nC])
      first | refine dL1 hS 4 rfl rfl rfl rfl ?_ | refine dL2 hS 4 rfl rfl rfl rfl ?_ | refine dL3 hS 4 rfl rfl rfl ?_ | refine dL4 hS 4 rfl rfl rfl ?_ | refine dL5 hS 4 rfl rfl rfl ?_ | refine dL6 hS 4 rfl rfl rfl ?_ | refine dL7 hS 4 rfl rfl rfl ?_
      (try simp only [Act.put, nA, nB, nC])
      first | refine dK1 hS 5 rfl rfl rfl rfl ?_ | refine dK2 hS 5 rfl rfl rfl rfl ?_ | refine dK3 hS 5 rfl rfl rfl rfl ?_
      (try simp only [Act.put, nA, nB, nC])
      refine dM hS 6 rfl rfl rfl ?_
      (try simp only [Act.put, nA, nB, nC])
      refine dP hS 7 rfl rfl ?_
      (try simp only [Act.put, nA, nB, nC])
      refine dP hS 8 rfl rfl ?_
      (try simp only [Act.put, nA, nB, nC])
      refine dA hS 9 rfl rfl rfl ?_
      (try simp only [Act.put, nA, nB, nC])
      refine dA hS 10 rfl rfl rfl ?_
      (try simp only [Act.put, nA, nB, nC])
      refine dr_done (by kernel_rfl) ?_
      go_wp2_with (first | (refine oL ?_; (first | refine sL1 hS rfl rfl rfl ?_ | refine sL2 hS rfl rfl rfl ?_ | refine sL3 hS rfl rfl ?_ | refine sL4 hS rfl rfl ?_ | refine sL5 hS rfl rfl ?_ | refine sL6 hS rfl rfl ?_ | refine sL7 hS rfl rfl ?_)) | (refine oS ?_; ((first | refine sS1 hS rfl rfl rfl ?_ | refine sS2 hS rfl rfl rfl ?_ | refine sS3 hS rfl rfl rfl ?_ | refine sS4 hS rfl rfl rfl ?_ | refine sS5 hS rfl rfl rfl ?_); clear hS; intro w hS)) | ((first | (refine oB ?_; first | refine sB1 hS rfl rfl ?_ | refine sB2 hS rfl rfl ?_) | refine sM1 hS rfl rfl rfl ?_); clear hS; first | ((fail_if_success guard_hyp g1); intro g1 w hS) | ((fail_if_success guard_hyp g2); intro g2 w hS) | ((fail_if_success guard_hyp g3); intro g3 w hS) | ((fail_if_success guard_hyp g4); intro g4 w hS) | fail) | fail)
      go_ret
      exact ⟨L, cap, c, cm, rfl, hck, hri.into (hS.intoS HH.out.2.1), hcap, hS.mapAt, hS.mapAt, HH.out.2.2.into (hS.intoS HH.out.2.1), hS.keep⟩
    | none =>
      have hn5 := hg.n5
      have hqn : (q : Int) < p.len.length := by have := hpt.1; simp only at this; omega
      have hqn' : q < p.len.length := hpt.1
      by_cases hk0 : k = 0
      · subst hk0
        go_enter Try.func64, Try.ntmps64
        go_wp2_with (first | (refine oL ?_; (first | refine sL1 hS rfl rfl rfl ?_ | refine sL2 hS rfl rfl rfl ?_ | refine sL3 hS rfl rfl ?_ | refine sL4 hS rfl rfl ?_ | refine sL5 hS rfl rfl ?_ | refine sL6 hS rfl rfl ?_ | refine sL7 hS rfl rfl ?_)) | (refine oS ?_; ((first | refine sS1 hS rfl rfl rfl ?_ | refine sS2 hS rfl rfl rfl ?_ | refine sS3 hS rfl rfl rfl ?_ | refine sS4 hS rfl rfl rfl ?_ | refine sS5 hS rfl rfl rfl ?_); clear hS; intro w hS)) | ((first | (refine oB ?_; first | refine sB1 hS rfl rfl ?_ | refine sB2 hS rfl rfl ?_) | refine sM1 hS rfl rfl rfl ?_); clear hS; first | ((fail_if_success guard_hyp g1); intro g1 w hS) | ((fail_if_success guard_hyp g2); intro g2 w hS) | ((fail_if_success guard_hyp g3); intro g3 w hS) | ((fail_if_success guard_hyp g4); intro g4 w hS) | fail) | fail)
        refine dr_start0 []  hS (by kernel_rfl) rfl ?_; clear hS; intro w hS
        refine dM hS 0 rfl rfl rfl ?_
        (try simp only [Act.put, nA, nB, nC])
        refine dP hS 1 rfl rfl ?_
        (try simp only [Act.put, nA, nB, nC])
        refine dP hS 2 rfl rfl ?_
        (try simp only [Act.put, nA, nB, nC])
        first | refine dL1 hS 3 rfl rfl rfl rfl ?_ | refine dL2 hS 3 rfl rfl rfl rfl ?_ | refine dL3 hS 3 rfl rfl rfl ?_ | refine dL4 hS 3 rfl rfl rfl ?_ | refine dL5 hS 3 rfl rfl rfl ?_ | refine dL6 hS 3 rfl rfl rfl ?_ | refine dL7 hS 3 rfl rfl rfl ?_
        (try simp only [Act.put, nA, nB, nC])
        first | refine dL1 hS 4 rfl rfl rfl rfl ?_ | refine dL2 hS 4 rfl rfl rfl rfl ?_ | refine dL3 hS 4 rfl rfl rfl ?_ | refine dL4 hS 4 rfl rfl rfl ?_ | refine dL5 hS 4 rfl rfl rfl ?_ | refine dL6 hS 4 rfl rfl rfl ?_ | refine dL7 hS 4 rfl rfl rfl ?_
        (try simp only [Act.put, nA, nB, nC])
        first | refine dK1 hS 5 rfl rfl rfl rfl ?_ | refine dK2 hS 5 rfl rfl rfl rfl ?_ | refine dK3 hS 5 rfl rfl rfl rfl ?_
        (try simp only [Act.put, nA, nB, nC])
        refine dM hS 6 rfl rfl rfl ?_
        (try simp only [Act.put, nA, nB, nC])
        refine dP hS 7 rfl rfl ?_
        (try simp only [Act.put, nA, nB, nC])
        refine dP hS 8 rfl rfl ?_
        (try simp only [Act.put, nA, nB, nC])
        refine dA hS 9 rfl rfl rfl ?_
        (try simp only [Act.put, nA, nB, nC])
        refine dA hS 10 rfl rfl rfl ?_
        (try simp only [Act.put, nA, nB, nC])
        refine dr_done (by kernel_rfl) ?_
        go_wp2_with (first | (refine oL ?_; (first | refine sL1 hS rfl rfl rfl ?_ | refine sL2 hS rfl rfl rfl ?_ | refine sL3 hS rfl rfl ?_ | refine sL4 hS rfl rfl ?_ | refine sL5 hS rfl rfl ?_ | refine sL6 hS rfl rfl ?_ | refine sL7 hS rfl rfl ?_)) | (refine oS ?_; ((first | refine sS1 hS rfl rfl rfl ?_ | refine sS2 hS rfl rfl rfl ?_ | refine sS3 hS rfl rfl rfl ?_ | refine sS4 hS rfl rfl rfl ?_ | refine sS5 hS rfl rfl rfl ?_); clear hS; intro w hS)) | ((first | (refine oB ?_; first | refine sB1 hS rfl rfl ?_ | refine sB2 hS rfl rfl ?_) | refine sM1 hS rfl rfl rfl ?_); clear hS; first | ((fail_if_success guard_hyp g1); intro g1 w hS) | ((fail_if_success guard_hyp g2); intro g2 w hS) | ((fail_if_success guard_hyp g3); intro g3 w hS) | ((fail_if_success guard_hyp g4); intro g4 w hS) | fail) | fail)
        have e0 : (List.replicate p.len.length (0 : Int)).set q 0 = List.replicate p.len.length 0 := by
          apply List.ext_getElem (by simp)
          intro i h1 h2
          simp [List.getElem_set]
        rw [e0] at hS
        refine dr_start1 [] 2 hS (by kernel_rfl) rfl ?_; clear hS; intro w hS
        refine dM hS 0 rfl rfl rfl ?_
        (try simp only [Act.put, nA, nB, nC])
        refine dP hS 1 rfl rfl ?_
        (try simp only [Act.put, nA, nB, nC])
        refine dP hS 2 rfl rfl ?_
        (try simp only [Act.put, nA, nB, nC])
        first | refine dL1 hS 3 rfl rfl rfl rfl ?_ | refine dL2 hS 3 rfl rfl rfl rfl ?_ | refine dL3 hS 3 rfl rfl rfl ?_ | refine dL4 hS 3 rfl rfl rfl ?_ | refine dL5 hS 3 rfl rfl rfl ?_ | refine dL6 hS 3 rfl rfl rfl ?_ | refine dL7 hS 3 rfl rfl rfl ?_
        (try simp only [Act.put, nA, nB, nC])
        first | refine dL1 hS 4 rfl rfl rfl rfl ?_ | refine dL2 hS 4 rfl rfl rfl rfl ?_ | refine dL3 hS 4 rfl rfl rfl ?_ | refine dL4 hS 4 rfl rfl rfl ?_ | refine dL5 hS 4 rfl rfl rfl ?_ | refine dL6 hS 4 rfl rfl rfl ?_ | refine dL7 hS 4 rfl rfl rfl ?_
        (try simp only [Act.put, nA, nB, nC])
        refine dM hS 5 rfl rfl rfl ?_
        (try simp only [Act.put, nA, nB, nC])
        refine dr_one 6 (by kernel_rfl) rfl ?_
        (refine sU1 hS rfl rfl rfl rfl ?_; clear hS; intro w hS)
        (try simp only [Act.put, nA, nB, nC])
        refine dr_end hS ?_
        refine dr_done (by kernel_rfl) ?_
        go_wp2_with (first | (refine oL ?_; (first | refine sL1 hS rfl rfl rfl ?_ | refine sL2 hS rfl rfl rfl ?_ | refine sL3 hS rfl rfl ?_ | refine sL4 hS rfl rfl ?_ | refine sL5 hS rfl rfl ?_ | refine sL6 hS rfl rfl ?_ | refine sL7 hS rfl rfl ?_)) | (refine oS ?_; ((first | refine sS1 hS rfl rfl rfl ?_ | refine sS2 hS rfl rfl rfl ?_ | refine sS3 hS rfl rfl rfl ?_ | refine sS4 hS rfl rfl rfl ?_ | refine sS5 hS rfl rfl rfl ?_); clear hS; intro w hS)) | ((first | (refine oB ?_; first | refine sB1 hS rfl rfl ?_ | refine sB2 hS rfl rfl ?_) | refine sM1 hS rfl rfl rfl ?_); clear hS; first | ((fail_if_success guard_hyp g1); intro g1 w hS) | ((fail_if_success guard_hyp g2); intro g2 w hS) | ((fail_if_success guard_hyp g3); intro g3 w hS) | ((fail_if_success guard_hyp g4); intro g4 w hS) | fail) | fail)
        go_ret
        have hri : RI (Orn S w0) w (some ⟨g2, 0, none⟩) (List.replicate p.len.length 0) := hS.riH
        have hcap : capOk p.len.length p.len.length := ⟨Nat.le_refl _, by omega⟩
        exact ⟨some ⟨g2, 0, none⟩, p.len.length, _, _, rfl, clk_zero hg hqn', hri, hcap, hS.mapAt, hS.mapAt, (HH.out.2.2.into (hS.intoS HH.out.2.1)).put (clk_zero hg hqn') hri hcap, hS.keep⟩
      · have hk1 : 1 ≤ k := by have := hpt.2.1; simp only at this; omega
        have hkl : k ≤ nth p.len q := hpt.2.2
        have hk64 := hg.hi q hqn'
        have hrk1 : rk q (k - 1) < f := by
          have := hr.1 q hqn' (k - 1) (by omega) (by omega)
          rw [show k - 1 + 1 = k by omega] at this; omega
        go_enter Try.func64, Try.ntmps64
        go_wp2_with (first | (refine oL ?_; (first | refine sL1 hS rfl rfl rfl ?_ | refine sL2 hS rfl rfl rfl ?_ | refine sL3 hS rfl rfl ?_ | refine sL4 hS rfl rfl ?_ | refine sL5 hS rfl rfl ?_ | refine sL6 hS rfl rfl ?_ | refine sL7 hS rfl rfl ?_)) | (refine oS ?_; ((first | refine sS1 hS rfl rfl rfl ?_ | refine sS2 hS rfl rfl rfl ?_ | refine sS3 hS rfl rfl rfl ?_ | refine sS4 hS rfl rfl rfl ?_ | refine sS5 hS rfl rfl rfl ?_); clear hS; intro w hS)) | ((first | (refine oB ?_; first | refine sB1 hS rfl rfl ?_ | refine sB2 hS rfl rfl ?_) | refine sM1 hS rfl rfl rfl ?_); clear hS; first | ((fail_if_success guard_hyp g1); intro g1 w hS) | ((fail_if_success guard_hyp g2); intro g2 w hS) | ((fail_if_success guard_hyp g3); intro g3 w hS) | ((fail_if_success guard_hyp g4); intro g4 w hS) | fail) | fail)
        refine dr_start0 []  hS (by kernel_rfl) rfl ?_; clear hS; intro w hS
        refine dM hS 0 rfl rfl rfl ?_
        (try simp only [Act.put, nA, nB, nC])
        refine dP hS 1 rfl rfl ?_
        (try simp only [Act.put, nA, nB, nC])
        refine dP hS 2 rfl rfl ?_
        (try simp only [Act.put, nA, nB, nC])
        first | refine dL1 hS 3 rfl rfl rfl rfl ?_ | refine dL2 hS 3 rfl rfl rfl rfl ?_ | refine dL3 hS 3 rfl rfl rfl ?_ | refine dL4 hS 3 rfl rfl rfl ?_ | refine dL5 hS 3 rfl rfl rfl ?_ | refine dL6 hS 3 rfl rfl rfl ?_ | refine dL7 hS 3 rfl rfl rfl ?_
        (try simp only [Act.put, nA, nB, nC])
        first | refine dL1 hS 4 rfl rfl rfl rfl ?_ | refine dL2 hS 4 rfl rfl rfl rfl ?_ | refine dL3 hS 4 rfl rfl rfl ?_ | refine dL4 hS 4 rfl rfl rfl ?_ | refine dL5 hS 4 rfl rfl rfl ?_ | refine dL6 hS 4 rfl rfl rfl ?_ | refine dL7 hS 4 rfl rfl rfl ?_
        (try simp only [Act.put, nA, nB, nC])
        first | refine dK1 hS 5 rfl rfl rfl rfl ?_ | refine dK2 hS 5 rfl rfl rfl rfl ?_ | refine dK3 hS 5 rfl rfl rfl rfl ?_
        (try simp only [Act.put, nA, nB, nC])
        refine dM hS 6 rfl rfl rfl ?_
        (try simp only [Act.put, nA, nB, nC])
        refine dP hS 7 rfl rfl ?_
        (try simp only [Act.put, nA, nB, nC])
        refine dP hS 8 rfl rfl ?_
        (try simp only [Act.put, nA, nB, nC])
        refine dA hS 9 rfl rfl rfl ?_
        (try simp only [Act.put, nA, nB, nC])
        refine dA hS 10 rfl rfl rfl ?_
        (try simp only [Act.put, nA, nB, nC])
        refine dr_done (by kernel_rfl) ?_
        go_wp2_with (first | (refine oL ?_; (first | refine sL1 hS rfl rfl rfl ?_ | refine sL2 hS rfl rfl rfl ?_ | refine sL3 hS rfl rfl ?_ | refine sL4 hS rfl rfl ?_ | refine sL5 hS rfl rfl ?_ | refine sL6 hS rfl rfl ?_ | refine sL7 hS rfl rfl ?_)) | (refine oS ?_; ((first | refine sS1 hS rfl rfl rfl ?_ | refine sS2 hS rfl rfl rfl ?_ | refine sS3 hS rfl rfl rfl ?_ | refine sS4 hS rfl rfl rfl ?_ | refine sS5 hS rfl rfl rfl ?_); clear hS; intro w hS)) | ((first | (refine oB ?_; first | refine sB1 hS rfl rfl ?_ | refine sB2 hS rfl rfl ?_) | refine sM1 hS rfl rfl rfl ?_); clear hS; first | ((fail_if_success guard_hyp g1); intro g1 w hS) | ((fail_if_success guard_hyp g2); intro g2 w hS) | ((fail_if_success guard_hyp g3); intro g3 w hS) | ((fail_if_success guard_hyp g4); intro g4 w hS) | fail) | fail)
        go_at_call 64
        have hHB : HistB w gh gs gc A1 p.len.length c1 (srcM p.arcs) cm := ⟨(hS.keep.block gh (lt_of_block HH.out.1.blk) hgh).trans HH.out.1.blk, hS.mapAt, hS.mapAt, HH.out.1.d1, HH.out.1.d2, HH.out.1.d3⟩
        refine (HI.out q (k - 1) S cm w hrk1 ⟨hqn', by simp only; omega, by simp only; omega⟩ hHB (fun b hb => ⟨HH.out.2.1 b hb, Nat.lt_of_lt_of_le (hSl b hb) hS.le⟩) (HH.out.2.2.into (hS.into HH.out.2.1))).mono ?_
        rintro e u1 ⟨L1, cap1, c1', cm1, rfl, hclk1, hri1, hcap1, hm1, hm2, hmm1, hkeep⟩
        have hwl := hS.le
        obtain ⟨N1, hN1⟩ : ∃ N : Nat → Prop, N = fun k => w.heap.size ≤ k ∧ k < u1.heap.size := ⟨_, rfl⟩
        replace hS := hS.usedH hkeep hm1 hm2
        rw [← hN1] at hS
        have hin1 : Into (Orn S w) (fun b => S b ∨ N1 b) u1 u1 := fun b hb hl => ⟨by rcases hb with hb | hb; exact .inl hb; exact .inr (by rw [hN1]; exact ⟨hb, hl⟩), rfl⟩
        replace hri1 := hri1.into hin1
        replace hmm1 := hmm1.into hin1
        have hK1 := hS.keep
        have hl1 := hclk1.len
        have HL1 := Lib.hid hl1
        have hq1 : q < c1'.length := by rw [hl1]; exact hqn'
        clear hl1
        cases hsrc : srcF p.arcs ((q : Int), k) with
        | none =>
          have hsm : srcM p.arcs ((q : Int), k) = none := by simp [srcM, hsrc]
          go_wp2_with (first | (refine st_copyI hS rfl rfl hri1 HL1.out ?_; clear hS; intro w hS) | (refine oL ?_; (first | refine sL1 hS rfl rfl rfl ?_ | refine sL2 hS rfl rfl rfl ?_ | refine sL3 hS rfl rfl ?_ | refine sL4 hS rfl rfl ?_ | refine sL5 hS rfl rfl ?_ | refine sL6 hS rfl rfl ?_ | refine sL7 hS rfl rfl ?_)) | (refine oS ?_; ((first | refine sS1 hS rfl rfl rfl ?_ | refine sS2 hS rfl rfl rfl ?_ | refine sS3 hS rfl rfl rfl ?_ | refine sS4 hS rfl rfl rfl ?_ | refine sS5 hS rfl rfl rfl ?_); clear hS; intro w hS)) | ((first | (refine oB ?_; first | refine sB1 hS rfl rfl ?_ | refine sB2 hS rfl rfl ?_) | refine sM1 hS rfl rfl rfl ?_); clear hS; first | ((fail_if_success guard_hyp g1); intro g1 w hS) | ((fail_if_success guard_hyp g2); intro g2 w hS) | ((fail_if_success guard_hyp g3); intro g3 w hS) | ((fail_if_success guard_hyp g4); intro g4 w hS) | fail) | fail)
          refine dr_start0 []  hS (by kernel_rfl) rfl ?_; clear hS; intro w hS
          refine dM hS 0 rfl rfl rfl ?_
          (try simp only [Act.put, nA, nB, nC])
          refine dP hS 1 rfl rfl ?_
          (try simp only [Act.put, nA, nB, nC])
          refine dP hS 2 rfl rfl ?_
          (try simp only [Act.put, nA, nB, nC])
          first | refine dL1 hS 3 rfl rfl rfl rfl ?_ | refine dL2 hS 3 rfl rfl rfl rfl ?_ | refine dL3 hS 3 rfl rfl rfl ?_ | refine dL4 hS 3 rfl rfl rfl ?_ | refine dL5 hS 3 rfl rfl rfl ?_ | refine dL6 hS 3 rfl rfl rfl ?_ | refine dL7 hS 3 rfl rfl rfl ?_
          (try simp only [Act.put, nA, nB, nC])
          first | refine dL1 hS 4 rfl rfl rfl rfl ?_ | refine dL2 hS 4 rfl rfl rfl rfl ?_ | refine dL3 hS 4 rfl rfl rfl ?_ | refine dL4 hS 4 rfl rfl rfl ?_ | refine dL5 hS 4 rfl rfl rfl ?_ | refine dL6 hS 4 rfl rfl rfl ?_ | refine dL7 hS 4 rfl rfl rfl ?_
          (try simp only [Act.put, nA, nB, nC])
          first | refine dK1 hS 5 rfl rfl rfl rfl ?_ | refine dK2 hS 5 rfl rfl rfl rfl ?_ | refine dK3 hS 5 rfl rfl rfl rfl ?_
          (try simp only [Act.put, nA, nB, nC])
          refine dM hS 6 rfl rfl rfl ?_
          (try simp only [Act.put, nA, nB, nC])
          refine dP hS 7 rfl rfl ?_
          (try simp only [Act.put, nA, nB, nC])
          refine dP hS 8 rfl rfl ?_
          (try simp only [Act.put, nA, nB, nC])
          refine dr_one 9 (by kernel_rfl) rfl ?_
          (refine sN1 hS rfl ?_; clear hS; first | ((fail_if_success guard_hyp g1); intro g1 w hS) | ((fail_if_success guard_hyp g2); intro g2 w hS) | ((fail_if_success guard_hyp g3); intro g3 w hS) | ((fail_if_success guard_hyp g4); intro g4 w hS) | fail)
          (try simp only [Act.put, nA, nB, nC])
          refine dr_end hS ?_
          refine dr_one 10 (by kernel_rfl) rfl ?_
          ((first | refine sS1 hS rfl rfl rfl ?_ | refine sS2 hS rfl rfl rfl ?_ | refine sS3 hS rfl rfl rfl ?_ | refine sS4 hS rfl rfl rfl ?_ | refine sS5 hS rfl rfl rfl ?_); clear hS; intro w hS)
          (try simp only [Act.put, nA, nB, nC])
          refine dr_end hS ?_
          refine dA hS 11 rfl rfl rfl ?_
          (try simp only [Act.put, nA, nB, nC])
          refine dr_done (by kernel_rfl) ?_
          go_wp2_with (first | (refine oL ?_; (first | refine sL1 hS rfl rfl rfl ?_ | refine sL2 hS rfl rfl rfl ?_ | refine sL3 hS rfl rfl ?_ | refine sL4 hS rfl rfl ?_ | refine sL5 hS rfl rfl ?_ | refine sL6 hS rfl rfl ?_ | refine sL7 hS rfl rfl ?_)) | (refine oS ?_; ((first | refine sS1 hS rfl rfl rfl ?_ | refine sS2 hS rfl rfl rfl ?_ | refine sS3 hS rfl rfl rfl ?_ | refine sS4 hS rfl rfl rfl ?_ | refine sS5 hS rfl rfl rfl ?_); clear hS; intro w hS)) | ((first | (refine oB ?_; first | refine sB1 hS rfl rfl ?_ | refine sB2 hS rfl rfl ?_) | refine sM1 hS rfl rfl rfl ?_); clear hS; first | ((fail_if_success guard_hyp g1); intro g1 w hS) | ((fail_if_success guard_hyp g2); intro g2 w hS) | ((fail_if_success guard_hyp g3); intro g3 w hS) | ((fail_if_success guard_hyp g4); intro g4 w hS) | fail) | fail)
          refine dr_start1 [] 2 hS (by kernel_rfl) rfl ?_; clear hS; intro w hS
          refine dM hS 0 rfl rfl rfl ?_
          (try simp only [Act.put, nA, nB, nC])
          refine dP hS 1 rfl rfl ?_
          (try simp only [Act.put, nA, nB, nC])
          refine dP hS 2 rfl rfl ?_
          (try simp only [Act.put, nA, nB, nC])
          first | refine dL1 hS 3 rfl rfl rfl rfl ?_ | refine dL2 hS 3 rfl rfl rfl rfl ?_ | refine dL3 hS 3 rfl rfl rfl ?_ | refine dL4 hS 3 rfl rfl rfl ?_ | refine dL5 hS 3 rfl rfl rfl ?_ | refine dL6 hS 3 rfl rfl rfl ?_ | refine dL7 hS 3 rfl rfl rfl ?_
          (try simp only [Act.put, nA, nB, nC])
          first | refine dL1 hS 4 rfl rfl rfl rfl ?_ | refine dL2 hS 4 rfl rfl rfl rfl ?_ | refine dL3 hS 4 rfl rfl rfl ?_ | refine dL4 hS 4 rfl rfl rfl ?_ | refine dL5 hS 4 rfl rfl rfl ?_ | refine dL6 hS 4 rfl rfl rfl ?_ | refine dL7 hS 4 rfl rfl rfl ?_
          (try simp only [Act.put, nA, nB, nC])
          refine dM hS 5 rfl rfl rfl ?_
          (try simp only [Act.put, nA, nB, nC])
          refine dr_one 6 (by kernel_rfl) rfl ?_
          (refine sU1 hS rfl rfl rfl rfl ?_; clear hS; intro w hS)
          (try simp only [Act.put, nA, nB, nC])
          refine dr_end hS ?_
          refine dr_done (by kernel_rfl) ?_
          go_wp2_with (first | (refine oL ?_; (first | refine sL1 hS rfl rfl rfl ?_ | refine sL2 hS rfl rfl rfl ?_ | refine sL3 hS rfl rfl ?_ | refine sL4 hS rfl rfl ?_ | refine sL5 hS rfl rfl ?_ | refine sL6 hS rfl rfl ?_ | refine sL7 hS rfl rfl ?_)) | (refine oS ?_; ((first | refine sS1 hS rfl rfl rfl ?_ | refine sS2 hS rfl rfl rfl ?_ | refine sS3 hS rfl rfl rfl ?_ | refine sS4 hS rfl rfl rfl ?_ | refine sS5 hS rfl rfl rfl ?_); clear hS; intro w hS)) | ((first | (refine oB ?_; first | refine sB1 hS rfl rfl ?_ | refine sB2 hS rfl rfl ?_) | refine sM1 hS rfl rfl rfl ?_); clear hS; first | ((fail_if_success guard_hyp g1); intro g1 w hS) | ((fail_if_success guard_hyp g2); intro g2 w hS) | ((fail_if_success guard_hyp g3); intro g3 w hS) | ((fail_if_success guard_hyp g4); intro g4 w hS) | fail) | fail)
          go_ret
          have hstep := clk_step hg hqn' hk1 hkl hclk1 (srcF_none hsrc hk0)
          have hri : RI (Orn S w0) w (some ⟨g2, 0, none⟩) (c1'.set q k) := hS.riH
          have hcap : capOk p.len.length p.len.length := ⟨Nat.le_refl _, by omega⟩
          have hi := hS.intoN (N := N1) (u := u1) hSl HH.out.2.1 hK1
          have hi2 : Into (fun b => S b ∨ N1 b) (Orn S w0) u1 w := hi.widen (fun b hb => hb.imp id (fun h => by rw [hN1] at h; omega))
          exact ⟨some ⟨g2, 0, none⟩, p.len.length, _, _, rfl, hstep, hri, hcap, hS.mapAt, hS.mapAt, (hmm1.into hi2).put hstep hri hcap, hS.keep⟩
        | some s =>
          obtain ⟨ar, har, hto, hat, _, rfl⟩ := srcF_some hsrc
          have hsm : srcM p.arcs ((q : Int), k) = some (.agg #[.int .i64 (ar.fr : Int), .int .i64 ar.ix]) := by simp [srcM, hsrc]
          have HA := Lib.hid (And.intro har (And.intro hto hat))
          clear hto hat
          have hoa := hg.arc ar har
          have hrk2 : rk ar.fr ar.ix < f := by have := hr.2 ar har (by rw [HA.out.2.2]; omega); rw [HA.out.2.1, HA.out.2.2] at this; omega
          go_wp2_with (first | (refine st_copyI hS rfl rfl hri1 HL1.out ?_; clear hS; intro w hS) | (refine oL ?_; (first | refine sL1 hS rfl rfl rfl ?_ | refine sL2 hS rfl rfl rfl ?_ | refine sL3 hS rfl rfl ?_ | refine sL4 hS rfl rfl ?_ | refine sL5 hS rfl rfl ?_ | refine sL6 hS rfl rfl ?_ | refine sL7 hS rfl rfl ?_)) | (refine oS ?_; ((first | refine sS1 hS rfl rfl rfl ?_ | refine sS2 hS rfl rfl rfl ?_ | refine sS3 hS rfl rfl rfl ?_ | refine sS4 hS rfl rfl rfl ?_ | refine sS5 hS rfl rfl rfl ?_); clear hS; intro w hS)) | ((first | (refine oB ?_; first | refine sB1 hS rfl rfl ?_ | refine sB2 hS rfl rfl ?_) | refine sM1 hS rfl rfl rfl ?_); clear hS; first | ((fail_if_success guard_hyp g1); intro g1 w hS) | ((fail_if_success guard_hyp g2); intro g2 w hS) | ((fail_if_success guard_hyp g3); intro g3 w hS) | ((fail_if_success guard_hyp g4); intro g4 w hS) | fail) | fail)
          refine dr_start0 []  hS (by kernel_rfl) rfl ?_; clear hS; intro w hS
          refine dM hS 0 rfl rfl rfl ?_
          (try simp only [Act.put, nA, nB, nC])
          refine dP hS 1 rfl rfl ?_
          (try simp only [Act.put, nA, nB, nC])
          refine dP hS 2 rfl rfl ?_
          (try simp only [Act.put, nA, nB, nC])
          first | refine dL1 hS 3 rfl rfl rfl rfl ?_ | refine dL2 hS 3 rfl rfl rfl rfl ?_ | refine dL3 hS 3 rfl rfl rfl ?_ | refine dL4 hS 3 rfl rfl rfl ?_ | refine dL5 hS 3 rfl rfl rfl ?_ | refine dL6 hS 3 rfl rfl rfl ?_ | refine dL7 hS 3 rfl rfl rfl ?_
          (try simp only [Act.put, nA, nB, nC])
          first | refine dL1 hS 4 rfl rfl rfl rfl ?_ | refine dL2 hS 4 rfl rfl rfl rfl ?_ | refine dL3 hS 4 rfl rfl rfl ?_ | refine dL4 hS 4 rfl rfl rfl ?_ | refine dL5 hS 4 rfl rfl rfl ?_ | refine dL6 hS 4 rfl rfl rfl ?_ | refine dL7 hS 4 rfl rfl rfl ?_
          (try simp only [Act.put, nA, nB, nC])
          first | refine dK1 hS 5 rfl rfl rfl rfl ?_ | refine dK2 hS 5 rfl rfl rfl rfl ?_ | refine dK3 hS 5 rfl rfl rfl rfl ?_
          (try simp only [Act.put, nA, nB, nC])
          refine dM hS 6 rfl rfl rfl ?_
          (try simp only [Act.put, nA, nB, nC])
          refine dP hS 7 rfl rfl ?_
          (try simp only [Act.put, nA, nB, nC])
          refine dP hS 8 rfl rfl ?_
          (try simp only [Act.put, nA, nB, nC])
          refine dr_one 9 (by kernel_rfl) rfl ?_
          (refine sN1 hS rfl ?_; clear hS; first | ((fail_if_success guard_hyp g1); intro g1 w hS) | ((fail_if_success guard_hyp g2); intro g2 w hS) | ((fail_if_success guard_hyp g3); intro g3 w hS) | ((fail_if_success guard_hyp g4); intro g4 w hS) | fail)
          (try simp only [Act.put, nA, nB, nC])
          refine dr_end hS ?_
          refine dr_one 10 (by kernel_rfl) rfl ?_
          ((first | refine sS1 hS rfl rfl rfl ?_ | refine sS2 hS rfl rfl rfl ?_ | refine sS3 hS rfl rfl rfl ?_ | refine sS4 hS rfl rfl rfl ?_ | refine sS5 hS rfl rfl rfl ?_); clear hS; intro w hS)
          (try simp only [Act.put, nA, nB, nC])
          refine dr_end hS ?_
          refine dA hS 11 rfl rfl rfl ?_
          (try simp only [Act.put, nA, nB, nC])
          refine dr_done (by kernel_rfl) ?_
          go_wp2_with (first | (refine oL ?_; (first | refine sL1 hS rfl rfl rfl ?_ | refine sL2 hS rfl rfl rfl ?_ | refine sL3 hS rfl rfl ?_ | refine sL4 hS rfl rfl ?_ | refine sL5 hS rfl rfl ?_ | refine sL6 hS rfl rfl ?_ | refine sL7 hS rfl rfl ?_)) | (refine oS ?_; ((first | refine sS1 hS rfl rfl rfl ?_ | refine sS2 hS rfl rfl rfl ?_ | refine sS3 hS rfl rfl rfl ?_ | refine sS4 hS rfl rfl rfl ?_ | refine sS5 hS rfl rfl rfl ?_); clear hS; intro w hS)) | ((first | (refine oB ?_; first | refine sB1 hS rfl rfl ?_ | refine sB2 hS rfl rfl ?_) | refine sM1 hS rfl rfl rfl ?_); clear hS; first | ((fail_if_success guard_hyp g1); intro g1 w hS) | ((fail_if_success guard_hyp g2); intro g2 w hS) | ((fail_if_success guard_hyp g3); intro g3 w hS) | ((fail_if_success guard_hyp g4); intro g4 w hS) | fail) | fail)
          go_at_call 64
          have hi1 := hS.intoN (N := N1) (u := u1) hSl HH.out.2.1 hK1
          have hHB2 : HistB w gh gs gc A1 p.len.length c1 (srcM p.arcs) cm1 := ⟨(hS.keep.block gh (lt_of_block HH.out.1.blk) hgh).trans HH.out.1.blk, hS.mapAt, hS.mapAt, HH.out.1.d1, HH.out.1.d2, HH.out.1.d3⟩
          have hNn1 : ∀ b, N1 b → w0.heap.size ≤ b := fun b hb => by rw [hN1] at hb; omega
          have hNl1 : ∀ b, N1 b → b < w.heap.size := fun b hb => (froz N1 u1 : Chunk w0 (fun k => k = gc ∨ k = gs)).lt (hS.all _ (by simp)) hb
          have hlgc : gc < w0.heap.size := by obtain ⟨_, _, _, h, _⟩ := HH.out.1.clk; exact lt_of_block h
          have hlgs : gs < w0.heap.size := by obtain ⟨_, _, _, h, _⟩ := HH.out.1.src; exact lt_of_block h
          refine (HI.out ar.fr ar.ix (fun b => S b ∨ N1 b) cm1 w hrk2 ⟨hoa.fr, hoa.ix0, hoa.ix1⟩ hHB2 (fun b hb => ?_) (hmm1.into hi1)).mono ?_
          · rcases hb with hb | hb
            · exact ⟨HH.out.2.1 b hb, Nat.lt_of_lt_of_le (hSl b hb) hS.le⟩
            · exact ⟨fun h => by have := hNn1 b hb; omega, hNl1 b hb⟩
          rintro e u2 ⟨L2, cap2, c2', cm2, rfl, hclk2, hri2, hcap2, hm3, hm4, hmm2, hkeep2⟩
          have hwl2 := hS.le
          obtain ⟨N2, hN2⟩ : ∃ N : Nat → Prop, N = fun k => w.heap.size ≤ k ∧ k < u2.heap.size := ⟨_, rfl⟩
          replace hS := hS.usedH hkeep2 hm3 hm4
          rw [← hN2] at hS
          have hin2 : Into (Orn (fun b => S b ∨ N1 b) w) (fun b => (S b ∨ N1 b) ∨ N2 b) u2 u2 := fun b hb hl => ⟨by rcases hb with hb | hb; exact .inl hb; exact .inr (by rw [hN2]; exact ⟨hb, hl⟩), rfl⟩
          replace hri2 := hri2.into hin2
          replace hmm2 := hmm2.into hin2
          have hK2 := hS.keep
          have HF := Lib.hid (hS.frozAt (N := N1) (u := u1))
          have HL2 := Lib.hid hclk2.len
          have hoff : ∀ b, (S b ∨ N1 b) ∨ N2 b → b ≠ g2 := by
            have hg2 : w0.heap.size ≤ g2 := hS.newH (c := row (.slice (some ⟨g2, 0, none⟩) p.len.length p.len.length) 3 1 p.len.length (ints c1')) g2 rfl
            intro b hb
            rcases hb with (hb | hb) | hb
            · have := hSl b hb; omega
            · exact hS.offRow (c := froz N1 u1) b hb
            · exact hS.offRow (c := froz N2 u2) b hb
          have hqz : q < (List.zipWith max c1' c2').length := by simp [HL1.out, HL2.out, hqn']
          go_wp2_with (first | (go_at_call 67; refine (raise_st hS HL1.out hri2 hoff HL2.out (by omega)).mono ?_; rintro e w ⟨rfl, hS⟩) | (refine oL ?_; (first | refine sL1 hS rfl rfl rfl ?_ | refine sL2 hS rfl rfl rfl ?_ | refine sL3 hS rfl rfl ?_ | refine sL4 hS rfl rfl ?_ | refine sL5 hS rfl rfl ?_ | refine sL6 hS rfl rfl ?_ | refine sL7 hS rfl rfl ?_)) | (refine oS ?_; ((first | refine sS1 hS rfl rfl rfl ?_ | refine sS2 hS rfl rfl rfl ?_ | refine sS3 hS rfl rfl rfl ?_ | refine sS4 hS rfl rfl rfl ?_ | refine sS5 hS rfl rfl rfl ?_); clear hS; intro w hS)) | ((first | (refine oB ?_; first | refine sB1 hS rfl rfl ?_ | refine sB2 hS rfl rfl ?_) | refine sM1 hS rfl rfl rfl ?_); clear hS; first | ((fail_if_success guard_hyp g1); intro g1 w hS) | ((fail_if_success guard_hyp g2); intro g2 w hS) | ((fail_if_success guard_hyp g3); intro g3 w hS) | ((fail_if_success guard_hyp g4); intro g4 w hS) | fail) | fail)
          refine dr_start1 [] 1 hS (by kernel_rfl) rfl ?_; clear hS; intro w hS
          refine dM hS 0 rfl rfl rfl ?_
          (try simp only [Act.put, nA, nB, nC])
          refine dP hS 1 rfl rfl ?_
          (try simp only [Act.put, nA, nB, nC])
          refine dP hS 2 rfl rfl ?_
          (try simp only [Act.put, nA, nB, nC])
          first | refine dL1 hS 3 rfl rfl rfl rfl ?_ | refine dL2 hS 3 rfl rfl rfl rfl ?_ | refine dL3 hS 3 rfl rfl rfl ?_ | refine dL4 hS 3 rfl rfl rfl ?_ | refine dL5 hS 3 rfl rfl rfl ?_ | refine dL6 hS 3 rfl rfl rfl ?_ | refine dL7 hS 3 rfl rfl rfl ?_
          (try simp only [Act.put, nA, nB, nC])
          first | refine dL1 hS 4 rfl rfl rfl rfl ?_ | refine dL2 hS 4 rfl rfl rfl rfl ?_ | refine dL3 hS 4 rfl rfl rfl ?_ | refine dL4 hS 4 rfl rfl rfl ?_ | refine dL5 hS 4 rfl rfl rfl ?_ | refine dL6 hS 4 rfl rfl rfl ?_ | refine dL7 hS 4 rfl rfl rfl ?_
          (try simp only [Act.put, nA, nB, nC])
          refine dM hS 5 rfl rfl rfl ?_
          (try simp only [Act.put, nA, nB, nC])
          refine dr_one 6 (by kernel_rfl) rfl ?_
          (refine sU1 hS rfl rfl rfl rfl ?_; clear hS; intro w hS)
          (try simp only [Act.put, nA, nB, nC])
          refine dr_end hS ?_
          refine dr_done (by kernel_rfl) ?_
          go_wp2_with (first | (refine oL ?_; (first | refine sL1 hS rfl rfl rfl ?_ | refine sL2 hS rfl rfl rfl ?_ | refine sL3 hS rfl rfl ?_ | refine sL4 hS rfl rfl ?_ | refine sL5 hS rfl rfl ?_ | refine sL6 hS rfl rfl ?_ | refine sL7 hS rfl rfl ?_)) | (refine oS ?_; ((first | refine sS1 hS rfl rfl rfl ?_ | refine sS2 hS rfl rfl rfl ?_ | refine sS3 hS rfl rfl rfl ?_ | refine sS4 hS rfl rfl rfl ?_ | refine sS5 hS rfl rfl rfl ?_); clear hS; intro w hS)) | ((first | (refine oB ?_; first | refine sB1 hS rfl rfl ?_ | refine sB2 hS rfl rfl ?_) | refine sM1 hS rfl rfl rfl ?_); clear hS; first | ((fail_if_success guard_hyp g1); intro g1 w hS) | ((fail_if_success guard_hyp g2); intro g2 w hS) | ((fail_if_success guard_hyp g3); intro g3 w hS) | ((fail_if_success guard_hyp g4); intro g4 w hS) | fail) | fail)
          go_ret
          have hstep := clk_recv hg hr HA.out.1 HA.out.2.1 HA.out.2.2 hk1 hclk1 hclk2
          have hri : RI (Orn S w0) w (some ⟨g2, 0, none⟩) ((List.zipWith max c1' c2').set q k) := hS.riH
          have hcap : capOk p.len.length p.len.length := ⟨Nat.le_refl _, by omega⟩
          have hi := hS.intoN2 (N1 := N1) (u1 := u1) (N2 := N2) (u2 := u2) HF.out hSl HH.out.2.1 hK2
          have hi2 : Into (fun b => (S b ∨ N1 b) ∨ N2 b) (Orn S w0) u2 w := hi.widen (fun b hb => by
            rcases hb with (hb | hb) | hb
            · exact .inl hb
            · exact .inr (hNn1 b hb)
            · exact .inr (by rw [hN2] at hb; omega))
          exact ⟨some ⟨g2, 0, none⟩, p.len.length, _, _, rfl, hstep, hri, hcap, hS.mapAt, hS.mapAt, (hmm2.into hi2).put hstep hri hcap, hS.keep⟩
end Go.Proofs.Ytkflmichekpfbaa

/- causal.Clock, causal.Past. Conditions: the pattern is good and lies in memory, the points are points of it. -/
namespace Go.Proofs.Ytkflmichekpfbaa
open Go.RowKit
set_option linter.unusedVariables false
set_option linter.unusedSimpArgs false
set_option linter.unusedSectionVars false

/-- c is the least consistent cut that contains the points of l -/
structure IsPast (p : Pat) (l : List (Nat × Int)) (c : List Int) : Prop where
  v : validB p.len c = true
  s : consB p.arcs c = true
  h : ∀ a ∈ l, a.2 ≤ nth c a.1
  l : ∀ z, validB p.len z = true → consB p.arcs z = true → (∀ a ∈ l, a.2 ≤ nth z a.1) → Le p.len.length c z
theorem IsPast.len {p : Pat} {l : List (Nat × Int)} {c : List Int} (h : IsPast p l c) : c.length = p.len.length := (valid_iff.1 h.v).1
theorem IsPast.unique {p : Pat} {l : List (Nat × Int)} {c d : List Int} (h : IsPast p l c) (h' : IsPast p l d) : c = d :=
  le_antisymm h.len h'.len (h.l d h'.v h'.s h'.h) (h'.l c h.v h.s h.h)
theorem past_nil {p : Pat} (hg : Good p) : IsPast p [] (List.replicate p.len.length 0) :=
  ⟨valid_zero hg, cons_zero hg, by simp, fun z hz _ _ => fun k hk => by rw [nth_rep]; exact ((valid_iff.1 hz).2 k hk).1⟩
theorem past_snoc {p : Pat} (hg : Good p) {l : List (Nat × Int)} {c d : List Int} {q : Nat} {k : Int} (hl : ∀ a ∈ l, a.1 < p.len.length) (hq : q < p.len.length) (h : IsPast p l c) (h' : IsClk p q k d) : IsPast p (l ++ [(q, k)]) (List.zipWith max c d) := by
  have hj := join_good hg h.v h'.v h.s h'.s
  have hcd : c.length = d.length := by rw [h.len, h'.len]
  have hz : zipI max c d = List.zipWith max c d := by simp [zipI, hcd]
  rw [hz] at hj
  have hnj : ∀ r, r < p.len.length → nth (List.zipWith max c d) r = max (nth c r) (nth d r) := fun r hr => by rw [← hz]; exact zipI_nth hcd (by rw [h'.len]; exact hr)
  refine ⟨hj.1, hj.2.1, fun a ha => ?_, fun z hz' hc hp => fun r hr => ?_⟩
  · rcases List.mem_append.1 ha with ha | ha
    · have := h.h a ha
      rw [hnj _ (hl a ha)]; omega
    · simp only [List.mem_singleton] at ha
      subst ha
      have := h'.e
      simp only
      rw [hnj _ hq]; omega
  · rw [hnj r hr]
    have h1 := h.l z hz' hc (fun a ha => hp a (by simp [ha])) r hr
    have h2 := h'.l z hz' hc (hp (q, k) (by simp)) r hr
    omega
theorem reps_pts (w : World) : ∀ (l : List (Nat × Int)), Reps (repPt w) 2 (l.flatMap ptCells) l
  | [] => rfl
  | a :: l => ⟨ptCells a, l.flatMap ptCells, by simp, rfl, rfl, reps_pts w l⟩
section
variable {w0 w w' : World} {M : Nat → Prop} {cs : List (Chunk w0 M)} {f f1 f2 f3 : Chunk w0 M → List (Chunk w0 M)} {gh gs gc n c1 : Nat} {A1 : Option Addr} {sm cm : Int × Int → Option Value}
theorem St.addHist (h : St w0 M cs w) (hx : Ext w w') (hH : HistB w' gh gs gc A1 n c1 sm cm) (h1 : w.heap.size ≤ gh) (h2 : w.heap.size ≤ gs) (h3 : w.heap.size ≤ gc) :
    St w0 M (mpc gc cm :: mpc gs sm :: blk gh [.slice A1 n c1, .map (some gs), .map (some gc)] 75 :: cs) w' := by
  have ha : St w0 M (pair (mpc gc cm) (pair (mpc gs sm) (blk gh [.slice A1 n c1, .map (some gs), .map (some gc)] 75)) :: cs) w' := by
    refine h.add hx ⟨hH.clk, ⟨hH.src, hH.blk, fun k e1 e2 => hH.d1 (by rw [← show k = gh from e2, ← show k = gs from e1])⟩, fun k e1 e2 => ?_⟩ (fun k hk => ?_)
    · rcases e2 with e2 | e2
      · exact hH.d3 (by rw [← show k = gs from e2, ← show k = gc from e1])
      · exact hH.d2 (by rw [← show k = gh from e2, ← show k = gc from e1])
    · rcases hk with hk | hk | hk
      · rw [show k = gc from hk]; exact h3
      · rw [show k = gs from hk]; exact h2
      · rw [show k = gh from hk]; exact h1
  have hb := ha.split
  have hc := (hb.perm (List.Perm.swap _ _ _)).split
  exact hc.perm ((List.Perm.cons _ (List.Perm.swap _ _ _)).trans (List.Perm.swap _ _ _))
theorem St.hist (h : St w0 M cs w) (d1 : gh ≠ gs) (d2 : gh ≠ gc) (d3 : gs ≠ gc) [hp1 : PickB gh cs [.slice A1 n c1, .map (some gs), .map (some gc)] 75 f1] [hp2 : PickM gs cs sm f2] [hp3 : PickM gc cs cm f3] : HistB w gh gs gc A1 n c1 sm cm :=
  ⟨(hp1.eq ▸ h : St w0 M (f1 (blk gh [.slice A1 n c1, .map (some gs), .map (some gc)] 75)) w).at_ hp1.gap, h.mapAt (f := f2), h.mapAt (f := f3), d1, d2, d3⟩
theorem St.frozOff {T : Nat → Prop} {u : World} (h : St w0 M cs w) [hp : PickK (froz T u) cs f] [hp2 : PickM gs (f nop) sm f2] [hp3 : PickM gc (f nop) cm f3] : ∀ b, T b → ¬ (b = gc ∨ b = gs) ∧ b < w.heap.size := fun b hb =>
  ⟨fun e => e.elim (fun e => h.off (c := froz T u) (d := mpc gc cm) (by rw [hp3.eq]; exact gap_mem hp3.gap) b hb e) (fun e => h.off (c := froz T u) (d := mpc gs sm) (by rw [hp2.eq]; exact gap_mem hp2.gap) b hb e), ((hp.eq ▸ h : St w0 M (f (froz T u)) w).at_ hp.gap b hb).1⟩
theorem St.ptRow {l : List (Nat × Int)} {t : TypeId} {g : Nat} {vs : List Value} (h : St w0 M cs w) [hp : PickB g cs vs t f] (hv : vs = l.flatMap ptCells) : RPt All w (some ⟨g, 0, none⟩) l := ⟨vs, h.blkRV, by rw [hv]; exact reps_pts w l⟩
end
set_option maxRecDepth 100000 in
set_option maxHeartbeats 3200000 in
theorem clock_any {S : Nat → Prop} (v : PV) (p : Pat) (q : Nat) (k : Int) (w0 : World) (hp : PatAt S w0 v p) (hg : Good p) (hpt : PtOk p (q, k)) :
    Calls Try.prog 20 #[v.val p, .int .i64 (q : Int), .int .i64 k] w0 fun e w' => ∃ (L : Option Addr) (cap : Nat) (c : List Int), e = .returned (.slice L p.len.length cap) ∧ IsClk p q k c ∧ RI (fun b => w0.heap.size ≤ b) w' L c ∧ capOk p.len.length cap ∧ Ext w0 w' := by
  have hS := St.start w0 NoM
  obtain ⟨rk, _, hr, _⟩ := hg.rank
  have hn5 := hg.n5
  have hfew := hg.few
  have HP := Lib.hid (And.intro hp (And.intro hg (And.intro hpt hr)))
  clear hp hg hpt hr
  obtain ⟨A1, c1, A2, c2, A3, c3⟩ := v
  simp only [PV.val] at *
  go_enter Try.func20, Try.ntmps20
  go_wp2_with (first | (go_at_call 62; refine (cfits_any ⟨A1, c1, A2, c2, A3, c3⟩ _ 1 p [(q, k)] _ (HP.out.1.ext hS.toExt) HP.out.2.1 (hS.ptRow (l := [(q, k)]) (by simp [ptCells])) (by intro a ha; rw [List.mem_singleton.1 ha]; exact HP.out.2.2.1) (by simp)).mono ?_; rintro e w ⟨rfl, hx1⟩; replace hS := hS.ext hx1) | (refine oL ?_; (first | refine sL1 hS rfl rfl rfl ?_ | refine sL2 hS rfl rfl rfl ?_ | refine sL3 hS rfl rfl ?_ | refine sL4 hS rfl rfl ?_ | refine sL5 hS rfl rfl ?_ | refine sL6 hS rfl rfl ?_ | refine sL7 hS rfl rfl ?_)) | (refine oS ?_; ((first | refine sS1 hS rfl rfl rfl ?_ | refine sS2 hS rfl rfl rfl ?_ | refine sS3 hS rfl rfl rfl ?_ | refine sS4 hS rfl rfl rfl ?_ | refine sS5 hS rfl rfl rfl ?_); clear hS; intro w hS)) | ((first | (refine oB ?_; first | refine sB1 hS rfl rfl ?_ | refine sB2 hS rfl rfl ?_) | refine sN1 hS rfl ?_ | (refine oC ?_; first | refine sC0 hS rfl ?_ | refine sC1 hS rfl rfl ?_ | refine sC2 hS rfl rfl ?_ | refine sC3 hS rfl rfl rfl ?_ | refine sC4 hS rfl rfl rfl ?_)); clear hS; first | ((fail_if_success guard_hyp g1); intro g1 w hS) | ((fail_if_success guard_hyp g2); intro g2 w hS) | ((fail_if_success guard_hyp g3); intro g3 w hS) | ((fail_if_success guard_hyp g4); intro g4 w hS) | fail) | fail)
  refine dr_start0 []  hS (by kernel_rfl) rfl ?_; clear hS; intro w hS
  first | refine dL1 hS 0 rfl rfl rfl rfl ?_ | refine dL2 hS 0 rfl rfl rfl rfl ?_ | refine dL3 hS 0 rfl rfl rfl ?_ | refine dL4 hS 0 rfl rfl rfl ?_ | refine dL5 hS 0 rfl rfl rfl ?_ | refine dL6 hS 0 rfl rfl rfl ?_ | refine dL7 hS 0 rfl rfl rfl ?_
  (try simp only [Act.put, nA, nB, nC])
  first | refine dL1 hS 2 rfl rfl rfl rfl ?_ | refine dL2 hS 2 rfl rfl rfl rfl ?_ | refine dL3 hS 2 rfl rfl rfl ?_ | refine dL4 hS 2 rfl rfl rfl ?_ | refine dL5 hS 2 rfl rfl rfl ?_ | refine dL6 hS 2 rfl rfl rfl ?_ | refine dL7 hS 2 rfl rfl rfl ?_
  (try simp only [Act.put, nA, nB, nC])
  refine dr_one 1 (by kernel_rfl) rfl ?_
  (refine st_call rfl (by kernel_rfl) rfl ?_; go_at_call 63; refine (newHist_any A1 A2 A3 c1 c2 c3 p.len.length p.ck.length p.arcs _ (HP.out.1.ext hS.toExt).arcs (by omega)).mono ?_; rintro e w ⟨gh, gs, gc, rfl, hH, z1, z2, z3, hx1⟩; replace hS := hS.addHist hx1 hH z1 z2 z3; have HD := Lib.hid (And.intro hH.d1 (And.intro hH.d2 hH.d3)); clear hH z1 z2 z3 hx1)
  (try simp only [Act.put, nA, nB, nC])
  refine dr_end hS ?_
  refine dr_one 3 (by kernel_rfl) rfl ?_
  (refine st_call rfl (by kernel_rfl) rfl ?_; go_at_call 64; refine (clock_rec p HP.out.2.1 rk HP.out.2.2.2 gh gs gc A1 c1 _ q k (fun _ => False) (fun _ => none) w (Nat.lt_succ_self _) HP.out.2.2.1 (hS.hist HD.out.1 HD.out.2.1 HD.out.2.2) (fun _ h => h.elim) (Memo.none _ _ _)).mono ?_; rintro e u1 ⟨L1, cap1, cl, cm1, rfl, hclk, hri, hcap, hm1, hm2, hmm, hkeep⟩; have hwl := hS.le; replace hS := hS.usedH hkeep hm1 hm2)
  (try simp only [Act.put, nA, nB, nC])
  refine dr_end hS ?_
  refine dA hS 4 rfl rfl rfl ?_
  (try simp only [Act.put, nA, nB, nC])
  refine dr_done (by kernel_rfl) ?_
  go_wp2_with (first | (refine oL ?_; (first | refine sL1 hS rfl rfl rfl ?_ | refine sL2 hS rfl rfl rfl ?_ | refine sL3 hS rfl rfl ?_ | refine sL4 hS rfl rfl ?_ | refine sL5 hS rfl rfl ?_ | refine sL6 hS rfl rfl ?_ | refine sL7 hS rfl rfl ?_)) | (refine oS ?_; ((first | refine sS1 hS rfl rfl rfl ?_ | refine sS2 hS rfl rfl rfl ?_ | refine sS3 hS rfl rfl rfl ?_ | refine sS4 hS rfl rfl rfl ?_ | refine sS5 hS rfl rfl rfl ?_); clear hS; intro w hS)) | ((first | (refine oB ?_; first | refine sB1 hS rfl rfl ?_ | refine sB2 hS rfl rfl ?_) | refine sN1 hS rfl ?_ | (refine oC ?_; first | refine sC0 hS rfl ?_ | refine sC1 hS rfl rfl ?_ | refine sC2 hS rfl rfl ?_ | refine sC3 hS rfl rfl rfl ?_ | refine sC4 hS rfl rfl rfl ?_)); clear hS; first | ((fail_if_success guard_hyp g1); intro g1 w hS) | ((fail_if_success guard_hyp g2); intro g2 w hS) | ((fail_if_success guard_hyp g3); intro g3 w hS) | ((fail_if_success guard_hyp g4); intro g4 w hS) | fail) | fail)
  go_ret
  exact ⟨L1, cap1, cl, rfl, hclk, (hri.into (fun b hb hl => ⟨by rcases hb with hb | hb; exact hb.elim; omega, rfl⟩)), hcap, hS.toExt⟩
end Go.Proofs.Ytkflmichekpfbaa

