/- The sanity check of chapter 16. No condition. -/
import Derived.Test.YtjclgbkfnliiaaaAppend
import Derived.Test.YtjclgbkfnliiaaaAwake18
import Derived.Test.YtjclgbkfnliiaaaFrozPat
namespace Go.Proofs.Ytjclgbkfnliiaaa
open Go.RowKit
set_option linter.unusedVariables false
set_option linter.unusedSimpArgs false

/-- a call adds data to data -/
theorem St.grow {w0 w w' u : World} {M T : Nat → Prop} {cs : List (Chunk w0 M)} {f : Chunk w0 M → List (Chunk w0 M)} (h : St w0 M cs w) [hp : PickF cs T u f] (hx : Ext w w') :
    ∃ T' : Nat → Prop, St w0 M (f (froz T' w')) w' ∧ Into (Orn T w) T' w' w' ∧ Into T T' u w' := by
  refine ⟨_, h.frozGrow hx, fun k hk hl => ⟨?_, rfl⟩, fun k hk hl => ⟨.inr hk, ?_⟩⟩
  · rcases hk with hk | hk
    · exact .inr hk
    · exact .inl ⟨hk, hl⟩
  · have h1 := (hp.eq ▸ h : St w0 M (f (froz T u)) w).at_ hp.gap k hk
    exact (hx.block k h1.1).trans h1.2
theorem patAt2 {T : Nat → Prop} {w : World} {g1 g2 g3 g4 : Nat} {t1 t2 t3 t4 : TypeId} {a b : Int} {A3 : Option Addr} {c3 : Nat} {arcs : List Arc} (hb1 : w.heap[g1]? = some (.cells #[.int .i64 a, .int .i64 b] t1 (0, 0))) (hb2 : w.heap[g2]? = some (.cells #[.int .i64 0] t2 (0, 0))) (hb3 : w.heap[g3]? = some (.cells #[.int .i64 0] t3 (0, 0)))
    (hb4 : w.heap[g4]? = some (.cells #[.slice (some ⟨g2, 0, none⟩) 1 1, .slice (some ⟨g3, 0, none⟩) 1 1] t4 (0, 0))) (h1 : T g1) (h2 : T g2) (h3 : T g3) (h4 : T g4) (ha : RA T w A3 arcs) (hc : capOk arcs.length c3) : PatAt T w ⟨some ⟨g1, 0, none⟩, 2, some ⟨g4, 0, none⟩, 2, A3, c3⟩ ⟨[a, b], [[0], [0]], arcs⟩ := by
  refine ⟨RV.ofBlkT (us := [.int .i64 a, .int .i64 b]) hb1 h1, ⟨_, RV.ofBlkT (us := [_, _]) hb4 h4, ?_⟩, ha, by simp, by simp, by simp, by simp, hc.1, hc.2⟩
  exact ⟨[_], [_], rfl, rfl, ⟨some ⟨g2, 0, none⟩, 1, rfl, by decide, by decide, RV.ofBlkT (us := [.int .i64 0]) hb2 h2⟩, [_], [], rfl, rfl, ⟨some ⟨g3, 0, none⟩, 1, rfl, by decide, by decide, RV.ofBlkT (us := [.int .i64 0]) hb3 h3⟩, rfl⟩
/-- the example of chapter 16: a circle -/
def twoPat : Pat := ⟨[1, 1], [[0], [0]], [⟨0, 1, 1, 1⟩, ⟨1, 1, 0, 1⟩]⟩
theorem twoPat_shape : Shape twoPat := by
  refine ⟨⟨by decide, ?_, ?_, ?_, ?_⟩, rfl, ?_, by decide⟩
  · intro q hq
    have : q = 0 ∨ q = 1 := by simp [twoPat] at hq; omega
    rcases this with rfl | rfl <;> decide
  · intro q hq
    have : q = 0 ∨ q = 1 := by simp [twoPat] at hq; omega
    rcases this with rfl | rfl <;> decide
  · intro a ha
    simp [twoPat] at ha
    rcases ha with rfl | rfl <;> exact ⟨by decide, by decide, by decide, by decide, by decide, by decide, by decide⟩
  · intro i j hi hj hlt h1
    simp [twoPat] at hi hj
    have e1 : i = 0 := by omega
    have e2 : j = 1 := by omega
    subst e1 e2
    simp [twoPat] at h1
  · intro q hq
    have : q = 0 ∨ q = 1 := by simp [twoPat] at hq; omega
    rcases this with rfl | rfl <;> exact RowOk.one (by decide)
theorem twoPat_ord : ordF (recvTo twoPat.arcs twoPat.arcs.length) twoPat.arcs 6 twoPat.len 0 zeros = some false := by decide +kernel
theorem two_none : Pat.none 2 = ⟨[0, 0], [[0], [0]], []⟩ := rfl
theorem two_app : appRes (Pat.none 2) 1 0 0 = (⟨[0, 1], [[0], [0]], [⟨0, 0, 1, 1⟩]⟩, true) := by
  rw [appRes_ok (by refine ⟨by decide, by decide, .inr ⟨by decide, by decide, by decide, by decide, by decide⟩⟩)]
  rfl
theorem reps_two {w : World} : Reps (repArc w) 4 [.int .i64 0, .int .i64 1, .int .i64 1, .int .i64 1, .int .i64 1, .int .i64 1, .int .i64 0, .int .i64 1] twoPat.arcs := ⟨[_, _, _, _], [_, _, _, _], rfl, rfl, rfl, [_, _, _, _], [], rfl, rfl, rfl, rfl⟩
set_option maxRecDepth 100000 in
set_option maxHeartbeats 3200000 in
theorem two_any (w0 : World) : Calls Try.prog 54 #[] w0 (RetP (fun _ => False) w0 twoPat) := by
  have hS := St.start w0 NoM
  go_enter Try.func54, Try.ntmps54
  go_wp2_with (first | (refine oS ?_; ((first | refine sS1 hS rfl rfl rfl ?_ | refine sS2 hS rfl rfl rfl ?_ | refine sS3 hS rfl rfl rfl ?_ | refine sS4 hS rfl rfl rfl ?_ | refine sS5 hS rfl rfl rfl ?_); clear hS; intro w hS)) | ((first | refine sN1 hS rfl ?_ | (refine oC ?_; first | refine sC0 hS rfl ?_ | refine sC1 hS rfl rfl ?_ | refine sC2 hS rfl rfl ?_ | refine sC3 hS rfl rfl rfl ?_ | refine sC4 hS rfl rfl rfl ?_)); clear hS; first | ((fail_if_success guard_hyp g1); intro g1 w hS) | ((fail_if_success guard_hyp g2); intro g2 w hS) | ((fail_if_success guard_hyp g3); intro g3 w hS) | ((fail_if_success guard_hyp g4); intro g4 w hS) | ((fail_if_success guard_hyp g5); intro g5 w hS) | ((fail_if_success guard_hyp g6); intro g6 w hS) | ((fail_if_success guard_hyp g7); intro g7 w hS) | fail) | fail)
  have hb1 := hS.all (blk g2 [.int .i64 1, .int .i64 1] 3) (by simp)
  have hb2 := hS.all (blk g3 [.int .i64 0] 3) (by simp)
  have hb3 := hS.all (blk g4 [.int .i64 0] 3) (by simp)
  have hb4 := hS.all (blk g5 [.slice (some ⟨g3, 0, none⟩) 1 1, .slice (some ⟨g4, 0, none⟩) 1 1] 24) (by simp)
  have hb5 := hS.all (blk g6 [.int .i64 0, .int .i64 1, .int .i64 1, .int .i64 1, .int .i64 1, .int .i64 1, .int .i64 0, .int .i64 1] 51) (by simp)
  have hn1 := hS.new (blk g2 [.int .i64 1, .int .i64 1] 3) (by simp) g2 rfl
  have hn2 := hS.new (blk g3 [.int .i64 0] 3) (by simp) g3 rfl
  have hn3 := hS.new (blk g4 [.int .i64 0] 3) (by simp) g4 rfl
  have hn4 := hS.new (blk g5 [.slice (some ⟨g3, 0, none⟩) 1 1, .slice (some ⟨g4, 0, none⟩) 1 1] 24) (by simp) g5 rfl
  have hn5 := hS.new (blk g6 [.int .i64 0, .int .i64 1, .int .i64 1, .int .i64 1, .int .i64 1, .int .i64 1, .int .i64 0, .int .i64 1] 51) (by simp) g6 rfl
  refine st_retC hS rfl rfl rfl rfl ?_
  exact ⟨⟨some ⟨g2, 0, none⟩, 2, some ⟨g5, 0, none⟩, 2, some ⟨g6, 0, none⟩, 2⟩, rfl, patAt2 hb1 hb2 hb3 hb4 (.inr (hn1.resolve_right id)) (.inr (hn2.resolve_right id)) (.inr (hn3.resolve_right id)) (.inr (hn4.resolve_right id)) ⟨_, RV.ofBlkT hb5 (.inr (hn5.resolve_right id)), reps_two⟩ (by simp [capOk, twoPat]), hS.toExt⟩
set_option maxRecDepth 100000 in
set_option maxHeartbeats 3200000 in
theorem awake16_any (w0 : World) : Calls Try.prog 15 #[] w0 fun e w' => e = .returned (.bool true) ∧ Ext w0 w' := by
  have hS := St.start w0 NoM
  go_enter Try.func15, Try.ntmps15
  go_wp2_with (first | (refine oL ?_; (first | refine sL1 hS rfl rfl rfl ?_ | refine sL2 hS rfl rfl rfl ?_ | refine sL3 hS rfl rfl ?_ | refine sL4 hS rfl rfl ?_ | refine sL5 hS rfl rfl ?_ | refine sL6 hS rfl rfl ?_ | refine sL7 hS rfl rfl ?_)) | (refine oS ?_; ((first | refine sS1 hS rfl rfl rfl ?_ | refine sS2 hS rfl rfl rfl ?_ | refine sS3 hS rfl rfl rfl ?_ | refine sS4 hS rfl rfl rfl ?_ | refine sS5 hS rfl rfl rfl ?_); clear hS; intro w hS)) | ((first | refine sN1 hS rfl ?_ | (refine oC ?_; first | refine sC0 hS rfl ?_ | refine sC1 hS rfl rfl ?_ | refine sC2 hS rfl rfl ?_ | refine sC3 hS rfl rfl rfl ?_ | refine sC4 hS rfl rfl rfl ?_)); clear hS; first | ((fail_if_success guard_hyp g1); intro g1 w hS) | ((fail_if_success guard_hyp g2); intro g2 w hS) | ((fail_if_success guard_hyp g3); intro g3 w hS) | ((fail_if_success guard_hyp g4); intro g4 w hS) | ((fail_if_success guard_hyp g5); intro g5 w hS) | ((fail_if_success guard_hyp g6); intro g6 w hS) | fail) | fail)
  go_at_call 20
  have hb1 := hS.all (blk g1 [.int .i64 0, .int .i64 0] 3) (by simp)
  have hb2 := hS.all (blk g2 [.int .i64 0] 3) (by simp)
  have hb3 := hS.all (blk g3 [.int .i64 0] 3) (by simp)
  have hb4 := hS.all (blk g4 [.slice (some ⟨g2, 0, none⟩) 1 1, .slice (some ⟨g3, 0, none⟩) 1 1] 24) (by simp)
  have hn1 := hS.new (blk g1 [.int .i64 0, .int .i64 0] 3) (by simp) g1 rfl
  have hn2 := hS.new (blk g2 [.int .i64 0] 3) (by simp) g2 rfl
  have hn3 := hS.new (blk g3 [.int .i64 0] 3) (by simp) g3 rfl
  have hn4 := hS.new (blk g4 [.slice (some ⟨g2, 0, none⟩) 1 1, .slice (some ⟨g3, 0, none⟩) 1 1] 24) (by simp) g4 rfl
  have hp : PatAt (fun k => w0.heap.size ≤ k) w ⟨some ⟨g1, 0, none⟩, 2, some ⟨g4, 0, none⟩, 2, none, 0⟩ (Pat.none 2) := patAt2 hb1 hb2 hb3 hb4 (hn1.resolve_right id) (hn2.resolve_right id) (hn3.resolve_right id) (hn4.resolve_right id) (RL.nil_ _ _ _ _ _) (by simp [capOk])
  have ha := append_any _ (Pat.none 2) 1 0 0 w hp (Good.none (by omega) (by omega))
  rw [two_app] at ha
  refine Calls.mono ha ?_
  rintro e u ⟨⟨A1, c1, A2, c2, A3, c3⟩, rfl, hp1, hx1⟩
  have hle := hS.le
  replace hS := (St.start w0 NoM).frozNew (hS.toExt.trans' hx1)
  obtain ⟨T, hT⟩ : ∃ T : Nat → Prop, T = fun k => w0.heap.size ≤ k ∧ k < u.heap.size := ⟨_, rfl⟩
  rw [← hT] at hS
  have hp2 := hp1.into (Into.subLt (S' := T) u (fun k hk hl => by subst hT; exact ⟨by rcases hk with hk | hk <;> omega, hl⟩))
  clear hb1 hb2 hb3 hb4 hn1 hn2 hn3 hn4 hp ha hp1 hT hx1 hle
  obtain ⟨_, _, e1, hf1⟩ := hp2.len.fc (k := 1) (by decide)
  obtain ⟨_, _, e3, hf3⟩ := hp2.arcs.fcs (k := 0) (by decide)
  simp only at e1 e3
  subst e1 e3
  have hf4 : FC T u _ _ _ := ⟨hf3.t, hf3.c 3 _ rfl⟩
  clear hp2 hf3
  simp only [PV.val]
  go_wp2_with (first | (go_at_call 54; refine (two_any _).mono ?_; rintro e w ⟨v, rfl, hp2, hx1⟩; replace hS := hS.ext hx1) | (go_at_call 43; refine (check_shape v twoPat 6 false _ hp2 twoPat_shape twoPat_ord).mono ?_; rintro e w ⟨rfl, hx1⟩; replace hS := hS.ext hx1) | (refine oL ?_; (first | refine sL1 hS rfl rfl rfl ?_ | refine sL2 hS rfl rfl rfl ?_ | refine sL3 hS rfl rfl ?_ | refine sL4 hS rfl rfl ?_ | refine sL5 hS rfl rfl ?_ | refine sL6 hS rfl rfl ?_ | refine sL7 hS rfl rfl ?_)) | (refine oS ?_; ((first | refine sS1 hS rfl rfl rfl ?_ | refine sS2 hS rfl rfl rfl ?_ | refine sS3 hS rfl rfl rfl ?_ | refine sS4 hS rfl rfl rfl ?_ | refine sS5 hS rfl rfl rfl ?_); clear hS; intro w hS)) | ((first | refine sN1 hS rfl ?_ | (refine oC ?_; first | refine sC0 hS rfl ?_ | refine sC1 hS rfl rfl ?_ | refine sC2 hS rfl rfl ?_ | refine sC3 hS rfl rfl rfl ?_ | refine sC4 hS rfl rfl rfl ?_)); clear hS; first | ((fail_if_success guard_hyp g1); intro g1 w hS) | ((fail_if_success guard_hyp g2); intro g2 w hS) | ((fail_if_success guard_hyp g3); intro g3 w hS) | ((fail_if_success guard_hyp g4); intro g4 w hS) | ((fail_if_success guard_hyp g5); intro g5 w hS) | ((fail_if_success guard_hyp g6); intro g6 w hS) | fail) | fail)
  go_ret
  exact ⟨rfl, hS.toExt⟩
end Go.Proofs.Ytjclgbkfnliiaaa
