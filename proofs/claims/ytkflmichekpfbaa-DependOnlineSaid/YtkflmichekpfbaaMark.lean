/- pattern.Mark, of the program and of the reference. Conditions: the pattern is good and lies in memory. -/
import Derived.Test.YtkflmichekpfbaaGe
namespace Go.Proofs.Ytkflmichekpfbaa
open Go.RowKit
set_option linter.unusedVariables false
set_option linter.unusedSimpArgs false

/-- the first place of a number in a list -/
def idxI (l : List Int) (x : Int) : Int := if x ∈ l then (l.idxOf x : Int) else -1
/-- Mark at any number -/
def markI (p : Pat) (q : Int) : Pat := if 0 ≤ q ∧ q < p.len.length then p.mark q.toNat else p
theorem RetP.same {S : Nat → Prop} {w w' : World} {v : PV} {p : Pat} (h : PatAt S w v p) (hx : Ext w w') : RetP S w p (.returned (v.val p)) w' := ⟨v, rfl, h.into (Into.orNew hx), hx⟩
theorem RR.vs {S : Nat → Prop} {w : World} {A : Option Addr} {ls : List (List Int)} (h : RR S w A ls) : ∃ vs, RV S w A vs ∧ Reps (repRow S w) 1 vs ls ∧ vs.length = ls.length ∧ ∀ u ∈ vs, u.oneCell' = true := by
  obtain ⟨vs, h1, h2⟩ := h
  exact ⟨vs, h1, h2, by rw [h2.length, Nat.mul_one], h2.all (fun cs x h => repRow.one cs x h)⟩
/-- a row is replaced -/
theorem Reps.setRow {S S' : Nat → Prop} {w w' : World} {vs : List Value} {ls : List (List Int)} (h : Reps (repRow S w) 1 vs ls) (hi : Into S S' w w') {k : Nat} (hk : k < ls.length) {l : List Int} {L : Option Addr} {n c : Nat} (hn : l.length = n) (hc : capOk n c) (hr : RI S' w' L l) : Reps (repRow S' w') 1 (vs.set k (.slice L n c)) (ls.set k l) := by
  subst hn
  have := Reps.set (sz := 1) (i := 0) (h.mono (repRow.into hi)) (by omega) hk (u := .slice L l.length c) (x := l) (fun cs h hcs => by
    refine ⟨L, c, ?_, hc.1, hc.2, hr⟩
    match cs, hcs with
    | [c0], _ => rfl)
  simpa using this
set_option maxHeartbeats 800000 in
theorem rmark_any {S : Nat → Prop} (v : PV) (p : Pat) (q : Int) (w0 : World) (hp : PatAt S w0 v p) (hg : Good p) :
    Calls Try.prog 33 #[v.val p, .int .i64 q] w0 (RetP S w0 (markI p q)) := by
  by_cases hq : 0 ≤ q ∧ q < p.len.length
  · obtain ⟨k, rfl⟩ : ∃ k : Nat, q = k := ⟨q.toNat, by omega⟩
    rw [markI, if_pos hq, Int.toNat_natCast]
    have hk : k < p.len.length := by omega
    refine (rmark_good (S := Orn S w0) v.A1 v.A2 v.A3 v.c1 v.c2 v.c3 p k w0 (fun k hk => .inr hk) hp.len (hp.ck.into (Into.orNew (Ext.refl' w0))) hp.l2 hp.m2 hg hk).mono ?_
    rintro e w' ⟨L2, k2, rfl, hr, hc, hc', hx⟩
    rw [← Pat.mark_len p k, ← Pat.mark_arcs p k]
    exact RetP.mk rfl rfl rfl (by rw [Pat.mark_len]; exact hp.len.into (Into.orNew hx)) hr (by rw [Pat.mark_arcs]; exact hp.arcs.into (Into.orNew hx)) (by rw [Pat.mark_len]; exact ⟨hp.l1, hp.m1⟩) ⟨hc, hc'⟩ (by rw [Pat.mark_arcs]; exact ⟨hp.l3, hp.m3⟩) hx
  · rw [markI, if_neg hq]
    have hS := St.start w0 NoM
    have HSM := Lib.hid (@RetP.same S w0 · v p hp)
    have dq : decide (0 ≤ q ∧ q < (p.len.length : Int)) = false := decide_eq_false hq
    clear hp hg
    obtain ⟨A1, c1, A2, c2, A3, c3⟩ := v
    simp only [PV.val] at *
    go_enter Try.func33, Try.ntmps33
    go_wp2_with (first | (go_at_call 70; refine (proc_any _ _ _ _ _ _ _ _ _ _ _).mono ?_; rintro e w ⟨rfl, hx1⟩; replace hS := hS.ext hx1; rw [dq]) | (refine oL ?_; (first | refine sL1 hS rfl rfl rfl ?_ | refine sL2 hS rfl rfl rfl ?_ | refine sL3 hS rfl rfl ?_ | refine sL4 hS rfl rfl ?_ | refine sL5 hS rfl rfl ?_ | refine sL6 hS rfl rfl ?_ | refine sL7 hS rfl rfl ?_)) | (refine oS ?_; ((first | refine sS1 hS rfl rfl rfl ?_ | refine sS2 hS rfl rfl rfl ?_ | refine sS3 hS rfl rfl rfl ?_ | refine sS4 hS rfl rfl rfl ?_ | refine sS5 hS rfl rfl rfl ?_); clear hS; intro w hS)) | ((first | (refine oB ?_; first | refine sB1 hS rfl rfl ?_ | refine sB2 hS rfl rfl ?_) | refine sN1 hS rfl ?_); clear hS; first | ((fail_if_success guard_hyp g1); intro g1 w hS) | ((fail_if_success guard_hyp g2); intro g2 w hS) | ((fail_if_success guard_hyp g3); intro g3 w hS) | ((fail_if_success guard_hyp g4); intro g4 w hS) | ((fail_if_success guard_hyp g5); intro g5 w hS) | fail) | fail)
    exact st_retC hS rfl rfl rfl rfl (HSM.out _ hS.toExt)
end Go.Proofs.Ytkflmichekpfbaa
