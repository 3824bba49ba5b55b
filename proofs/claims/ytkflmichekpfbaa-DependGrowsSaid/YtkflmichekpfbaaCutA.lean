/- Cuts: orphans of a cut, by the program and by the reference. Conditions: the pattern and the list lie in memory, arcs in range. -/
import Derived.Test.YtkflmichekpfbaaPatA
import Derived.Test.YtkflmichekpfbaaCheck
namespace Go.Proofs.Ytkflmichekpfbaa
open Go.RowKit
set_option linter.unusedVariables false
set_option linter.unusedSimpArgs false

/-- is an arc received up to a cut and sent behind it -/
def orph (a : Arc) (x : List Int) : Bool := decide (0 < a.at_) && decide (a.at_ ≤ nth x a.to) && decide (nth x a.fr < a.ix)

set_option maxHeartbeats 800000 in
theorem rorphan_any {S : Nat → Prop} (X : Option Addr) (c : Nat) (ar : Arc) (xs : List Int) (w : World) (hx : RI S w X xs) (hf : ar.fr < xs.length) (ht : ar.to < xs.length) (h0 : 0 ≤ ar.at_) :
    Calls Try.prog 85 #[.agg (arcCells ar).toArray, .slice X xs.length c] w fun e w' => e = .returned (.bool (orph ar xs)) ∧ Ext w w' := by
  have hE := (Ext.refl' w).alloc' (.cells (arcCells ar).toArray 57)
  obtain ⟨b, o, rfl, hc1⟩ := hx.atN hf
  obtain ⟨_, _, e9, hc2⟩ := hx.atN ht
  injection e9 with e9; injection e9 with e9 e10; subst e9; subst e10
  have f1 := hE.cell hc1
  have f2 := hE.cell hc2
  have hf' : (ar.fr : Int) < xs.length := by omega
  have ht' : (ar.to : Int) < xs.length := by omega
  have HE := Lib.hid hE
  have horph : orph ar xs = (decide (0 < ar.at_) && decide (ar.at_ ≤ nth xs ar.to) && decide (nth xs ar.fr < ar.ix)) := rfl
  rw [horph]
  clear horph hE hc1 hc2 hx h0
  generalize nth xs ar.to = y1 at *
  generalize nth xs ar.fr = y2 at *
  simp only [arcCells] at *
  obtain ⟨fr, ix, to, at_⟩ := ar
  simp only at *
  by_cases h1 : 0 < at_
  · by_cases h2 : at_ ≤ y1
    · have d1 : decide (0 < at_) = true := by simp [h1]
      have d2 : decide (at_ ≤ y1) = true := by simp [h2]
      go_enter Try.func85, Try.ntmps85
      go_wp2
      go_quiet (fail)
      go_wp2
      go_ret
      exact ⟨ret_bool (by rw [d1, d2]; simp), HE.out.drewN' _⟩
    · have d1 : decide (0 < at_) = true := by simp [h1]
      have d2 : decide (at_ ≤ y1) = false := by simp [h2]
      go_enter Try.func85, Try.ntmps85
      go_wp2
      go_quiet (fail)
      go_wp2
      go_ret
      exact ⟨ret_bool (by rw [d1, d2]; simp), HE.out.drewN' _⟩
  · have d1 : decide (0 < at_) = false := by simp [h1]
    go_enter Try.func85, Try.ntmps85
    go_wp2
    go_quiet (fail)
    go_wp2
    go_ret
    exact ⟨ret_bool (by rw [d1]; simp), HE.out.drewN' _⟩

set_option maxHeartbeats 800000 in
theorem orphan_any {S : Nat → Prop} (X : Option Addr) (c : Nat) (ar : Arc) (xs : List Int) (w : World) (hx : RI S w X xs) (hf : ar.fr < xs.length) (ht : ar.to < xs.length) (h0 : 0 ≤ ar.at_) :
    Calls Try.prog 84 #[.agg (arcCells ar).toArray, .slice X xs.length c] w fun e w' => e = .returned (.bool (orph ar xs)) ∧ Ext w w' := by
  have hE := (Ext.refl' w).alloc' (.cells (arcCells ar).toArray 57)
  obtain ⟨b, o, rfl, hc1⟩ := hx.atN hf
  obtain ⟨_, _, e9, hc2⟩ := hx.atN ht
  injection e9 with e9; injection e9 with e9 e10; subst e9; subst e10
  have f1 := hE.cell hc1
  have f2 := hE.cell hc2
  have hf' : (ar.fr : Int) < xs.length := by omega
  have ht' : (ar.to : Int) < xs.length := by omega
  have HE := Lib.hid hE
  have horph : orph ar xs = (decide (0 < ar.at_) && decide (ar.at_ ≤ nth xs ar.to) && decide (nth xs ar.fr < ar.ix)) := rfl
  rw [horph]
  clear horph hE hc1 hc2 hx
  generalize nth xs ar.to = y1 at *
  generalize nth xs ar.fr = y2 at *
  simp only [arcCells] at *
  obtain ⟨fr, ix, to, at_⟩ := ar
  simp only at *
  by_cases h1 : 0 < at_
  · by_cases h2 : at_ ≤ y1
    · have d0 : (at_ != 0) = true := by simp; omega
      have d1 : decide (0 < at_) = true := by simp [h1]
      have d2 : decide (at_ ≤ y1) = true := by simp [h2]
      go_enter Try.func84, Try.ntmps84
      go_wp2
      go_quiet (fail)
      go_wp2
      go_ret
      exact ⟨ret_bool (by rw [d1, d2]; simp), HE.out.drewN' _⟩
    · have d0 : (at_ != 0) = true := by simp; omega
      have d1 : decide (0 < at_) = true := by simp [h1]
      have d2 : decide (at_ ≤ y1) = false := by simp [h2]
      go_enter Try.func84, Try.ntmps84
      go_wp2
      go_quiet (fail)
      go_wp2
      go_ret
      exact ⟨ret_bool (by rw [d1, d2]; simp), HE.out.drewN' _⟩
  · have d0 : (at_ != 0) = false := by simp; omega
    have d1 : decide (0 < at_) = false := by simp [h1]
    go_enter Try.func84, Try.ntmps84
    go_wp2
    go_quiet (fail)
    go_wp2
    go_ret
    exact ⟨ret_bool (by rw [d1]; simp), HE.out.drewN' _⟩

/-- the places of the arcs that a test takes -/
def idxs (f : Arc → Bool) (l : List Arc) (k : Nat) : List Int := ((List.range k).filter (fun i => (l[i]?).any f)).map (fun (i : Nat) => (i : Int))
theorem idxs_succ (f : Arc → Bool) (l : List Arc) {k : Nat} (hk : k < l.length) : idxs f l (k + 1) = if f l[k] then idxs f l k ++ [(k : Int)] else idxs f l k := by
  simp only [idxs, List.range_succ, List.filter_append, List.map_append, List.filter_cons, List.getElem?_eq_getElem hk, Option.any_some, List.filter_nil]
  split <;> simp
theorem idxs_le (f : Arc → Bool) (l : List Arc) (k : Nat) : (idxs f l k).length ≤ k := by
  have := List.length_filter_le (fun i => (l[i]?).any f) (List.range k)
  simp [idxs] at this ⊢; exact this


set_option maxHeartbeats 800000 in
theorem rorphans {S T : Nat → Prop} (A1 A2 A3 X : Option Addr) (c1 c2 c3 c n1 n2 : Nat) (arcs : List Arc) (xs : List Int) (w0 : World) (hx : RI S w0 X xs) (ha : RA T w0 A3 arcs) (hok : ∀ ar ∈ arcs, ar.fr < xs.length ∧ ar.to < xs.length ∧ 0 ≤ ar.at_) (hlen : arcs.length ≤ 1000) :
    Calls Try.prog 68 #[.agg #[.slice A1 n1 c1, .slice A2 n2 c2, .slice A3 arcs.length c3], .slice X xs.length c] w0 (RetRow w0 3 1 (idxs (orph · xs) arcs arcs.length).length (ints (idxs (orph · xs) arcs arcs.length))) := by
  have hS := St.start w0 NoM
  have HOK := Lib.hid hok
  clear hok
  go_enter Try.func68, Try.ntmps68
  go_wp2_with (first | (refine oL ?_; (first | refine sL1 hS rfl rfl rfl ?_ | refine sL2 hS rfl rfl rfl ?_ | refine sL3 hS rfl rfl ?_ | refine sL4 hS rfl rfl ?_ | refine sL5 hS rfl rfl ?_ | refine sL6 hS rfl rfl ?_ | refine sL7 hS rfl rfl ?_)) | (refine oP ?_; ((first | refine sP1 hS rfl rfl rfl ?_ | refine sP2 hS rfl rfl rfl ?_ | refine sP3 hS rfl rfl rfl ?_); clear hS; first | ((fail_if_success guard_hyp L1); intro L1 cl1 w hL1 hM1 hS) | ((fail_if_success guard_hyp L2); intro L2 cl2 w hL2 hM2 hS) | fail)) | ((first | (refine oB ?_; first | refine sB1 hS rfl rfl ?_ | refine sB2 hS rfl rfl ?_) | (refine oC ?_; first | refine sC0 hS rfl ?_ | refine sC1 hS rfl rfl ?_ | refine sC2 hS rfl rfl ?_ | refine sC3 hS rfl rfl rfl ?_ | refine sC4 hS rfl rfl rfl ?_)); clear hS; first | ((fail_if_success guard_hyp g1); intro g1 w hS) | ((fail_if_success guard_hyp g2); intro g2 w hS) | ((fail_if_success guard_hyp g3); intro g3 w hS) | fail) | fail)
  go_loopw [5, 6] (fun s5 s6 wr => ∃ (k : Nat) (L : Option Addr) (cl : Nat) (ys : List Int), k ≤ arcs.length ∧ Hid (ys = idxs (orph · xs) arcs k) ∧ ys.length ≤ k ∧ s6 = .int .i64 k ∧ s5 = .slice L ys.length cl ∧
     St w0 NoM [irow 3 L cl ys, blk g1 [.slice A1 n1 c1, .slice A2 n2 c2, .slice A3 arcs.length c3] 28] wr) (fun _ s6 _ => arcs.length - (intOf s6).toNat)
  case atStart => exact ⟨0, none, 0, [], by omega, Lib.hid rfl, by simp, rfl, rfl, hS.addNil _ _⟩
  case round =>
    obtain ⟨k, L, cl, ys, hk, HY, hyk, rfl, rfl, hS⟩ := hrel
    by_cases hlt : k < arcs.length
    · obtain ⟨b3, o3, rfl, _, hcs⟩ := ha.cells hlt
      have ho := HOK.out _ (List.getElem_mem hlt)
      have HSUC := Lib.hid (idxs_succ (orph · xs) arcs hlt)
      cases hb : orph arcs[k] xs
      all_goals
        go_wp2_with (first | (go_at_call 85; refine (rorphan_any _ _ _ _ _ (hx.ext hS.toExt) ho.1 ho.2.1 ho.2.2).mono ?_; rintro e w ⟨rfl, hx1⟩; have hS := hS.ext hx1; rw [hb]) | (refine oL ?_; (first | refine sL1 hS rfl rfl rfl ?_ | refine sL2 hS rfl rfl rfl ?_ | refine sL3 hS rfl rfl ?_ | refine sL4 hS rfl rfl ?_ | refine sL5 hS rfl rfl ?_ | refine sL6 hS rfl rfl ?_ | refine sL7 hS rfl rfl ?_)) | (refine oP ?_; ((first | refine sP1 hS rfl rfl rfl ?_ | refine sP2 hS rfl rfl rfl ?_ | refine sP3 hS rfl rfl rfl ?_); clear hS; first | ((fail_if_success guard_hyp L1); intro L1 cl1 w hL1 hM1 hS) | ((fail_if_success guard_hyp L2); intro L2 cl2 w hL2 hM2 hS) | fail)) | ((first | (refine oB ?_; first | refine sB1 hS rfl rfl ?_ | refine sB2 hS rfl rfl ?_) | (refine oC ?_; first | refine sC0 hS rfl ?_ | refine sC1 hS rfl rfl ?_ | refine sC2 hS rfl rfl ?_ | refine sC3 hS rfl rfl rfl ?_ | refine sC4 hS rfl rfl rfl ?_)); clear hS; first | ((fail_if_success guard_hyp g1); intro g1 w hS) | ((fail_if_success guard_hyp g2); intro g2 w hS) | ((fail_if_success guard_hyp g3); intro g3 w hS) | fail) | fail)
        go_roundw
        case measure => simp [intOf]; omega
        exact ⟨k + 1, _, _, _, by omega, Lib.hid (by rw [HSUC.out, hb, HY.out]; rfl), by first | omega | (simp; omega), by go_num, by first | rfl | simp, hS⟩
    · go_wp2_with (first | (refine oL ?_; (first | refine sL1 hS rfl rfl rfl ?_ | refine sL2 hS rfl rfl rfl ?_ | refine sL3 hS rfl rfl ?_ | refine sL4 hS rfl rfl ?_ | refine sL5 hS rfl rfl ?_ | refine sL6 hS rfl rfl ?_ | refine sL7 hS rfl rfl ?_)) | (refine oP ?_; ((first | refine sP1 hS rfl rfl rfl ?_ | refine sP2 hS rfl rfl rfl ?_ | refine sP3 hS rfl rfl rfl ?_); clear hS; first | ((fail_if_success guard_hyp L1); intro L1 cl1 w hL1 hM1 hS) | ((fail_if_success guard_hyp L2); intro L2 cl2 w hL2 hM2 hS) | fail)) | ((first | (refine oB ?_; first | refine sB1 hS rfl rfl ?_ | refine sB2 hS rfl rfl ?_) | (refine oC ?_; first | refine sC0 hS rfl ?_ | refine sC1 hS rfl rfl ?_ | refine sC2 hS rfl rfl ?_ | refine sC3 hS rfl rfl rfl ?_ | refine sC4 hS rfl rfl rfl ?_)); clear hS; first | ((fail_if_success guard_hyp g1); intro g1 w hS) | ((fail_if_success guard_hyp g2); intro g2 w hS) | ((fail_if_success guard_hyp g3); intro g3 w hS) | fail) | fail)
      go_ret
      have : k = arcs.length := by omega
      subst this
      have hy := HY.out
      subst hy
      exact hS.ret rfl

end Go.Proofs.Ytkflmichekpfbaa
