/- Cuts: Clone, fits, Orphans, Consistent, Meet, Join, of the program and of the reference. Conditions: the pattern is good, the lists lie in memory. -/
import Derived.Test.YtkflmichekpfbaaCutB
import Derived.Lib.SliceRun
namespace Go.Proofs.Ytkflmichekpfbaa
open Go.RowKit
set_option linter.unusedVariables false
set_option linter.unusedSimpArgs false

set_option maxHeartbeats 800000 in
theorem clone_any {S : Nat → Prop} (A : Option Addr) (c : Nat) (xs : List Int) (w0 : World) (hx : RI S w0 A xs) (hl : xs.length ≤ 1000000) :
    Calls Try.prog 73 #[.slice A xs.length c] w0 (RetRow w0 3 1 xs.length (ints xs)) := by
  have hS := St.start w0 NoM
  have qT : ∀ (w : World) (a : Option Addr) (n c n' c' : Nat), (binOp .eql 24 (.slice a n c) (.slice none n' c')).run Try.prog w = .ok (.bool a.isNone) w := fun w a n c n' c' => Lib.run_eql_slice_nil w _ _ a n c n' c' Try.underlying24
  cases A with
  | none =>
    have h0 : xs = [] := by
      cases xs with
      | nil => rfl
      | cons y ys => obtain ⟨b, o, e, _⟩ := hx.atS (k := 0) (by simp); cases e
    subst h0
    go_enter Try.func73, Try.ntmps73
    go_wp2_with (first | (refine oP ?_; ((first | refine sP1 hS rfl rfl rfl ?_ | refine sP2 hS rfl rfl rfl ?_ | refine sP3 hS rfl rfl rfl ?_); clear hS; first | ((fail_if_success guard_hyp L1); intro L1 cl1 w hL1 hM1 hS) | ((fail_if_success guard_hyp L2); intro L2 cl2 w hL2 hM2 hS) | fail)) | ((first | (refine oC ?_; first | refine sC0 hS rfl ?_ | refine sC1 hS rfl rfl ?_ | refine sC2 hS rfl rfl ?_ | refine sC3 hS rfl rfl rfl ?_ | refine sC4 hS rfl rfl rfl ?_)); clear hS; first | ((fail_if_success guard_hyp g1); intro g1 w hS) | ((fail_if_success guard_hyp g2); intro g2 w hS) | fail) | fail)
    go_ret
    exact ⟨none, 0, rfl, ownsRow_nil _ _ _ _, hS.toExt⟩
  | some ad =>
    go_enter Try.func73, Try.ntmps73
    go_wp2_with (first | (refine st_appO (ys := []) hS rfl rfl rfl (hx.ext hS.toExt) rfl (by simp; omega) ?_; clear hS; intro L cl w hL hM hS; rw [List.nil_append] at hS) | (refine oP ?_; ((first | refine sP1 hS rfl rfl rfl ?_ | refine sP2 hS rfl rfl rfl ?_ | refine sP3 hS rfl rfl rfl ?_); clear hS; first | ((fail_if_success guard_hyp L1); intro L1 cl1 w hL1 hM1 hS) | ((fail_if_success guard_hyp L2); intro L2 cl2 w hL2 hM2 hS) | fail)) | ((first | (refine oC ?_; first | refine sC0 hS rfl ?_ | refine sC1 hS rfl rfl ?_ | refine sC2 hS rfl rfl ?_ | refine sC3 hS rfl rfl rfl ?_ | refine sC4 hS rfl rfl rfl ?_)); clear hS; first | ((fail_if_success guard_hyp g1); intro g1 w hS) | ((fail_if_success guard_hyp g2); intro g2 w hS) | fail) | fail)
    go_ret
    exact hS.ret (by simp)

set_option maxHeartbeats 800000 in
theorem fits_any {S T : Nat → Prop} (v : PV) (X : Option Addr) (c : Nat) (p : Pat) (xs : List Int) (w0 : World) (hp : PatAt S w0 v p) (hg : Good p) (hx : RI T w0 X xs) (hxl : xs.length ≤ 9223372036854775807) :
    Calls Try.prog 83 #[v.val p, .slice X xs.length c] w0 fun e w' => e = .returned (.bool (validB p.len xs)) ∧ Ext w0 w' := by
  have hS := St.start w0 NoM
  have HG := Lib.hid hg
  have HP := Lib.hid hp
  have hn5 := hg.n5
  clear hg hp
  obtain ⟨A1, c1, A2, c2, A3, c3⟩ := v
  simp only [PV.val]
  go_enter Try.func83, Try.ntmps83
  go_wp2_with (first | (go_at_call 80; refine (check_good ⟨A1, c1, A2, c2, A3, c3⟩ p _ (HP.out.ext hS.toExt) HG.out).mono ?_; rintro e w ⟨rfl, hx1⟩; have hS := hS.ext hx1) | (go_at_call 57; refine (valid_any _ _ _ _ _ _ _ _ _ _ p.len xs _ (HP.out.len.ext hS.toExt) (hx.ext hS.toExt) hn5 hxl).mono ?_; rintro e w ⟨rfl, hx1⟩; have hS := hS.ext hx1) | (refine oL ?_; (first | refine sL1 hS rfl rfl rfl ?_ | refine sL2 hS rfl rfl rfl ?_ | refine sL3 hS rfl rfl ?_ | refine sL4 hS rfl rfl ?_ | refine sL5 hS rfl rfl ?_ | refine sL6 hS rfl rfl ?_ | refine sL7 hS rfl rfl ?_)) | ((first | (refine oB ?_; first | refine sB1 hS rfl rfl ?_ | refine sB2 hS rfl rfl ?_)); clear hS; first | ((fail_if_success guard_hyp g1); intro g1 w hS) | ((fail_if_success guard_hyp g2); intro g2 w hS) | fail) | fail)
  go_ret
  exact ⟨rfl, hS.toExt⟩

/-- good arcs lie within a cut of their pattern -/
theorem Good.arcs_in {p : Pat} (h : Good p) {xs : List Int} (hx : xs.length = p.len.length) : ∀ ar ∈ p.arcs, ar.fr < xs.length ∧ ar.to < xs.length ∧ 0 ≤ ar.at_ := fun ar ha =>
  have h1 := h.arc ar ha
  ⟨by rw [hx]; exact h1.fr, by rw [hx]; exact h1.to, h1.at0⟩

set_option maxHeartbeats 1600000 in
theorem orphans_any {S T : Nat → Prop} (v : PV) (X : Option Addr) (c : Nat) (p : Pat) (xs : List Int) (w0 : World) (hp : PatAt S w0 v p) (hg : Good p) (hx : RI T w0 X xs) (hv : validB p.len xs = true) :
    Calls Try.prog 82 #[v.val p, .slice X xs.length c] w0 (RetRow w0 3 1 (idxs (orph · xs) p.arcs p.arcs.length).length (ints (idxs (orph · xs) p.arcs p.arcs.length))) := by
  have hS := St.start w0 NoM
  have hxl : xs.length = p.len.length := by simp [validB] at hv; exact hv.1
  have HOK := Lib.hid (hg.arcs_in hxl)
  have HG := Lib.hid hg
  have HP := Lib.hid hp
  have hn5 := hg.n5
  have hfew := hg.few
  have ha := hp.arcs
  have HV := Lib.hid hv
  have hx5 : xs.length ≤ 5 := by omega
  clear hg hp hv hxl
  obtain ⟨A1, c1, A2, c2, A3, c3⟩ := v
  simp only [PV.val] at *
  go_enter Try.func82, Try.ntmps82
  go_wp2_with (first | (go_at_call 83; refine (fits_any ⟨A1, c1, A2, c2, A3, c3⟩ _ _ p xs _ (HP.out.ext hS.toExt) HG.out (hx.ext hS.toExt) (by omega)).mono ?_; rintro e w ⟨rfl, hx1⟩; have hS := hS.ext hx1; rw [HV.out]) | (refine oL ?_; (first | refine sL1 hS rfl rfl rfl ?_ | refine sL2 hS rfl rfl rfl ?_ | refine sL3 hS rfl rfl ?_ | refine sL4 hS rfl rfl ?_ | refine sL5 hS rfl rfl ?_ | refine sL6 hS rfl rfl ?_ | refine sL7 hS rfl rfl ?_)) | (refine oS ?_; ((first | refine sS1 hS rfl rfl rfl ?_ | refine sS2 hS rfl rfl rfl ?_ | refine sS3 hS rfl rfl rfl ?_ | refine sS4 hS rfl rfl rfl ?_ | refine sS5 hS rfl rfl rfl ?_); clear hS; intro w hS)) | (refine oP ?_; ((first | refine sP1 hS rfl rfl rfl ?_ | refine sP2 hS rfl rfl rfl ?_ | refine sP3 hS rfl rfl rfl ?_); clear hS; first | ((fail_if_success guard_hyp L1); intro L1 cl1 w hL1 hM1 hS) | ((fail_if_success guard_hyp L2); intro L2 cl2 w hL2 hM2 hS) | fail)) | ((first | (refine oB ?_; first | refine sB1 hS rfl rfl ?_ | refine sB2 hS rfl rfl ?_) | refine sN1 hS rfl ?_ | (refine oC ?_; first | refine sC0 hS rfl ?_ | refine sC1 hS rfl rfl ?_ | refine sC2 hS rfl rfl ?_ | refine sC3 hS rfl rfl rfl ?_ | refine sC4 hS rfl rfl rfl ?_)); clear hS; first | ((fail_if_success guard_hyp g1); intro g1 w hS) | ((fail_if_success guard_hyp g2); intro g2 w hS) | ((fail_if_success guard_hyp g3); intro g3 w hS) | ((fail_if_success guard_hyp g4); intro g4 w hS) | fail) | fail)
  go_loopw [5, 15] (fun s5 s6 wr => ∃ (k : Nat) (L : Option Addr) (cl : Nat) (ys : List Int), k ≤ p.arcs.length ∧ Hid (ys = idxs (orph · xs) p.arcs k) ∧ ys.length ≤ k ∧ s6 = .int .i64 k ∧ s5 = .slice L ys.length cl ∧
     St w0 NoM [irow 3 L cl ys, blk g1 [.slice A1 p.len.length c1, .slice A2 p.ck.length c2, .slice A3 p.arcs.length c3] 28] wr) (fun _ s6 _ => p.arcs.length - (intOf s6).toNat)
  case atStart => exact ⟨0, none, 0, [], by omega, Lib.hid rfl, by simp, rfl, rfl, hS.addNil _ _⟩
  case round =>
    obtain ⟨k, L, cl, ys, hk, HY, hyk, rfl, rfl, hS⟩ := hrel
    by_cases hlt : k < p.arcs.length
    · obtain ⟨b3, o3, rfl, _, hcs⟩ := ha.cells hlt
      have ho := HOK.out _ (List.getElem_mem hlt)
      have HSUC := Lib.hid (idxs_succ (orph · xs) p.arcs hlt)
      generalize p.arcs[k] = ar at *
      simp only [arcCells] at hcs
      cases hb : orph ar xs
      all_goals
        go_wp2_with (first | (go_at_call 84; refine (orphan_any _ _ _ _ _ (hx.ext hS.toExt) ho.1 ho.2.1 ho.2.2).mono ?_; rintro e w ⟨rfl, hx1⟩; have hS := hS.ext hx1; rw [hb]) | (refine oL ?_; (first | refine sL1 hS rfl rfl rfl ?_ | refine sL2 hS rfl rfl rfl ?_ | refine sL3 hS rfl rfl ?_ | refine sL4 hS rfl rfl ?_ | refine sL5 hS rfl rfl ?_ | refine sL6 hS rfl rfl ?_ | refine sL7 hS rfl rfl ?_)) | (refine oS ?_; ((first | refine sS1 hS rfl rfl rfl ?_ | refine sS2 hS rfl rfl rfl ?_ | refine sS3 hS rfl rfl rfl ?_ | refine sS4 hS rfl rfl rfl ?_ | refine sS5 hS rfl rfl rfl ?_); clear hS; intro w hS)) | (refine oP ?_; ((first | refine sP1 hS rfl rfl rfl ?_ | refine sP2 hS rfl rfl rfl ?_ | refine sP3 hS rfl rfl rfl ?_); clear hS; first | ((fail_if_success guard_hyp L1); intro L1 cl1 w hL1 hM1 hS) | ((fail_if_success guard_hyp L2); intro L2 cl2 w hL2 hM2 hS) | fail)) | ((first | (refine oB ?_; first | refine sB1 hS rfl rfl ?_ | refine sB2 hS rfl rfl ?_) | refine sN1 hS rfl ?_ | (refine oC ?_; first | refine sC0 hS rfl ?_ | refine sC1 hS rfl rfl ?_ | refine sC2 hS rfl rfl ?_ | refine sC3 hS rfl rfl rfl ?_ | refine sC4 hS rfl rfl rfl ?_)); clear hS; first | ((fail_if_success guard_hyp g1); intro g1 w hS) | ((fail_if_success guard_hyp g2); intro g2 w hS) | ((fail_if_success guard_hyp g3); intro g3 w hS) | ((fail_if_success guard_hyp g4); intro g4 w hS) | fail) | fail)
        go_roundw
        case measure => simp [intOf]; omega
        have hS := hS.drop
        exact ⟨k + 1, _, _, _, by omega, Lib.hid (by rw [HSUC.out, hb, HY.out]; rfl), by first | omega | (simp; omega), by go_num, by first | rfl | simp, hS⟩
    · go_wp2_with (first | (refine oL ?_; (first | refine sL1 hS rfl rfl rfl ?_ | refine sL2 hS rfl rfl rfl ?_ | refine sL3 hS rfl rfl ?_ | refine sL4 hS rfl rfl ?_ | refine sL5 hS rfl rfl ?_ | refine sL6 hS rfl rfl ?_ | refine sL7 hS rfl rfl ?_)) | (refine oS ?_; ((first | refine sS1 hS rfl rfl rfl ?_ | refine sS2 hS rfl rfl rfl ?_ | refine sS3 hS rfl rfl rfl ?_ | refine sS4 hS rfl rfl rfl ?_ | refine sS5 hS rfl rfl rfl ?_); clear hS; intro w hS)) | (refine oP ?_; ((first | refine sP1 hS rfl rfl rfl ?_ | refine sP2 hS rfl rfl rfl ?_ | refine sP3 hS rfl rfl rfl ?_); clear hS; first | ((fail_if_success guard_hyp L1); intro L1 cl1 w hL1 hM1 hS) | ((fail_if_success guard_hyp L2); intro L2 cl2 w hL2 hM2 hS) | fail)) | ((first | (refine oB ?_; first | refine sB1 hS rfl rfl ?_ | refine sB2 hS rfl rfl ?_) | refine sN1 hS rfl ?_ | (refine oC ?_; first | refine sC0 hS rfl ?_ | refine sC1 hS rfl rfl ?_ | refine sC2 hS rfl rfl ?_ | refine sC3 hS rfl rfl rfl ?_ | refine sC4 hS rfl rfl rfl ?_)); clear hS; first | ((fail_if_success guard_hyp g1); intro g1 w hS) | ((fail_if_success guard_hyp g2); intro g2 w hS) | ((fail_if_success guard_hyp g3); intro g3 w hS) | ((fail_if_success guard_hyp g4); intro g4 w hS) | fail) | fail)
      go_ret
      have : k = p.arcs.length := by omega
      subst this
      have hy := HY.out
      subst hy
      exact hS.ret rfl

/-- has a cut no orphans -/
def consB (arcs : List Arc) (xs : List Int) : Bool := arcs.all fun a => !orph a xs
theorem idxs_nil (f : Arc → Bool) (l : List Arc) : ∀ k, k ≤ l.length → ((idxs f l k).length = 0 ↔ ∀ a ∈ l.take k, f a = false)
  | 0, _ => by simp [idxs]
  | k + 1, hk => by
    have hk' : k < l.length := by omega
    rw [idxs_succ f l hk', List.take_succ_eq_append_getElem hk']
    have ih := idxs_nil f l k (by omega)
    constructor
    · intro h a ha
      split at h
      · simp at h
      · rename_i hf
        rcases List.mem_append.1 ha with ha | ha
        · exact ih.1 h a ha
        · rw [List.mem_singleton.1 ha]; simpa using hf
    · intro h
      rw [if_neg (by rw [h l[k] (List.mem_append_right _ (List.mem_singleton.2 rfl))]; simp)]
      exact ih.2 (fun a ha => h a (List.mem_append_left _ ha))
theorem consB_iff (arcs : List Arc) (xs : List Int) : decide ((idxs (orph · xs) arcs arcs.length).length = 0) = consB arcs xs := by
  rw [Bool.eq_iff_iff, decide_eq_true_iff, idxs_nil _ _ _ (Nat.le_refl _), List.take_length, consB, List.all_eq_true]
  simp

set_option maxHeartbeats 800000 in
theorem rconsistent_any {S T : Nat → Prop} (A1 A2 A3 X : Option Addr) (c1 c2 c3 c n1 n2 : Nat) (arcs : List Arc) (xs : List Int) (w0 : World) (hx : RI S w0 X xs) (ha : RA T w0 A3 arcs) (hok : ∀ ar ∈ arcs, ar.fr < xs.length ∧ ar.to < xs.length ∧ 0 ≤ ar.at_) (hlen : arcs.length ≤ 1000) :
    Calls Try.prog 27 #[.agg #[.slice A1 n1 c1, .slice A2 n2 c2, .slice A3 arcs.length c3], .slice X xs.length c] w0 fun e w' => e = .returned (.bool (consB arcs xs)) ∧ Ext w0 w' := by
  have hS := St.start w0 NoM
  have HOK := Lib.hid hok
  have hB := Lib.hid (consB_iff arcs xs)
  have hle := idxs_le (orph · xs) arcs arcs.length
  clear hok
  go_enter Try.func27, Try.ntmps27
  go_wp2_with (first | (go_at_call 68; refine (rorphans _ _ _ _ _ _ _ _ _ _ arcs xs _ (hx.ext hS.toExt) (ha.into (Into.ofExt hS.toExt)) HOK.out hlen).mono ?_; rintro e w ⟨L, cl, rfl, ho, hx1⟩; have hS := hS.addRow ho hx1) | (refine oL ?_; (first | refine sL1 hS rfl rfl rfl ?_ | refine sL2 hS rfl rfl rfl ?_ | refine sL3 hS rfl rfl ?_ | refine sL4 hS rfl rfl ?_ | refine sL5 hS rfl rfl ?_ | refine sL6 hS rfl rfl ?_ | refine sL7 hS rfl rfl ?_)) | ((first | (refine oB ?_; first | refine sB1 hS rfl rfl ?_ | refine sB2 hS rfl rfl ?_)); clear hS; first | ((fail_if_success guard_hyp g1); intro g1 w hS) | ((fail_if_success guard_hyp g2); intro g2 w hS) | fail) | fail)
  go_ret
  refine ⟨ret_bool ?_, hS.toExt⟩
  rw [← hB.out]
  rw [Bool.eq_iff_iff]; simp

set_option maxHeartbeats 1600000 in
theorem consistent_any {S T : Nat → Prop} (v : PV) (X : Option Addr) (c : Nat) (p : Pat) (xs : List Int) (w0 : World) (hp : PatAt S w0 v p) (hg : Good p) (hx : RI T w0 X xs) (hv : validB p.len xs = true) :
    Calls Try.prog 58 #[v.val p, .slice X xs.length c] w0 fun e w' => e = .returned (.bool (consB p.arcs xs)) ∧ Ext w0 w' := by
  have hS := St.start w0 NoM
  have hxl : xs.length = p.len.length := by simp [validB] at hv; exact hv.1
  have HG := Lib.hid hg
  have HP := Lib.hid hp
  have hn5 := hg.n5
  have HV := Lib.hid hv
  have hx5 : xs.length ≤ 5 := by omega
  have hB := Lib.hid (consB_iff p.arcs xs)
  have hle := idxs_le (orph · xs) p.arcs p.arcs.length
  have hfew := hg.few
  clear hg hp hv hxl
  obtain ⟨A1, c1, A2, c2, A3, c3⟩ := v
  simp only [PV.val] at *
  go_enter Try.func58, Try.ntmps58
  go_wp2_with (first | (go_at_call 83; refine (fits_any ⟨A1, c1, A2, c2, A3, c3⟩ _ _ p xs _ (HP.out.ext hS.toExt) HG.out (hx.ext hS.toExt) (by omega)).mono ?_; rintro e w ⟨rfl, hx1⟩; have hS := hS.ext hx1; rw [HV.out]) | (go_at_call 82; refine (orphans_any ⟨A1, c1, A2, c2, A3, c3⟩ _ _ p xs _ (HP.out.ext hS.toExt) HG.out (hx.ext hS.toExt) HV.out).mono ?_; rintro e w ⟨L, cl, rfl, ho, hx1⟩; have hS := hS.addRow ho hx1) | (refine oL ?_; (first | refine sL1 hS rfl rfl rfl ?_ | refine sL2 hS rfl rfl rfl ?_ | refine sL3 hS rfl rfl ?_ | refine sL4 hS rfl rfl ?_ | refine sL5 hS rfl rfl ?_ | refine sL6 hS rfl rfl ?_ | refine sL7 hS rfl rfl ?_)) | ((first | (refine oB ?_; first | refine sB1 hS rfl rfl ?_ | refine sB2 hS rfl rfl ?_)); clear hS; first | ((fail_if_success guard_hyp g1); intro g1 w hS) | ((fail_if_success guard_hyp g2); intro g2 w hS) | fail) | fail)
  go_ret
  refine ⟨ret_bool ?_, hS.toExt⟩
  rw [← hB.out]
  rw [Bool.eq_iff_iff]; simp

/-- element by element -/
def zipI (f : Int → Int → Int) (xs ys : List Int) : List Int := if xs.length = ys.length then List.zipWith f xs ys else []
theorem zipWith_take_succ (f : Int → Int → Int) {xs ys : List Int} {k : Nat} (hx : k < xs.length) (hy : k < ys.length) : (List.zipWith f xs ys).take (k + 1) = (List.zipWith f xs ys).take k ++ [f (nth xs k) (nth ys k)] := by
  rw [List.take_succ_eq_append_getElem (by simp; omega)]
  simp [nth_eq hx, nth_eq hy]

end Go.Proofs.Ytkflmichekpfbaa
