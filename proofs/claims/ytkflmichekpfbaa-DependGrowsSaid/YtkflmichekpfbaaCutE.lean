/- Cuts: Lower and Raise, of the program and of the reference. Conditions: the pattern is good, the cut is one. -/
import Derived.Test.YtkflmichekpfbaaCutPure
import Derived.WalkMore
namespace Go.Proofs.Ytkflmichekpfbaa
open Go.RowKit
set_option linter.unusedVariables false
set_option linter.unusedSimpArgs false

/-- a new cut is returned that mending ends in -/
def RetFin (step : Arc → List Int → List Int) (arcs : List Arc) (x : List Int) (w : World) (e : Ending) (w' : World) : Prop :=
  ∃ y, Fin step arcs x y ∧ y.length = x.length ∧ RetRow w 3 1 y.length (ints y) e w'

theorem rorphans_n {S T : Nat → Prop} {A1 A2 A3 X : Option Addr} {c1 c2 c3 c n1 n2 n : Nat} {arcs : List Arc} {xs : List Int} {w0 : World} (hn : xs.length = n) (hx : RI S w0 X xs) (ha : RA T w0 A3 arcs) (hok : ∀ ar ∈ arcs, ar.fr < xs.length ∧ ar.to < xs.length ∧ 0 ≤ ar.at_) (hlen : arcs.length ≤ 1000) :
    Calls Try.prog 68 #[.agg #[.slice A1 n1 c1, .slice A2 n2 c2, .slice A3 arcs.length c3], .slice X n c] w0 (RetRow w0 3 1 (idxs (orph · xs) arcs arcs.length).length (ints (idxs (orph · xs) arcs arcs.length))) := by
  subst hn; exact rorphans _ _ _ _ _ _ _ _ _ _ arcs xs w0 hx ha hok hlen
theorem orphan_n {S : Nat → Prop} {X : Option Addr} {c n : Nat} {ar : Arc} {xs : List Int} {w : World} (hn : xs.length = n) (hx : RI S w X xs) (hf : ar.fr < xs.length) (ht : ar.to < xs.length) (h0 : 0 ≤ ar.at_) :
    Calls Try.prog 84 #[.agg (arcCells ar).toArray, .slice X n c] w fun e w' => e = .returned (.bool (orph ar xs)) ∧ Ext w w' := by
  subst hn; exact orphan_any _ _ _ _ _ hx hf ht h0
set_option maxHeartbeats 1600000 in
theorem rlower_any {S T : Nat → Prop} (v : PV) (X : Option Addr) (c : Nat) (p : Pat) (xs : List Int) (w0 : World) (hp : PatAt S w0 v p) (hg : Good p) (hx : RI T w0 X xs) (hv : validB p.len xs = true) :
    Calls Try.prog 28 #[v.val p, .slice X xs.length c] w0 (RetFin lowStep p.arcs xs w0) := by
  have hS := St.start w0 NoM
  have hxl : xs.length = p.len.length := by simp [validB] at hv; exact hv.1
  have HG := Lib.hid hg
  have ha := hp.arcs
  have hfew := hg.few
  have hn2 := hg.n2
  have hn5 := hg.n5
  have hx5 : xs.length ≤ 5 := by omega
  have hx2 : 2 ≤ xs.length := by omega
  have HX := Lib.hid hxl
  have HV := Lib.hid hv
  clear hg hp hv hxl
  obtain ⟨A1, c1, A2, c2, A3, c3⟩ := v
  simp only [PV.val] at *
  go_enter Try.func28, Try.ntmps28
  go_wp2_with (first | (refine st_appON hS rfl rfl rfl (hx.ext hS.toExt) rfl (by omega) ?_; clear hS; intro L cl w hL hM hS) | (refine oL ?_; (first | refine sL1 hS rfl rfl rfl ?_ | refine sL2 hS rfl rfl rfl ?_ | refine sL3 hS rfl rfl ?_ | refine sL4 hS rfl rfl ?_ | refine sL5 hS rfl rfl ?_ | refine sL6 hS rfl rfl ?_ | refine sL7 hS rfl rfl ?_)) | (refine oS ?_; ((first | refine sS1 hS rfl rfl rfl ?_ | refine sS2 hS rfl rfl rfl ?_ | refine sS3 hS rfl rfl rfl ?_ | refine sS4 hS rfl rfl rfl ?_ | refine sS5 hS rfl rfl rfl ?_); clear hS; intro w hS)) | (refine oP ?_; ((first | refine sP1 hS rfl rfl rfl ?_ | refine sP2 hS rfl rfl rfl ?_ | refine sP3 hS rfl rfl rfl ?_); clear hS; first | ((fail_if_success guard_hyp L1); intro L1 cl1 w hL1 hM1 hS) | ((fail_if_success guard_hyp L2); intro L2 cl2 w hL2 hM2 hS) | fail)) | ((first | (refine oB ?_; first | refine sB1 hS rfl rfl ?_ | refine sB2 hS rfl rfl ?_)); clear hS; first | ((fail_if_success guard_hyp g1); intro g1 w hS) | ((fail_if_success guard_hyp g2); intro g2 w hS) | ((fail_if_success guard_hyp g3); intro g3 w hS) | fail) | fail)
  obtain ⟨g, rfl⟩ := hS.rowSome L (by omega)
  go_loopg [] (sumN xs) (fun kk wr => ∃ (y : List Int), y.length = xs.length ∧ Hid (Run lowStep p.arcs xs y ∧ validB p.len y = true ∧ sumN y = kk) ∧ St w0 NoM [row (.slice (some ⟨g, 0, none⟩) xs.length cl) 3 1 xs.length (ints y), blk g1 [.slice A1 p.len.length c1, .slice A2 p.ck.length c2, .slice A3 p.arcs.length c3] 28] wr)
  case atStart => exact ⟨xs, rfl, Lib.hid ⟨Run.refl _ _ _, HV.out, rfl⟩, hS⟩
  case round =>
    obtain ⟨y, hy, HY, hS⟩ := hrel
    have HOK := Lib.hid (HG.out.arcs_in (hy.trans HX.out))
    have hle := idxs_le (orph · y) p.arcs p.arcs.length
    have HB := Lib.hid (consB_iff p.arcs y)
    cases hid : idxs (orph · y) p.arcs p.arcs.length with
    | nil =>
      go_wp2_with (first | (go_at_call 68; refine (rorphans_n hy hS.ri (ha.into (Into.ofExt hS.toExt)) HOK.out (by omega)).mono ?_; rintro e w ⟨L, cl2, rfl, ho, hx1⟩; have hS := hS.addRow ho hx1; rw [hid] at hS ⊢; rw [List.length_nil]) | (refine oL ?_; (first | refine sL1 hS rfl rfl rfl ?_ | refine sL2 hS rfl rfl rfl ?_ | refine sL3 hS rfl rfl ?_ | refine sL4 hS rfl rfl ?_ | refine sL5 hS rfl rfl ?_ | refine sL6 hS rfl rfl ?_ | refine sL7 hS rfl rfl ?_)) | (refine oS ?_; ((first | refine sS1 hS rfl rfl rfl ?_ | refine sS2 hS rfl rfl rfl ?_ | refine sS3 hS rfl rfl rfl ?_ | refine sS4 hS rfl rfl rfl ?_ | refine sS5 hS rfl rfl rfl ?_); clear hS; intro w hS)) | (refine oP ?_; ((first | refine sP1 hS rfl rfl rfl ?_ | refine sP2 hS rfl rfl rfl ?_ | refine sP3 hS rfl rfl rfl ?_); clear hS; first | ((fail_if_success guard_hyp L1); intro L1 cl1 w hL1 hM1 hS) | ((fail_if_success guard_hyp L2); intro L2 cl2 w hL2 hM2 hS) | fail)) | ((first | (refine oB ?_; first | refine sB1 hS rfl rfl ?_ | refine sB2 hS rfl rfl ?_)); clear hS; first | ((fail_if_success guard_hyp g1); intro g1 w hS) | ((fail_if_success guard_hyp g2); intro g2 w hS) | ((fail_if_success guard_hyp g3); intro g3 w hS) | fail) | fail)
      go_ret
      have hb := HB.out
      rw [hid] at hb
      exact ⟨y, ⟨HY.out.1, by simpa using hb.symm⟩, hy, by rw [hy]; exact hS.ret rfl⟩
    | cons i r =>
      obtain ⟨k, rfl, hk, hk', hf, ho⟩ := find_idxs _ (Nat.le_refl _) hid
      have hsv := low_valid HG.out (List.getElem_mem hk') HY.out.2.1 ho
      have hrun := HY.out.1.snoc hf
      have hok := HG.out.arc _ (List.getElem_mem hk')
      have HH := Lib.hid (And.intro hsv (And.intro hrun hok))
      clear hsv hrun hok hf ho
      have hix := HH.out.2.2.to
      have hix' : (p.arcs[k].to : Int) < xs.length := by have := HX.out; omega
      have hixy : p.arcs[k].to < y.length := by have := HX.out; omega
      have hat := HH.out.2.2.at0
      have hat1 := HH.out.2.2.at1
      have hhi := HG.out.hi _ HH.out.2.2.to
      obtain ⟨b3, o3, rfl, _, hcs⟩ := ha.cells hk'
      have hrl : ((k : Int) :: r).length ≤ 1000 := by rw [← hid]; omega
      generalize p.arcs[k] = ar at *
      simp only [arcCells] at hcs
      go_wp2_with (first | (go_at_call 68; refine (rorphans_n hy hS.ri (ha.into (Into.ofExt hS.toExt)) HOK.out (by omega)).mono ?_; rintro e w ⟨L, cl2, rfl, ho, hx1⟩; have hS := hS.addRow ho hx1; rw [hid] at hS ⊢; obtain ⟨gl, rfl⟩ := hS.rowSome L (by simp)) | (refine oL ?_; (first | refine sL1 hS rfl rfl rfl ?_ | refine sL2 hS rfl rfl rfl ?_ | refine sL3 hS rfl rfl ?_ | refine sL4 hS rfl rfl ?_ | refine sL5 hS rfl rfl ?_ | refine sL6 hS rfl rfl ?_ | refine sL7 hS rfl rfl ?_)) | (refine oS ?_; ((first | refine sS1 hS rfl rfl rfl ?_ | refine sS2 hS rfl rfl rfl ?_ | refine sS3 hS rfl rfl rfl ?_ | refine sS4 hS rfl rfl rfl ?_ | refine sS5 hS rfl rfl rfl ?_); clear hS; intro w hS)) | (refine oP ?_; ((first | refine sP1 hS rfl rfl rfl ?_ | refine sP2 hS rfl rfl rfl ?_ | refine sP3 hS rfl rfl rfl ?_); clear hS; first | ((fail_if_success guard_hyp L1); intro L1 cl1 w hL1 hM1 hS) | ((fail_if_success guard_hyp L2); intro L2 cl2 w hL2 hM2 hS) | fail)) | ((first | (refine oB ?_; first | refine sB1 hS rfl rfl ?_ | refine sB2 hS rfl rfl ?_)); clear hS; first | ((fail_if_success guard_hyp g1); intro g1 w hS) | ((fail_if_success guard_hyp g2); intro g2 w hS) | ((fail_if_success guard_hyp g3); intro g3 w hS) | fail) | fail)
      have hr0 : (ints ((k : Int) :: r))[0]? = some (.int .i64 (k : Int)) := rfl
      have hkl : (k : Int) < p.arcs.length := by omega
      refine dr_start0 [8]  hS (by kernel_rfl) rfl ?_; clear hS; intro w hS
      refine dP hS 0 rfl rfl ?_
      (try simp only [Act.put, nA, nB, nC])
      first | refine dL1 hS 1 rfl rfl rfl rfl ?_ | refine dL2 hS 1 rfl rfl rfl rfl ?_ | refine dL3 hS 1 rfl rfl rfl ?_ | refine dL4 hS 1 rfl rfl rfl ?_ | refine dL5 hS 1 rfl rfl rfl ?_ | refine dL6 hS 1 rfl rfl rfl ?_ | refine dL7 hS 1 rfl rfl rfl ?_
      (try simp only [Act.put, nA, nB, nC])
      refine dM hS 2 rfl rfl rfl ?_
      (try simp only [Act.put, nA, nB, nC])
      refine dP hS 3 rfl rfl ?_
      (try simp only [Act.put, nA, nB, nC])
      first | refine dL1 hS 4 rfl rfl rfl rfl ?_ | refine dL2 hS 4 rfl rfl rfl rfl ?_ | refine dL3 hS 4 rfl rfl rfl ?_ | refine dL4 hS 4 rfl rfl rfl ?_ | refine dL5 hS 4 rfl rfl rfl ?_ | refine dL6 hS 4 rfl rfl rfl ?_ | refine dL7 hS 4 rfl rfl rfl ?_
      (try simp only [Act.put, nA, nB, nC])
      refine dP hS 5 rfl rfl ?_
      (try simp only [Act.put, nA, nB, nC])
      first | refine dL1 hS 6 rfl rfl rfl rfl ?_ | refine dL2 hS 6 rfl rfl rfl rfl ?_ | refine dL3 hS 6 rfl rfl rfl ?_ | refine dL4 hS 6 rfl rfl rfl ?_ | refine dL5 hS 6 rfl rfl rfl ?_ | refine dL6 hS 6 rfl rfl rfl ?_ | refine dL7 hS 6 rfl rfl rfl ?_
      (try simp only [Act.put, nA, nB, nC])
      refine dr_one 7 (by kernel_rfl) rfl ?_
      (refine sN1 hS rfl ?_; clear hS; first | ((fail_if_success guard_hyp g1); intro g1 w hS) | ((fail_if_success guard_hyp g2); intro g2 w hS) | ((fail_if_success guard_hyp g3); intro g3 w hS) | fail)
      (try simp only [Act.put, nA, nB, nC])
      refine dr_end hS ?_
      refine dr_one 8 (by kernel_rfl) rfl ?_
      ((first | refine sS1 hS rfl rfl rfl ?_ | refine sS2 hS rfl rfl rfl ?_ | refine sS3 hS rfl rfl rfl ?_ | refine sS4 hS rfl rfl rfl ?_ | refine sS5 hS rfl rfl rfl ?_); clear hS; intro w hS)
      (try simp only [Act.put, nA, nB, nC])
      refine dr_late (by kernel_rfl) ?_
      refine dr_done (by kernel_rfl) ?_
      go_wp2_with (first | (refine oL ?_; (first | refine sL1 hS rfl rfl rfl ?_ | refine sL2 hS rfl rfl rfl ?_ | refine sL3 hS rfl rfl ?_ | refine sL4 hS rfl rfl ?_ | refine sL5 hS rfl rfl ?_ | refine sL6 hS rfl rfl ?_ | refine sL7 hS rfl rfl ?_)) | (refine oS ?_; ((first | refine sS1 hS rfl rfl rfl ?_ | refine sS2 hS rfl rfl rfl ?_ | refine sS3 hS rfl rfl rfl ?_ | refine sS4 hS rfl rfl rfl ?_ | refine sS5 hS rfl rfl rfl ?_); clear hS; intro w hS)) | (refine oP ?_; ((first | refine sP1 hS rfl rfl rfl ?_ | refine sP2 hS rfl rfl rfl ?_ | refine sP3 hS rfl rfl rfl ?_); clear hS; first | ((fail_if_success guard_hyp L1); intro L1 cl1 w hL1 hM1 hS) | ((fail_if_success guard_hyp L2); intro L2 cl2 w hL2 hM2 hS) | fail)) | ((first | (refine oB ?_; first | refine sB1 hS rfl rfl ?_ | refine sB2 hS rfl rfl ?_)); clear hS; first | ((fail_if_success guard_hyp g1); intro g1 w hS) | ((fail_if_success guard_hyp g2); intro g2 w hS) | ((fail_if_success guard_hyp g3); intro g3 w hS) | fail) | fail)
      go_roundg (sumN (lowStep ar y))
      case measure => have h := HH.out.1.2; rw [HY.out.2.2] at h; exact h
      case rel => exact ⟨lowStep ar y, by simp [lowStep, hy], Lib.hid ⟨HH.out.2.1, HH.out.1.1, rfl⟩, hS.drop.drop⟩

set_option maxHeartbeats 1600000 in
theorem lower_any {S T : Nat → Prop} (v : PV) (X : Option Addr) (c : Nat) (p : Pat) (xs : List Int) (w0 : World) (hp : PatAt S w0 v p) (hg : Good p) (hx : RI T w0 X xs) (hv : validB p.len xs = true) :
    Calls Try.prog 81 #[v.val p, .slice X xs.length c] w0 (RetFin lowStep p.arcs xs w0) := by
  have hS := St.start w0 NoM
  have hxl : xs.length = p.len.length := by simp [validB] at hv; exact hv.1
  have HG := Lib.hid hg
  have HP := Lib.hid hp
  have ha := hp.arcs
  have hfew := hg.few
  have hn2 := hg.n2
  have hn5 := hg.n5
  have hx5 : xs.length ≤ 5 := by omega
  have hx2 : 2 ≤ xs.length := by omega
  have HX := Lib.hid hxl
  have HV := Lib.hid hv
  clear hg hp hv hxl
  obtain ⟨A1, c1, A2, c2, A3, c3⟩ := v
  simp only [PV.val] at *
  go_enter Try.func81, Try.ntmps81
  go_wp2_with (first | (refine oL ?_; (first | refine sL1 hS rfl rfl rfl ?_ | refine sL2 hS rfl rfl rfl ?_ | refine sL3 hS rfl rfl ?_ | refine sL4 hS rfl rfl ?_ | refine sL5 hS rfl rfl ?_ | refine sL6 hS rfl rfl ?_ | refine sL7 hS rfl rfl ?_)) | (refine oS ?_; ((first | refine sS1 hS rfl rfl rfl ?_ | refine sS2 hS rfl rfl rfl ?_ | refine sS3 hS rfl rfl rfl ?_ | refine sS4 hS rfl rfl rfl ?_ | refine sS5 hS rfl rfl rfl ?_); clear hS; intro w hS)) | ((first | (refine oB ?_; first | refine sB1 hS rfl rfl ?_ | refine sB2 hS rfl rfl ?_) | refine sN1 hS rfl ?_); clear hS; first | ((fail_if_success guard_hyp g1); intro g1 w hS) | ((fail_if_success guard_hyp g2); intro g2 w hS) | ((fail_if_success guard_hyp g3); intro g3 w hS) | fail) | fail)
  go_step3
  go_wp2_with (first | (go_at_call 83; refine (fits_any ⟨A1, c1, A2, c2, A3, c3⟩ _ _ p xs _ (HP.out.ext hS.toExt) HG.out (hx.ext hS.toExt) (by omega)).mono ?_; rintro e w ⟨rfl, hx1⟩; have hS := hS.ext hx1; rw [HV.out]) | (go_at_call 73; refine (clone_any _ _ xs _ (hx.ext hS.toExt) (by omega)).mono ?_; rintro e w ⟨L, cl, rfl, ho, hx1⟩; have hS := hS.addRow ho hx1; obtain ⟨g, rfl⟩ := hS.rowSome L (by omega)) | (refine oL ?_; (first | refine sL1 hS rfl rfl rfl ?_ | refine sL2 hS rfl rfl rfl ?_ | refine sL3 hS rfl rfl ?_ | refine sL4 hS rfl rfl ?_ | refine sL5 hS rfl rfl ?_ | refine sL6 hS rfl rfl ?_ | refine sL7 hS rfl rfl ?_)) | (refine oS ?_; ((first | refine sS1 hS rfl rfl rfl ?_ | refine sS2 hS rfl rfl rfl ?_ | refine sS3 hS rfl rfl rfl ?_ | refine sS4 hS rfl rfl rfl ?_ | refine sS5 hS rfl rfl rfl ?_); clear hS; intro w hS)) | ((first | (refine oB ?_; first | refine sB1 hS rfl rfl ?_ | refine sB2 hS rfl rfl ?_) | refine sN1 hS rfl ?_); clear hS; first | ((fail_if_success guard_hyp g1); intro g1 w hS) | ((fail_if_success guard_hyp g2); intro g2 w hS) | ((fail_if_success guard_hyp g3); intro g3 w hS) | fail) | fail)
  go_step3
  go_wp2_with (first | (refine oL ?_; (first | refine sL1 hS rfl rfl rfl ?_ | refine sL2 hS rfl rfl rfl ?_ | refine sL3 hS rfl rfl ?_ | refine sL4 hS rfl rfl ?_ | refine sL5 hS rfl rfl ?_ | refine sL6 hS rfl rfl ?_ | refine sL7 hS rfl rfl ?_)) | (refine oS ?_; ((first | refine sS1 hS rfl rfl rfl ?_ | refine sS2 hS rfl rfl rfl ?_ | refine sS3 hS rfl rfl rfl ?_ | refine sS4 hS rfl rfl rfl ?_ | refine sS5 hS rfl rfl rfl ?_); clear hS; intro w hS)) | ((first | (refine oB ?_; first | refine sB1 hS rfl rfl ?_ | refine sB2 hS rfl rfl ?_) | refine sN1 hS rfl ?_); clear hS; first | ((fail_if_success guard_hyp g1); intro g1 w hS) | ((fail_if_success guard_hyp g2); intro g2 w hS) | ((fail_if_success guard_hyp g3); intro g3 w hS) | fail) | fail)
  go_loopg [] (sumN xs) (fun kk wr => ∃ (y : List Int), y.length = xs.length ∧ Hid (Run lowStep p.arcs xs y ∧ validB p.len y = true ∧ sumN y = kk) ∧ St w0 NoM [row (.slice (some ⟨g, 0, none⟩) xs.length cl) 3 1 xs.length (ints y), blk g1 [.slice A1 p.len.length c1, .slice A2 p.ck.length c2, .slice A3 p.arcs.length c3] 28] wr)
  case atStart => exact ⟨xs, rfl, Lib.hid ⟨Run.refl _ _ _, HV.out, rfl⟩, hS⟩
  case round =>
    obtain ⟨y, hy, HY, hS⟩ := hrel
    have HOK := Lib.hid (HG.out.arcs_in (hy.trans HX.out))
    go_wp2_with (first | (refine oL ?_; (first | refine sL1 hS rfl rfl rfl ?_ | refine sL2 hS rfl rfl rfl ?_ | refine sL3 hS rfl rfl ?_ | refine sL4 hS rfl rfl ?_ | refine sL5 hS rfl rfl ?_ | refine sL6 hS rfl rfl ?_ | refine sL7 hS rfl rfl ?_)) | (refine oS ?_; ((first | refine sS1 hS rfl rfl rfl ?_ | refine sS2 hS rfl rfl rfl ?_ | refine sS3 hS rfl rfl rfl ?_ | refine sS4 hS rfl rfl rfl ?_ | refine sS5 hS rfl rfl rfl ?_); clear hS; intro w hS)) | ((first | (refine oB ?_; first | refine sB1 hS rfl rfl ?_ | refine sB2 hS rfl rfl ?_) | refine sN1 hS rfl ?_); clear hS; first | ((fail_if_success guard_hyp g1); intro g1 w hS) | ((fail_if_success guard_hyp g2); intro g2 w hS) | ((fail_if_success guard_hyp g3); intro g3 w hS) | fail) | fail)
    go_loopw [17] (fun s wr => ∃ (k : Nat), k ≤ p.arcs.length ∧ s = .int .i64 k ∧ Hid (∀ a ∈ p.arcs.take k, orph a y = false) ∧ St w0 NoM [row (.slice (some ⟨g, 0, none⟩) xs.length cl) 3 1 xs.length (ints y), blk g1 [.slice A1 p.len.length c1, .slice A2 p.ck.length c2, .slice A3 p.arcs.length c3] 28] wr) (fun s _ => p.arcs.length - (intOf s).toNat)
    case atStart => exact ⟨0, Nat.zero_le _, rfl, Lib.hid (by simp), hS⟩
    case round =>
      obtain ⟨k, hk, rfl, HN, hS⟩ := hrel
      by_cases hlt : k < p.arcs.length
      · have ho := HOK.out _ (List.getElem_mem hlt)
        obtain ⟨b3, o3, rfl, _, hcs⟩ := ha.cells hlt
        simp only [arcCells] at hcs
        have HF := Lib.hid (find_at (f := (orph · y)) hlt HN.out)
        have HM := Lib.hid (List.getElem_mem hlt)
        have HT := Lib.hid (List.take_succ_eq_append_getElem hlt)
        generalize p.arcs[k] = ar at *
        cases hb : orph ar y
        · go_wp2_with (first | (go_at_call 84; refine (orphan_n hy hS.ri ho.1 ho.2.1 ho.2.2).mono ?_; rintro e w ⟨rfl, hx1⟩; have hS := hS.ext hx1; rw [hb]) | (refine oL ?_; (first | refine sL1 hS rfl rfl rfl ?_ | refine sL2 hS rfl rfl rfl ?_ | refine sL3 hS rfl rfl ?_ | refine sL4 hS rfl rfl ?_ | refine sL5 hS rfl rfl ?_ | refine sL6 hS rfl rfl ?_ | refine sL7 hS rfl rfl ?_)) | (refine oS ?_; ((first | refine sS1 hS rfl rfl rfl ?_ | refine sS2 hS rfl rfl rfl ?_ | refine sS3 hS rfl rfl rfl ?_ | refine sS4 hS rfl rfl rfl ?_ | refine sS5 hS rfl rfl rfl ?_); clear hS; intro w hS)) | ((first | (refine oB ?_; first | refine sB1 hS rfl rfl ?_ | refine sB2 hS rfl rfl ?_) | refine sN1 hS rfl ?_); clear hS; first | ((fail_if_success guard_hyp g1); intro g1 w hS) | ((fail_if_success guard_hyp g2); intro g2 w hS) | ((fail_if_success guard_hyp g3); intro g3 w hS) | fail) | fail)
          go_roundw
          case measure => simp [intOf]; omega
          refine ⟨k + 1, by omega, by go_num, Lib.hid ?_, hS.drop⟩
          intro a ha
          rw [HT.out] at ha
          rcases List.mem_append.1 ha with ha | ha
          · exact HN.out a ha
          · rw [List.mem_singleton.1 ha]; exact hb
        · have hsv := low_valid HG.out HM.out HY.out.2.1 hb
          have hrun := HY.out.1.snoc (HF.out hb)
          have hok := HG.out.arc _ HM.out
          have HH := Lib.hid (And.intro hsv (And.intro hrun hok))
          clear hsv hrun hok
          have hix := HH.out.2.2.to
          have hix' : (ar.to : Int) < xs.length := by have := HX.out; omega
          have hixy : ar.to < y.length := by have := HX.out; omega
          have hat := HH.out.2.2.at0
          have hat1 := HH.out.2.2.at1
          have hhi := HG.out.hi _ HH.out.2.2.to
          go_wp2_with (first | (go_at_call 84; refine (orphan_n hy hS.ri ho.1 ho.2.1 ho.2.2).mono ?_; rintro e w ⟨rfl, hx1⟩; have hS := hS.ext hx1; rw [hb]) | (refine oL ?_; (first | refine sL1 hS rfl rfl rfl ?_ | refine sL2 hS rfl rfl rfl ?_ | refine sL3 hS rfl rfl ?_ | refine sL4 hS rfl rfl ?_ | refine sL5 hS rfl rfl ?_ | refine sL6 hS rfl rfl ?_ | refine sL7 hS rfl rfl ?_)) | (refine oS ?_; ((first | refine sS1 hS rfl rfl rfl ?_ | refine sS2 hS rfl rfl rfl ?_ | refine sS3 hS rfl rfl rfl ?_ | refine sS4 hS rfl rfl rfl ?_ | refine sS5 hS rfl rfl rfl ?_); clear hS; intro w hS)) | ((first | (refine oB ?_; first | refine sB1 hS rfl rfl ?_ | refine sB2 hS rfl rfl ?_) | refine sN1 hS rfl ?_); clear hS; first | ((fail_if_success guard_hyp g1); intro g1 w hS) | ((fail_if_success guard_hyp g2); intro g2 w hS) | ((fail_if_success guard_hyp g3); intro g3 w hS) | fail) | fail)
          go_roundg (sumN (lowStep ar y))
          case measure => have h := HH.out.1.2; rw [HY.out.2.2] at h; exact h
          case rel => exact ⟨lowStep ar y, by simp [lowStep, hy], Lib.hid ⟨HH.out.2.1, HH.out.1.1, rfl⟩, hS.drop⟩
      · go_wp2_with (first | (refine oL ?_; (first | refine sL1 hS rfl rfl rfl ?_ | refine sL2 hS rfl rfl rfl ?_ | refine sL3 hS rfl rfl ?_ | refine sL4 hS rfl rfl ?_ | refine sL5 hS rfl rfl ?_ | refine sL6 hS rfl rfl ?_ | refine sL7 hS rfl rfl ?_)) | (refine oS ?_; ((first | refine sS1 hS rfl rfl rfl ?_ | refine sS2 hS rfl rfl rfl ?_ | refine sS3 hS rfl rfl rfl ?_ | refine sS4 hS rfl rfl rfl ?_ | refine sS5 hS rfl rfl rfl ?_); clear hS; intro w hS)) | ((first | (refine oB ?_; first | refine sB1 hS rfl rfl ?_ | refine sB2 hS rfl rfl ?_) | refine sN1 hS rfl ?_); clear hS; first | ((fail_if_success guard_hyp g1); intro g1 w hS) | ((fail_if_success guard_hyp g2); intro g2 w hS) | ((fail_if_success guard_hyp g3); intro g3 w hS) | fail) | fail)
        rw [Exit.noGoto_ret]
        go_ret
        have e : k = p.arcs.length := by omega
        have hn := HN.out
        rw [e, List.take_length] at hn
        exact ⟨y, ⟨HY.out.1, by simp [consB, List.all_eq_true]; exact hn⟩, hy, by rw [hy]; exact hS.ret rfl⟩
set_option maxHeartbeats 1600000 in
theorem raise_any {S T : Nat → Prop} (v : PV) (X : Option Addr) (c : Nat) (p : Pat) (xs : List Int) (w0 : World) (hp : PatAt S w0 v p) (hg : Good p) (hx : RI T w0 X xs) (hv : validB p.len xs = true) :
    Calls Try.prog 56 #[v.val p, .slice X xs.length c] w0 (RetFin raiStep p.arcs xs w0) := by
  have hS := St.start w0 NoM
  have hxl : xs.length = p.len.length := by simp [validB] at hv; exact hv.1
  have HG := Lib.hid hg
  have HP := Lib.hid hp
  have ha := hp.arcs
  have hfew := hg.few
  have hn2 := hg.n2
  have hn5 := hg.n5
  have hx5 : xs.length ≤ 5 := by omega
  have hx2 : 2 ≤ xs.length := by omega
  have HX := Lib.hid hxl
  have HV := Lib.hid hv
  clear hg hp hv hxl
  obtain ⟨A1, c1, A2, c2, A3, c3⟩ := v
  simp only [PV.val] at *
  go_enter Try.func56, Try.ntmps56
  go_wp2_with (first | (refine oL ?_; (first | refine sL1 hS rfl rfl rfl ?_ | refine sL2 hS rfl rfl rfl ?_ | refine sL3 hS rfl rfl ?_ | refine sL4 hS rfl rfl ?_ | refine sL5 hS rfl rfl ?_ | refine sL6 hS rfl rfl ?_ | refine sL7 hS rfl rfl ?_)) | (refine oS ?_; ((first | refine sS1 hS rfl rfl rfl ?_ | refine sS2 hS rfl rfl rfl ?_ | refine sS3 hS rfl rfl rfl ?_ | refine sS4 hS rfl rfl rfl ?_ | refine sS5 hS rfl rfl rfl ?_); clear hS; intro w hS)) | ((first | (refine oB ?_; first | refine sB1 hS rfl rfl ?_ | refine sB2 hS rfl rfl ?_) | refine sN1 hS rfl ?_); clear hS; first | ((fail_if_success guard_hyp g1); intro g1 w hS) | ((fail_if_success guard_hyp g2); intro g2 w hS) | ((fail_if_success guard_hyp g3); intro g3 w hS) | fail) | fail)
  go_step3
  go_wp2_with (first | (go_at_call 83; refine (fits_any ⟨A1, c1, A2, c2, A3, c3⟩ _ _ p xs _ (HP.out.ext hS.toExt) HG.out (hx.ext hS.toExt) (by omega)).mono ?_; rintro e w ⟨rfl, hx1⟩; have hS := hS.ext hx1; rw [HV.out]) | (go_at_call 73; refine (clone_any _ _ xs _ (hx.ext hS.toExt) (by omega)).mono ?_; rintro e w ⟨L, cl, rfl, ho, hx1⟩; have hS := hS.addRow ho hx1; obtain ⟨g, rfl⟩ := hS.rowSome L (by omega)) | (refine oL ?_; (first | refine sL1 hS rfl rfl rfl ?_ | refine sL2 hS rfl rfl rfl ?_ | refine sL3 hS rfl rfl ?_ | refine sL4 hS rfl rfl ?_ | refine sL5 hS rfl rfl ?_ | refine sL6 hS rfl rfl ?_ | refine sL7 hS rfl rfl ?_)) | (refine oS ?_; ((first | refine sS1 hS rfl rfl rfl ?_ | refine sS2 hS rfl rfl rfl ?_ | refine sS3 hS rfl rfl rfl ?_ | refine sS4 hS rfl rfl rfl ?_ | refine sS5 hS rfl rfl rfl ?_); clear hS; intro w hS)) | ((first | (refine oB ?_; first | refine sB1 hS rfl rfl ?_ | refine sB2 hS rfl rfl ?_) | refine sN1 hS rfl ?_); clear hS; first | ((fail_if_success guard_hyp g1); intro g1 w hS) | ((fail_if_success guard_hyp g2); intro g2 w hS) | ((fail_if_success guard_hyp g3); intro g3 w hS) | fail) | fail)
  go_step3
  go_wp2_with (first | (refine oL ?_; (first | refine sL1 hS rfl rfl rfl ?_ | refine sL2 hS rfl rfl rfl ?_ | refine sL3 hS rfl rfl ?_ | refine sL4 hS rfl rfl ?_ | refine sL5 hS rfl rfl ?_ | refine sL6 hS rfl rfl ?_ | refine sL7 hS rfl rfl ?_)) | (refine oS ?_; ((first | refine sS1 hS rfl rfl rfl ?_ | refine sS2 hS rfl rfl rfl ?_ | refine sS3 hS rfl rfl rfl ?_ | refine sS4 hS rfl rfl rfl ?_ | refine sS5 hS rfl rfl rfl ?_); clear hS; intro w hS)) | ((first | (refine oB ?_; first | refine sB1 hS rfl rfl ?_ | refine sB2 hS rfl rfl ?_) | refine sN1 hS rfl ?_); clear hS; first | ((fail_if_success guard_hyp g1); intro g1 w hS) | ((fail_if_success guard_hyp g2); intro g2 w hS) | ((fail_if_success guard_hyp g3); intro g3 w hS) | fail) | fail)
  go_loopg [] (lackN p.len xs) (fun kk wr => ∃ (y : List Int), y.length = xs.length ∧ Hid (Run raiStep p.arcs xs y ∧ validB p.len y = true ∧ lackN p.len y = kk) ∧ St w0 NoM [row (.slice (some ⟨g, 0, none⟩) xs.length cl) 3 1 xs.length (ints y), blk g1 [.slice A1 p.len.length c1, .slice A2 p.ck.length c2, .slice A3 p.arcs.length c3] 28] wr)
  case atStart => exact ⟨xs, rfl, Lib.hid ⟨Run.refl _ _ _, HV.out, rfl⟩, hS⟩
  case round =>
    obtain ⟨y, hy, HY, hS⟩ := hrel
    have HOK := Lib.hid (HG.out.arcs_in (hy.trans HX.out))
    go_wp2_with (first | (refine oL ?_; (first | refine sL1 hS rfl rfl rfl ?_ | refine sL2 hS rfl rfl rfl ?_ | refine sL3 hS rfl rfl ?_ | refine sL4 hS rfl rfl ?_ | refine sL5 hS rfl rfl ?_ | refine sL6 hS rfl rfl ?_ | refine sL7 hS rfl rfl ?_)) | (refine oS ?_; ((first | refine sS1 hS rfl rfl rfl ?_ | refine sS2 hS rfl rfl rfl ?_ | refine sS3 hS rfl rfl rfl ?_ | refine sS4 hS rfl rfl rfl ?_ | refine sS5 hS rfl rfl rfl ?_); clear hS; intro w hS)) | ((first | (refine oB ?_; first | refine sB1 hS rfl rfl ?_ | refine sB2 hS rfl rfl ?_) | refine sN1 hS rfl ?_); clear hS; first | ((fail_if_success guard_hyp g1); intro g1 w hS) | ((fail_if_success guard_hyp g2); intro g2 w hS) | ((fail_if_success guard_hyp g3); intro g3 w hS) | fail) | fail)
    go_loopw [17] (fun s wr => ∃ (k : Nat), k ≤ p.arcs.length ∧ s = .int .i64 k ∧ Hid (∀ a ∈ p.arcs.take k, orph a y = false) ∧ St w0 NoM [row (.slice (some ⟨g, 0, none⟩) xs.length cl) 3 1 xs.length (ints y), blk g1 [.slice A1 p.len.length c1, .slice A2 p.ck.length c2, .slice A3 p.arcs.length c3] 28] wr) (fun s _ => p.arcs.length - (intOf s).toNat)
    case atStart => exact ⟨0, Nat.zero_le _, rfl, Lib.hid (by simp), hS⟩
    case round =>
      obtain ⟨k, hk, rfl, HN, hS⟩ := hrel
      by_cases hlt : k < p.arcs.length
      · have ho := HOK.out _ (List.getElem_mem hlt)
        obtain ⟨b3, o3, rfl, _, hcs⟩ := ha.cells hlt
        simp only [arcCells] at hcs
        have HF := Lib.hid (find_at (f := (orph · y)) hlt HN.out)
        have HM := Lib.hid (List.getElem_mem hlt)
        have HT := Lib.hid (List.take_succ_eq_append_getElem hlt)
        generalize p.arcs[k] = ar at *
        cases hb : orph ar y
        · go_wp2_with (first | (go_at_call 84; refine (orphan_n hy hS.ri ho.1 ho.2.1 ho.2.2).mono ?_; rintro e w ⟨rfl, hx1⟩; have hS := hS.ext hx1; rw [hb]) | (refine oL ?_; (first | refine sL1 hS rfl rfl rfl ?_ | refine sL2 hS rfl rfl rfl ?_ | refine sL3 hS rfl rfl ?_ | refine sL4 hS rfl rfl ?_ | refine sL5 hS rfl rfl ?_ | refine sL6 hS rfl rfl ?_ | refine sL7 hS rfl rfl ?_)) | (refine oS ?_; ((first | refine sS1 hS rfl rfl rfl ?_ | refine sS2 hS rfl rfl rfl ?_ | refine sS3 hS rfl rfl rfl ?_ | refine sS4 hS rfl rfl rfl ?_ | refine sS5 hS rfl rfl rfl ?_); clear hS; intro w hS)) | ((first | (refine oB ?_; first | refine sB1 hS rfl rfl ?_ | refine sB2 hS rfl rfl ?_) | refine sN1 hS rfl ?_); clear hS; first | ((fail_if_success guard_hyp g1); intro g1 w hS) | ((fail_if_success guard_hyp g2); intro g2 w hS) | ((fail_if_success guard_hyp g3); intro g3 w hS) | fail) | fail)
          go_roundw
          case measure => simp [intOf]; omega
          refine ⟨k + 1, by omega, by go_num, Lib.hid ?_, hS.drop⟩
          intro a ha
          rw [HT.out] at ha
          rcases List.mem_append.1 ha with ha | ha
          · exact HN.out a ha
          · rw [List.mem_singleton.1 ha]; exact hb
        · have hsv := rai_valid HG.out HM.out HY.out.2.1 hb
          have hrun := HY.out.1.snoc (HF.out hb)
          have hok := HG.out.arc _ HM.out
          have HH := Lib.hid (And.intro hsv (And.intro hrun hok))
          clear hsv hrun hok
          have hix := HH.out.2.2.fr
          have hix' : (ar.fr : Int) < xs.length := by have := HX.out; omega
          have hixy : ar.fr < y.length := by have := HX.out; omega
          have hat := HH.out.2.2.at0
          have hat1 := HH.out.2.2.at1
          have hhi := HG.out.hi _ HH.out.2.2.to
          go_wp2_with (first | (go_at_call 84; refine (orphan_n hy hS.ri ho.1 ho.2.1 ho.2.2).mono ?_; rintro e w ⟨rfl, hx1⟩; have hS := hS.ext hx1; rw [hb]) | (refine oL ?_; (first | refine sL1 hS rfl rfl rfl ?_ | refine sL2 hS rfl rfl rfl ?_ | refine sL3 hS rfl rfl ?_ | refine sL4 hS rfl rfl ?_ | refine sL5 hS rfl rfl ?_ | refine sL6 hS rfl rfl ?_ | refine sL7 hS rfl rfl ?_)) | (refine oS ?_; ((first | refine sS1 hS rfl rfl rfl ?_ | refine sS2 hS rfl rfl rfl ?_ | refine sS3 hS rfl rfl rfl ?_ | refine sS4 hS rfl rfl rfl ?_ | refine sS5 hS rfl rfl rfl ?_); clear hS; intro w hS)) | ((first | (refine oB ?_; first | refine sB1 hS rfl rfl ?_ | refine sB2 hS rfl rfl ?_) | refine sN1 hS rfl ?_); clear hS; first | ((fail_if_success guard_hyp g1); intro g1 w hS) | ((fail_if_success guard_hyp g2); intro g2 w hS) | ((fail_if_success guard_hyp g3); intro g3 w hS) | fail) | fail)
          go_roundg (lackN p.len (raiStep ar y))
          case measure => have h := HH.out.1.2; rw [HY.out.2.2] at h; exact h
          case rel => exact ⟨raiStep ar y, by simp [raiStep, hy], Lib.hid ⟨HH.out.2.1, HH.out.1.1, rfl⟩, hS.drop⟩
      · go_wp2_with (first | (refine oL ?_; (first | refine sL1 hS rfl rfl rfl ?_ | refine sL2 hS rfl rfl rfl ?_ | refine sL3 hS rfl rfl ?_ | refine sL4 hS rfl rfl ?_ | refine sL5 hS rfl rfl ?_ | refine sL6 hS rfl rfl ?_ | refine sL7 hS rfl rfl ?_)) | (refine oS ?_; ((first | refine sS1 hS rfl rfl rfl ?_ | refine sS2 hS rfl rfl rfl ?_ | refine sS3 hS rfl rfl rfl ?_ | refine sS4 hS rfl rfl rfl ?_ | refine sS5 hS rfl rfl rfl ?_); clear hS; intro w hS)) | ((first | (refine oB ?_; first | refine sB1 hS rfl rfl ?_ | refine sB2 hS rfl rfl ?_) | refine sN1 hS rfl ?_); clear hS; first | ((fail_if_success guard_hyp g1); intro g1 w hS) | ((fail_if_success guard_hyp g2); intro g2 w hS) | ((fail_if_success guard_hyp g3); intro g3 w hS) | fail) | fail)
        rw [Exit.noGoto_ret]
        go_ret
        have e : k = p.arcs.length := by omega
        have hn := HN.out
        rw [e, List.take_length] at hn
        exact ⟨y, ⟨HY.out.1, by simp [consB, List.all_eq_true]; exact hn⟩, hy, by rw [hy]; exact hS.ret rfl⟩
end Go.Proofs.Ytkflmichekpfbaa
