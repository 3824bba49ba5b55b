/- MarkerEnds: once all channels are emptied, a snapshot that has begun is complete, and each channel has carried one marker. No condition. -/
import Derived.Test.YtkaofbjppibdkaaSnCons
import Derived.Test.YtkaofbjppibdkaaSnHead
import Derived.Test.YtkaofbjppibdkaaSnEndP
import Derived.Test.YtkaofbjppibdkaaLaw
namespace Go.Proofs.Ytkaofbjppibdkaa
open Go.RowKit
set_option linter.unusedVariables false
set_option linter.unusedSimpArgs false
set_option linter.unusedSectionVars false

theorem start_o {S1 S2 : Nat → Prop} {V : Option Addr} {g : Nat} {vs : List Int} {C : Option Addr} {f : Nat} {bs : List Int} {w0 : World} (hvs : RI S1 w0 V vs) (hg : vs.length ≤ g) (hg' : g ≤ 9223372036854775807) (hin : ∀ b ∈ vs, -9223372036854775808 ≤ b ∧ b ≤ 9223372036854775807) (hbs : RV S2 w0 C (bytes bs)) (hf : bs.length ≤ f) (hf' : f ≤ 9223372036854775807) (hby : ∀ b ∈ bs, 0 ≤ b ∧ b ≤ 255) :
    Calls Try.prog 14 #[.slice V vs.length g, .slice C bs.length f] w0 (StRetO w0) :=
  start_own V g vs C f bs w0 (RV.into hvs (fun b _ hl => ⟨hl, rfl⟩)) hg hg' hin (hbs.into (fun b _ hl => ⟨hl, rfl⟩)) hf hf' hby
theorem marks_le (l : List Pcl) : marks l ≤ l.length := List.length_filter_le _ _
theorem wrap_quo {y n : Nat} (hy : y ≤ 1000000) : wrap64 ((y : Int) / (n : Int)) = (y : Int) / (n : Int) := by
  have h1 : y / n ≤ y := Nat.div_le_self _ _
  have h2 : (y : Int) / (n : Int) = ((y / n : Nat) : Int) := (Int.natCast_ediv _ _).symm
  rw [h2]
  generalize y / n = z at *
  unfold wrap64
  omega
theorem MkInv.bd {n b p q : Nat} {s : Snp} {mk : List Int} (hk : MkInv n s mk) (h : SnOk n b s) (hb : b ≤ 10000) (hp : p < n) (hq : q < n) (hne : p ≠ q) : -10000 ≤ nth mk (p * n + q) ∧ nth mk (p * n + q) ≤ 1 := by
  have h1 := hk.2 p q hp hq hne
  have h2 := marks_le (chOf s.chs (p * n + q))
  have h3 := h.hbk (ch_lt hp hq)
  split at h1 <;> omega
theorem intsk_at {l : List Int} {k : Nat} (h : k < l.length) : (ints l)[k]? = some (.int .i64 (nth l k)) := by rw [ints_get h, nth_eq h]
set_option maxRecDepth 100000 in
set_option maxHeartbeats 6400000 in
theorem markerEnds_any (V : Option Addr) (g : Nat) (vs : List Int) (C : Option Addr) (f : Nat) (bs : List Int) (C2 : Option Addr) (f2 : Nat) (b2 : List Int) (w0 : World) (hvs : RI (fun b => b < w0.heap.size) w0 V vs) (hg : vs.length ≤ g) (hg' : g ≤ 9223372036854775807) (hin : ∀ b ∈ vs, -9223372036854775808 ≤ b ∧ b ≤ 9223372036854775807) (hbs : RV (fun b => b < w0.heap.size) w0 C (bytes bs)) (hf : bs.length ≤ f) (hf' : f ≤ 9223372036854775807) (hby : ∀ b ∈ bs, 0 ≤ b ∧ b ≤ 255) (hb2 : RV (fun b => b < w0.heap.size) w0 C2 (bytes b2)) (hf2 : b2.length ≤ f2) (hf2' : f2 ≤ 9223372036854775807) (hy2 : ∀ b ∈ b2, 0 ≤ b ∧ b ≤ 255) :
    Calls Try.prog 8 #[.slice V vs.length g, .slice C bs.length f, .slice C2 b2.length f2] w0 fun e w' => e = .returned (.bool true) ∧ Ext w0 w' := by
  have hS := St.start w0 NoM
  have HV := Lib.hid (And.intro hvs (And.intro hin (And.intro hbs hby)))
  have HO := Lib.hid (And.intro hb2 hy2)
  clear hvs hin hbs hby hb2 hy2
  by_cases ho : b2.length ≤ 400
  case neg =>
    have ho' : (400 : Int) < (b2.length : Int) := by omega
    go_enter Try.func8, Try.ntmps8
    go_wp2_with (first | (go_at_call 10; refine (awake23_any _).mono ?_; rintro e w ⟨rfl, hx1⟩; replace hS := hS.ext hx1) | (refine oL ?_; (first | refine sL1 hS rfl rfl rfl ?_ | refine sL2 hS rfl rfl rfl ?_ | refine sL3 hS rfl rfl ?_ | refine sL4 hS rfl rfl ?_ | refine sL5 hS rfl rfl ?_ | refine sL6 hS rfl rfl ?_ | refine sL7 hS rfl rfl ?_)) | (refine oS ?_; ((first | refine sS1 hS rfl rfl rfl ?_ | refine sS2 hS rfl rfl rfl ?_ | refine sS3 hS rfl rfl rfl ?_ | refine sS4 hS rfl rfl rfl ?_ | refine sS5 hS rfl rfl rfl ?_); clear hS; intro w hS)) | (refine oP ?_; ((first | refine sP1 hS rfl rfl rfl ?_ | refine sP2 hS rfl rfl rfl ?_ | refine sP3 hS rfl rfl rfl ?_); clear hS; first | ((fail_if_success guard_hyp L1); intro L1 cl1 w hL1 hM1 hS) | ((fail_if_success guard_hyp L2); intro L2 cl2 w hL2 hM2 hS) | fail)) | ((first | refine sN1 hS rfl ?_ | (refine oC ?_; first | refine sC0 hS rfl ?_ | refine sC1 hS rfl rfl ?_ | refine sC2 hS rfl rfl ?_ | refine sC3 hS rfl rfl rfl ?_ | refine sC4 hS rfl rfl rfl ?_) | refine sM1 hS rfl rfl rfl ?_); clear hS; first | ((fail_if_success guard_hyp g1); intro g1 w hS) | ((fail_if_success guard_hyp g2); intro g2 w hS) | ((fail_if_success guard_hyp g3); intro g3 w hS) | ((fail_if_success guard_hyp g4); intro g4 w hS) | ((fail_if_success guard_hyp g5); intro g5 w hS) | ((fail_if_success guard_hyp g6); intro g6 w hS) | fail) | fail)
    go_ret
    exact ⟨rfl, hS.toExt⟩
  case pos =>
  have ho' : ¬ (400 : Int) < (b2.length : Int) := by omega
  go_enter Try.func8, Try.ntmps8
  go_wp2_with (first | (go_at_call 10; refine (awake23_any _).mono ?_; rintro e w ⟨rfl, hx1⟩; replace hS := hS.ext hx1) | (refine oL ?_; (first | refine sL1 hS rfl rfl rfl ?_ | refine sL2 hS rfl rfl rfl ?_ | refine sL3 hS rfl rfl ?_ | refine sL4 hS rfl rfl ?_ | refine sL5 hS rfl rfl ?_ | refine sL6 hS rfl rfl ?_ | refine sL7 hS rfl rfl ?_)) | (refine oS ?_; ((first | refine sS1 hS rfl rfl rfl ?_ | refine sS2 hS rfl rfl rfl ?_ | refine sS3 hS rfl rfl rfl ?_ | refine sS4 hS rfl rfl rfl ?_ | refine sS5 hS rfl rfl rfl ?_); clear hS; intro w hS)) | (refine oP ?_; ((first | refine sP1 hS rfl rfl rfl ?_ | refine sP2 hS rfl rfl rfl ?_ | refine sP3 hS rfl rfl rfl ?_); clear hS; first | ((fail_if_success guard_hyp L1); intro L1 cl1 w hL1 hM1 hS) | ((fail_if_success guard_hyp L2); intro L2 cl2 w hL2 hM2 hS) | fail)) | ((first | refine sN1 hS rfl ?_ | (refine oC ?_; first | refine sC0 hS rfl ?_ | refine sC1 hS rfl rfl ?_ | refine sC2 hS rfl rfl ?_ | refine sC3 hS rfl rfl rfl ?_ | refine sC4 hS rfl rfl rfl ?_) | refine sM1 hS rfl rfl rfl ?_); clear hS; first | ((fail_if_success guard_hyp g1); intro g1 w hS) | ((fail_if_success guard_hyp g2); intro g2 w hS) | ((fail_if_success guard_hyp g3); intro g3 w hS) | ((fail_if_success guard_hyp g4); intro g4 w hS) | ((fail_if_success guard_hyp g5); intro g5 w hS) | ((fail_if_success guard_hyp g6); intro g6 w hS) | fail) | fail)
  refine (start_o (HV.out.1.ext hS.toExt) hg hg' HV.out.2.1 (HV.out.2.2.1.ext hS.toExt) hf hf' HV.out.2.2.2).mono ?_
  rintro e u1 ⟨L1, k1, n, xs, L2, k2, m, l, rfl, hxl, hn2, hn4, hxi, hll, hm50, hr1, hr2, hx1⟩
  replace hS := hS.addRow2 hr1 hr2 (by decide) hx1
  have HX := Lib.hid (And.intro hxl hxi)
  have HL := Lib.hid hll
  clear hxl hxi hr1 hll hr2 hx1 HV
  obtain ⟨nn, hnn⟩ : ∃ nn : Nat, n * n = nn := ⟨_, rfl⟩
  have hnn' : ((n : Int)) * (n : Int) = (nn : Int) := by rw [← hnn]; simp
  have hnn25 : nn ≤ 25 := by rw [← hnn]; exact Nat.le_trans (Nat.mul_le_mul hn4 hn4) (by decide)
  have HNN := Lib.hid hnn
  clear hnn
  go_wp2_with (first | (refine oL ?_; (first | refine sL1 hS rfl rfl rfl ?_ | refine sL2 hS rfl rfl rfl ?_ | refine sL3 hS rfl rfl ?_ | refine sL4 hS rfl rfl ?_ | refine sL5 hS rfl rfl ?_ | refine sL6 hS rfl rfl ?_ | refine sL7 hS rfl rfl ?_)) | (refine oS ?_; ((first | refine sS1 hS rfl rfl rfl ?_ | refine sS2 hS rfl rfl rfl ?_ | refine sS3 hS rfl rfl rfl ?_ | refine sS4 hS rfl rfl rfl ?_ | refine sS5 hS rfl rfl rfl ?_); clear hS; intro w hS)) | (refine oP ?_; ((first | refine sP1 hS rfl rfl rfl ?_ | refine sP2 hS rfl rfl rfl ?_ | refine sP3 hS rfl rfl rfl ?_); clear hS; first | ((fail_if_success guard_hyp L1); intro L1 cl1 w hL1 hM1 hS) | ((fail_if_success guard_hyp L2); intro L2 cl2 w hL2 hM2 hS) | fail)) | ((first | refine sN1 hS rfl ?_ | (refine oC ?_; first | refine sC0 hS rfl ?_ | refine sC1 hS rfl rfl ?_ | refine sC2 hS rfl rfl ?_ | refine sC3 hS rfl rfl rfl ?_ | refine sC4 hS rfl rfl rfl ?_) | refine sM1 hS rfl rfl rfl ?_); clear hS; first | ((fail_if_success guard_hyp g1); intro g1 w hS) | ((fail_if_success guard_hyp g2); intro g2 w hS) | ((fail_if_success guard_hyp g3); intro g3 w hS) | ((fail_if_success guard_hyp g4); intro g4 w hS) | ((fail_if_success guard_hyp g5); intro g5 w hS) | ((fail_if_success guard_hyp g6); intro g6 w hS) | fail) | fail)
  refine (snew_n HX.out.1 (hS.ri (A := L1)) (by omega) (by omega)).mono ?_
  rintro e u ⟨⟨A1, c1, A2, c2, A3, c3, A4, c4, A5, c5, A6, c6, A7, c7⟩, rfl, hsn, hx1⟩
  replace hS := hS.frozNew hx1
  obtain ⟨N2, hN2⟩ : ∃ N : Nat → Prop, N = fun k => u1.heap.size ≤ k ∧ k < u.heap.size := ⟨_, rfl⟩
  rw [← hN2] at hS hsn
  have HSN := Lib.hid hsn
  clear hN2 hsn hx1
  simp only [HNN.out]
  go_upto_region 8 with (first | (refine oL ?_; (first | refine sL1 hS rfl rfl rfl ?_ | refine sL2 hS rfl rfl rfl ?_ | refine sL3 hS rfl rfl ?_ | refine sL4 hS rfl rfl ?_ | refine sL5 hS rfl rfl ?_ | refine sL6 hS rfl rfl ?_ | refine sL7 hS rfl rfl ?_)) | (refine oS ?_; ((first | refine sS1 hS rfl rfl rfl ?_ | refine sS2 hS rfl rfl rfl ?_ | refine sS3 hS rfl rfl rfl ?_ | refine sS4 hS rfl rfl rfl ?_ | refine sS5 hS rfl rfl rfl ?_); clear hS; intro w hS)) | (refine oP ?_; ((first | refine sP1 hS rfl rfl rfl ?_ | refine sP2 hS rfl rfl rfl ?_ | refine sP3 hS rfl rfl rfl ?_); clear hS; first | ((fail_if_success guard_hyp L1); intro L1 cl1 w hL1 hM1 hS) | ((fail_if_success guard_hyp L2); intro L2 cl2 w hL2 hM2 hS) | fail)) | ((first | refine sN1 hS rfl ?_ | (refine oC ?_; first | refine sC0 hS rfl ?_ | refine sC1 hS rfl rfl ?_ | refine sC2 hS rfl rfl ?_ | refine sC3 hS rfl rfl rfl ?_ | refine sC4 hS rfl rfl rfl ?_) | refine sM1 hS rfl rfl rfl ?_); clear hS; first | ((fail_if_success guard_hyp g1); intro g1 w hS) | ((fail_if_success guard_hyp g2); intro g2 w hS) | ((fail_if_success guard_hyp g3); intro g3 w hS) | ((fail_if_success guard_hyp g4); intro g4 w hS) | ((fail_if_success guard_hyp g5); intro g5 w hS) | ((fail_if_success guard_hyp g6); intro g6 w hS) | fail) | fail)
  refine lR ?_
  refine lM rfl rfl ?_
  (try simp only [Act.put, nA, nB, nC])
  refine lM rfl rfl ?_
  (try simp only [Act.put, nA, nB, nC])
  refine lP rfl ?_
  (try simp only [Act.put, nA, nB, nC])
  refine lP rfl ?_
  (try simp only [Act.put, nA, nB, nC])
  (refine ⟨?_⟩; (((first | refine sC0 hS rfl ?_ | refine sC1 hS rfl rfl ?_ | refine sC2 hS rfl rfl ?_ | refine sC3 hS rfl rfl rfl ?_ | refine sC4 hS rfl rfl rfl ?_); clear hS; first | ((fail_if_success guard_hyp g1); intro g1 w hS) | ((fail_if_success guard_hyp g2); intro g2 w hS) | ((fail_if_success guard_hyp g3); intro g3 w hS) | ((fail_if_success guard_hyp g4); intro g4 w hS) | ((fail_if_success guard_hyp g5); intro g5 w hS) | ((fail_if_success guard_hyp g6); intro g6 w hS) | fail)); refine WL.h ?_)
  (try simp only [Act.put, nA, nB, nC])
  (refine ⟨?_⟩; (refine st_appM hS rfl rfl rfl (by omega) ?_; clear hS; intro L3 k3 w hL3 hM3 hS); refine WL.h ?_)
  (try simp only [Act.put, nA, nB, nC])
  refine lA rfl rfl ?_
  (try simp only [Act.put, nA, nB, nC])
  refine lZ ?_
  have hS0 : St w0 NoM [row (.slice L3 (m + 1) k3) 40 4 (m + 1) ((l ++ [(⟨3, (n : Int) - 1, 0, 0⟩ : Mv)]).flatMap mvCells), froz (fun _ => False) w, froz N2 u, blk g1 [.slice A1 n c1, .slice A2 n c2, .slice A3 nn c3, .slice A4 n c4, .slice A5 n c5, .slice A6 nn c6, .slice A7 nn c7] 28] w := hS.frozNil.re
  obtain ⟨T9, hS9, hi9, hrv9⟩ := hS0.freezeV
  obtain ⟨u9, hu9⟩ : ∃ x, x = w := ⟨_, rfl⟩
  rw [← hu9] at hrv9
  have hS3 : St w0 NoM [blk g1 [.slice A1 n c1, .slice A2 n c2, .slice A3 nn c3, .slice A4 n c4, .slice A5 n c5, .slice A6 nn c6, .slice A7 nn c7] 28, froz N2 u, froz T9 u9] w := by rw [hu9]; exact hS9.re
  replace hS := hS3
  clear hS3 hS9 hi9 hS0 hu9
  have en : ((n - 1 : Nat) : Int) = (n : Int) - 1 := by omega
  have HEND := Lib.hid (ends_pure (os := b2) HX.out.1 hn2 hn4 HX.out.2 HL.out hm50 ho)
  rw [en] at HEND
  have HS0 := Lib.hid (And.intro (newS_ok (vs := xs) (by rw [HX.out.1]; omega) (by rw [HX.out.1]; omega) HX.out.2) (And.intro (newS_inv (vs := xs)) (newS_mk xs)))
  rw [HX.out.1] at HS0
  generalize hLL : l ++ [(⟨3, (n : Int) - 1, 0, 0⟩ : Mv)] = LL at *
  have HLL := Lib.hid (show LL.length = m + 1 by rw [← hLL, List.length_append, HL.out]; rfl)
  have HIN := Lib.hid (fun (i : Nat) (h : i < m + 1) => fE_in (n := n) (os := b2) (l := LL) (i := i) (by rw [HLL.out]; exact h))
  have HOUT := Lib.hid (fun (i : Nat) (h : ¬ i < m + 1) => fE_out (n := n) (os := b2) (l := LL) (i := i) (by rw [HLL.out]; exact h))
  rw [HLL.out] at HOUT
  have HR9 := Lib.hid hrv9
  clear hLL en HX HL hrv9
  generalize fE n LL b2 = f9 at *
  generalize newS xs = s0 at *
  go_wp2_with (first | (refine oL ?_; (first | refine sL1 hS rfl rfl rfl ?_ | refine sL2 hS rfl rfl rfl ?_ | refine sL3 hS rfl rfl ?_ | refine sL4 hS rfl rfl ?_ | refine sL5 hS rfl rfl ?_ | refine sL6 hS rfl rfl ?_ | refine sL7 hS rfl rfl ?_)) | (refine oS ?_; ((first | refine sS1 hS rfl rfl rfl ?_ | refine sS2 hS rfl rfl rfl ?_ | refine sS3 hS rfl rfl rfl ?_ | refine sS4 hS rfl rfl rfl ?_ | refine sS5 hS rfl rfl rfl ?_); clear hS; intro w hS)) | (refine oP ?_; ((first | refine sP1 hS rfl rfl rfl ?_ | refine sP2 hS rfl rfl rfl ?_ | refine sP3 hS rfl rfl rfl ?_); clear hS; first | ((fail_if_success guard_hyp L1); intro L1 cl1 w hL1 hM1 hS) | ((fail_if_success guard_hyp L2); intro L2 cl2 w hL2 hM2 hS) | fail)) | ((first | refine sN1 hS rfl ?_ | (refine oC ?_; first | refine sC0 hS rfl ?_ | refine sC1 hS rfl rfl ?_ | refine sC2 hS rfl rfl ?_ | refine sC3 hS rfl rfl rfl ?_ | refine sC4 hS rfl rfl rfl ?_) | refine sM1 hS rfl rfl rfl ?_); clear hS; first | ((fail_if_success guard_hyp g1); intro g1 w hS) | ((fail_if_success guard_hyp g2); intro g2 w hS) | ((fail_if_success guard_hyp g3); intro g3 w hS) | ((fail_if_success guard_hyp g4); intro g4 w hS) | ((fail_if_success guard_hyp g5); intro g5 w hS) | ((fail_if_success guard_hyp g6); intro g6 w hS) | fail) | fail)
  go_loopw [13] (fun s13 wr => ∃ (i : Nat) (A1 : Option Addr) (c1 : Nat) (A2 : Option Addr) (c2 : Nat) (A3 : Option Addr) (c3 : Nat) (A4 : Option Addr) (c4 : Nat) (A5 : Option Addr) (c5 : Nat) (A6 : Option Addr) (c6 : Nat) (A7 : Option Addr) (c7 : Nat) (s : Snp) (T : Nat → Prop) (u : World) (mk : List Int), i ≤ m + 1 + 1600 ∧ s13 = .int .i64 i ∧ Hid (runS f9 s0 i = s) ∧ Hid (MkInv n s mk) ∧ nn ≤ mk.length ∧ Hid (SnAt T u ⟨A1, c1, A2, c2, A3, c3, A4, c4, A5, c5, A6, c6, A7, c7⟩ s) ∧ St w0 NoM [row (.slice (some ⟨g3, 0, none⟩) nn nn) 3 1 nn (ints mk), blk g1 [.slice A1 n c1, .slice A2 n c2, .slice A3 nn c3, .slice A4 n c4, .slice A5 n c5, .slice A6 nn c6, .slice A7 nn c7] 28, froz T u, froz T9 u9] wr) (fun s13 _ => m + 1 + 1600 - (intOf s13).toNat)
  case atStart => exact ⟨0, A1, c1, A2, c2, A3, c3, A4, c4, A5, c5, A6, c6, A7, c7, s0, N2, u, List.replicate nn 0, by omega, rfl, Lib.hid rfl, Lib.hid (by rw [← HNN.out]; exact HS0.out.2.2), by simp, HSN, hS.re⟩
  case round =>
    clear hS HSN
    obtain ⟨i, A1, c1, A2, c2, A3, c3, A4, c4, A5, c5, A6, c6, A7, c7, s, T, u, mk, hi, rfl, HRUN, HMK, hmkl, HSN, hS⟩ := hrel
    have HC := Lib.hid (show SnOk n i s by have h := runS_ok (f := f9) HS0.out.1 i; rw [HRUN.out, Nat.zero_add] at h; exact h)
    have HI := Lib.hid (show SnInv n s by have h := runS_inv (f := f9) HS0.out.1 HS0.out.2.1 i; rw [HRUN.out] at h; exact h)
    by_cases hlt : i < m + 1 + 1600
    · have hlt' : (i : Int) < (m : Int) + 1 + 1600 := by omega
      go_upto_if 66 with (first | (refine oL ?_; (first | refine sL1 hS rfl rfl rfl ?_ | refine sL2 hS rfl rfl rfl ?_ | refine sL3 hS rfl rfl ?_ | refine sL4 hS rfl rfl ?_ | refine sL5 hS rfl rfl ?_ | refine sL6 hS rfl rfl ?_ | refine sL7 hS rfl rfl ?_)) | (refine oS ?_; ((first | refine sS1 hS rfl rfl rfl ?_ | refine sS2 hS rfl rfl rfl ?_ | refine sS3 hS rfl rfl rfl ?_ | refine sS4 hS rfl rfl rfl ?_ | refine sS5 hS rfl rfl rfl ?_); clear hS; intro w hS)) | (refine oP ?_; ((first | refine sP1 hS rfl rfl rfl ?_ | refine sP2 hS rfl rfl rfl ?_ | refine sP3 hS rfl rfl rfl ?_); clear hS; first | ((fail_if_success guard_hyp L1); intro L1 cl1 w hL1 hM1 hS) | ((fail_if_success guard_hyp L2); intro L2 cl2 w hL2 hM2 hS) | fail)) | ((first | refine sN1 hS rfl ?_ | (refine oC ?_; first | refine sC0 hS rfl ?_ | refine sC1 hS rfl rfl ?_ | refine sC2 hS rfl rfl ?_ | refine sC3 hS rfl rfl rfl ?_ | refine sC4 hS rfl rfl rfl ?_) | refine sM1 hS rfl rfl rfl ?_); clear hS; first | ((fail_if_success guard_hyp g1); intro g1 w hS) | ((fail_if_success guard_hyp g2); intro g2 w hS) | ((fail_if_success guard_hyp g3); intro g3 w hS) | ((fail_if_success guard_hyp g4); intro g4 w hS) | ((fail_if_success guard_hyp g5); intro g5 w hS) | ((fail_if_success guard_hyp g6); intro g6 w hS) | fail) | fail)
      try simp only [Act.put, nA, nB, nC]
      go_cut [14] (fun s14 wx => ∃ (g4 : Nat) (kd fr tt val : Int), s14 = .pointer (some ⟨g4, 0, none⟩) ∧ Hid (f9 i = ⟨kd, fr, tt, val⟩) ∧ St w0 NoM [blk g4 [.int .i64 kd, .int .i64 fr, .int .i64 tt, .int .i64 val] 40, row (.slice (some ⟨g3, 0, none⟩) nn nn) 3 1 nn (ints mk), blk g1 [.slice A1 n c1, .slice A2 n c2, .slice A3 nn c3, .slice A4 n c4, .slice A5 n c5, .slice A6 nn c6, .slice A7 nn c7] 28, froz T u, froz T9 u9] wx)
      case first =>
        by_cases hin : i < m + 1
        · have hin' : (i : Int) < (m : Int) + 1 := by omega
          obtain ⟨b1, o1, e1, hmv⟩ := mv_fcs HR9.out (i := i) (by rw [HLL.out]; exact hin)
          subst e1
          have HFI := Lib.hid (HIN.out i hin)
          generalize LL[i]'(by rw [HLL.out]; exact hin) = mv at *
          obtain ⟨kd, fr, tt, val⟩ := mv
          simp only at hmv
          go_wp2_with (first | (refine oL ?_; (first | refine sL1 hS rfl rfl rfl ?_ | refine sL2 hS rfl rfl rfl ?_ | refine sL3 hS rfl rfl ?_ | refine sL4 hS rfl rfl ?_ | refine sL5 hS rfl rfl ?_ | refine sL6 hS rfl rfl ?_ | refine sL7 hS rfl rfl ?_)) | (refine oS ?_; ((first | refine sS1 hS rfl rfl rfl ?_ | refine sS2 hS rfl rfl rfl ?_ | refine sS3 hS rfl rfl rfl ?_ | refine sS4 hS rfl rfl rfl ?_ | refine sS5 hS rfl rfl rfl ?_); clear hS; intro w hS)) | (refine oP ?_; ((first | refine sP1 hS rfl rfl rfl ?_ | refine sP2 hS rfl rfl rfl ?_ | refine sP3 hS rfl rfl rfl ?_); clear hS; first | ((fail_if_success guard_hyp L1); intro L1 cl1 w hL1 hM1 hS) | ((fail_if_success guard_hyp L2); intro L2 cl2 w hL2 hM2 hS) | fail)) | ((first | refine sN1 hS rfl ?_ | (refine oC ?_; first | refine sC0 hS rfl ?_ | refine sC1 hS rfl rfl ?_ | refine sC2 hS rfl rfl ?_ | refine sC3 hS rfl rfl rfl ?_ | refine sC4 hS rfl rfl rfl ?_) | refine sM1 hS rfl rfl rfl ?_); clear hS; first | ((fail_if_success guard_hyp g1); intro g1 w hS) | ((fail_if_success guard_hyp g2); intro g2 w hS) | ((fail_if_success guard_hyp g3); intro g3 w hS) | ((fail_if_success guard_hyp g4); intro g4 w hS) | ((fail_if_success guard_hyp g5); intro g5 w hS) | ((fail_if_success guard_hyp g6); intro g6 w hS) | fail) | fail)
          go_meet
          exact ⟨g4, kd, fr, tt, val, rfl, HFI, hS.re⟩
        · have hin' : ¬ (i : Int) < (m : Int) + 1 := by omega
          have hn0 : ¬ n = 0 := by omega
          by_cases hos : i - (m + 1) < b2.length
          · obtain ⟨j, hj⟩ : ∃ j, j = i - (m + 1) := ⟨_, rfl⟩
            have hij : (i : Int) - ((m : Int) + 1) = (j : Int) := by omega
            have hjo : (j : Int) < (b2.length : Int) := by omega
            have HD := Lib.hid (HOUT.out i hin)
            have hjl : j < b2.length := by omega
            obtain ⟨b1, o1, e1, hb1, hc1⟩ := HO.out.1 j (.int .u8 (nth b2 j)) (by simp [bytes, nth, hjl])
            have HB := Lib.hid (HO.out.2 (nth b2 j) (by rw [nth_eq hjl]; exact List.getElem_mem hjl))
            have HDK := Lib.hid (show dlvK (m + 1) b2 i = (nth b2 j).toNat by rw [dlvK, ← hj, if_pos hjl])
            subst e1
            generalize nth b2 j = z at *
            obtain ⟨y, rfl⟩ : ∃ y : Nat, z = y := ⟨z.toNat, by have := HB.out; omega⟩
            have hy1 : y ≤ 255 := by have := HB.out; omega
            simp only [Int.toNat_natCast] at HDK
            rw [HDK.out] at HD
            clear HDK hj
            have hq1 : wrap64 ((y : Int) / (n : Int)) = (y : Int) / (n : Int) := wrap_quo (by omega)
            go_wp2_with (first | (refine oL ?_; (first | refine sL1 hS rfl rfl rfl ?_ | refine sL2 hS rfl rfl rfl ?_ | refine sL3 hS rfl rfl ?_ | refine sL4 hS rfl rfl ?_ | refine sL5 hS rfl rfl ?_ | refine sL6 hS rfl rfl ?_ | refine sL7 hS rfl rfl ?_)) | (refine oS ?_; ((first | refine sS1 hS rfl rfl rfl ?_ | refine sS2 hS rfl rfl rfl ?_ | refine sS3 hS rfl rfl rfl ?_ | refine sS4 hS rfl rfl rfl ?_ | refine sS5 hS rfl rfl rfl ?_); clear hS; intro w hS)) | (refine oP ?_; ((first | refine sP1 hS rfl rfl rfl ?_ | refine sP2 hS rfl rfl rfl ?_ | refine sP3 hS rfl rfl rfl ?_); clear hS; first | ((fail_if_success guard_hyp L1); intro L1 cl1 w hL1 hM1 hS) | ((fail_if_success guard_hyp L2); intro L2 cl2 w hL2 hM2 hS) | fail)) | ((first | refine sN1 hS rfl ?_ | (refine oC ?_; first | refine sC0 hS rfl ?_ | refine sC1 hS rfl rfl ?_ | refine sC2 hS rfl rfl ?_ | refine sC3 hS rfl rfl rfl ?_ | refine sC4 hS rfl rfl rfl ?_) | refine sM1 hS rfl rfl rfl ?_); clear hS; first | ((fail_if_success guard_hyp g1); intro g1 w hS) | ((fail_if_success guard_hyp g2); intro g2 w hS) | ((fail_if_success guard_hyp g3); intro g3 w hS) | ((fail_if_success guard_hyp g4); intro g4 w hS) | ((fail_if_success guard_hyp g5); intro g5 w hS) | ((fail_if_success guard_hyp g6); intro g6 w hS) | fail) | fail)
            refine dr_start1 [11] 0 hS (by kernel_rfl) rfl ?_; clear hS; intro w hS
            refine dM hS 0 rfl rfl rfl ?_
            (try simp only [Act.put, nA, nB, nC])
            refine dM hS 1 rfl rfl rfl ?_
            (try simp only [Act.put, nA, nB, nC])
            refine dP hS 2 rfl rfl ?_
            (try simp only [Act.put, nA, nB, nC])
            refine dM hS 3 rfl rfl rfl ?_
            (try simp only [Act.put, nA, nB, nC])
            refine dP hS 4 rfl rfl ?_
            (try simp only [Act.put, nA, nB, nC])
            refine dM hS 5 rfl rfl rfl ?_
            (try simp only [Act.put, nA, nB, nC])
            refine dM hS 6 rfl rfl rfl ?_
            (try simp only [Act.put, nA, nB, nC])
            refine dP hS 7 rfl rfl ?_
            (try simp only [Act.put, nA, nB, nC])
            refine dP hS 8 rfl rfl ?_
            (try simp only [Act.put, nA, nB, nC])
            refine dr_one 9 (by kernel_rfl) rfl ?_
            ((first | refine sS1 hS rfl rfl rfl ?_ | refine sS2 hS rfl rfl rfl ?_ | refine sS3 hS rfl rfl rfl ?_ | refine sS4 hS rfl rfl rfl ?_ | refine sS5 hS rfl rfl rfl ?_); clear hS; intro w hS)
            (try simp only [Act.put, nA, nB, nC])
            refine dr_end hS ?_
            refine dP hS 10 rfl rfl ?_
            (try simp only [Act.put, nA, nB, nC])
            refine dr_one 11 (by kernel_rfl) rfl ?_
            ((first | refine sS1 hS rfl rfl rfl ?_ | refine sS2 hS rfl rfl rfl ?_ | refine sS3 hS rfl rfl rfl ?_ | refine sS4 hS rfl rfl rfl ?_ | refine sS5 hS rfl rfl rfl ?_); clear hS; intro w hS)
            (try simp only [Act.put, nA, nB, nC])
            refine dr_late (by kernel_rfl) ?_
            refine dr_done (by kernel_rfl) ?_
            all_goals
              go_wp2_with fail
              go_meet
              exact ⟨g4, 2, (y : Int) / (n : Int) % (n : Int), (y : Int) % (n : Int), 0, rfl, Lib.hid (by rw [HD.out]; simp), hS⟩
          · have hos' : ¬ (i : Int) - ((m : Int) + 1) < (b2.length : Int) := by omega
            have HD := Lib.hid (HOUT.out i hin)
            have HDK := Lib.hid (show dlvK (m + 1) b2 i = i by rw [dlvK, if_neg hos])
            rw [HDK.out] at HD
            clear HDK
            have hq1 : wrap64 ((i : Int) / (n : Int)) = (i : Int) / (n : Int) := wrap_quo (by omega)
            go_wp2_with (first | (refine oL ?_; (first | refine sL1 hS rfl rfl rfl ?_ | refine sL2 hS rfl rfl rfl ?_ | refine sL3 hS rfl rfl ?_ | refine sL4 hS rfl rfl ?_ | refine sL5 hS rfl rfl ?_ | refine sL6 hS rfl rfl ?_ | refine sL7 hS rfl rfl ?_)) | (refine oS ?_; ((first | refine sS1 hS rfl rfl rfl ?_ | refine sS2 hS rfl rfl rfl ?_ | refine sS3 hS rfl rfl rfl ?_ | refine sS4 hS rfl rfl rfl ?_ | refine sS5 hS rfl rfl rfl ?_); clear hS; intro w hS)) | (refine oP ?_; ((first | refine sP1 hS rfl rfl rfl ?_ | refine sP2 hS rfl rfl rfl ?_ | refine sP3 hS rfl rfl rfl ?_); clear hS; first | ((fail_if_success guard_hyp L1); intro L1 cl1 w hL1 hM1 hS) | ((fail_if_success guard_hyp L2); intro L2 cl2 w hL2 hM2 hS) | fail)) | ((first | refine sN1 hS rfl ?_ | (refine oC ?_; first | refine sC0 hS rfl ?_ | refine sC1 hS rfl rfl ?_ | refine sC2 hS rfl rfl ?_ | refine sC3 hS rfl rfl rfl ?_ | refine sC4 hS rfl rfl rfl ?_) | refine sM1 hS rfl rfl rfl ?_); clear hS; first | ((fail_if_success guard_hyp g1); intro g1 w hS) | ((fail_if_success guard_hyp g2); intro g2 w hS) | ((fail_if_success guard_hyp g3); intro g3 w hS) | ((fail_if_success guard_hyp g4); intro g4 w hS) | ((fail_if_success guard_hyp g5); intro g5 w hS) | ((fail_if_success guard_hyp g6); intro g6 w hS) | fail) | fail)
            refine dr_start1 [11] 0 hS (by kernel_rfl) rfl ?_; clear hS; intro w hS
            refine dM hS 0 rfl rfl rfl ?_
            (try simp only [Act.put, nA, nB, nC])
            refine dM hS 1 rfl rfl rfl ?_
            (try simp only [Act.put, nA, nB, nC])
            refine dP hS 2 rfl rfl ?_
            (try simp only [Act.put, nA, nB, nC])
            refine dM hS 3 rfl rfl rfl ?_
            (try simp only [Act.put, nA, nB, nC])
            refine dP hS 4 rfl rfl ?_
            (try simp only [Act.put, nA, nB, nC])
            refine dM hS 5 rfl rfl rfl ?_
            (try simp only [Act.put, nA, nB, nC])
            refine dM hS 6 rfl rfl rfl ?_
            (try simp only [Act.put, nA, nB, nC])
            refine dP hS 7 rfl rfl ?_
            (try simp only [Act.put, nA, nB, nC])
            refine dP hS 8 rfl rfl ?_
            (try simp only [Act.put, nA, nB, nC])
            refine dr_one 9 (by kernel_rfl) rfl ?_
            ((first | refine sS1 hS rfl rfl rfl ?_ | refine sS2 hS rfl rfl rfl ?_ | refine sS3 hS rfl rfl rfl ?_ | refine sS4 hS rfl rfl rfl ?_ | refine sS5 hS rfl rfl rfl ?_); clear hS; intro w hS)
            (try simp only [Act.put, nA, nB, nC])
            refine dr_end hS ?_
            refine dP hS 10 rfl rfl ?_
            (try simp only [Act.put, nA, nB, nC])
            refine dr_one 11 (by kernel_rfl) rfl ?_
            ((first | refine sS1 hS rfl rfl rfl ?_ | refine sS2 hS rfl rfl rfl ?_ | refine sS3 hS rfl rfl rfl ?_ | refine sS4 hS rfl rfl rfl ?_ | refine sS5 hS rfl rfl rfl ?_); clear hS; intro w hS)
            (try simp only [Act.put, nA, nB, nC])
            refine dr_late (by kernel_rfl) ?_
            refine dr_done (by kernel_rfl) ?_
            all_goals
              go_wp2_with fail
              go_meet
              exact ⟨g4, 2, (i : Int) / (n : Int) % (n : Int), (i : Int) % (n : Int), 0, rfl, Lib.hid (by rw [HD.out]; simp), hS⟩
      case rest =>
        clear hS
        obtain ⟨g4, kd, fr, tt, val, rfl, HFI, hS⟩ := hcut
        have hn5 : n ≤ 5 := by omega
        by_cases hr : refS s ⟨kd, fr, tt, val⟩ = 0
        · have HR := Lib.hid hr
          clear hr
          have HN2 := Lib.hid (runS_next HRUN.out HFI.out HR.out)
          have HMG := Lib.hid (HMK.out.go HC.out HI.out HR.out)
          obtain ⟨p, rfl, hp, hkd⟩ := mv_kinds HSN.out HC.out (by omega) HNN.out HR.out
          obtain ⟨hm1, hm2⟩ := mul_bd hp hn5
          rcases hkd with rfl | ⟨q, rfl, hq, hne, hkn, hkd⟩
          · have HM2 : Hid (MkInv n (goS s ⟨3, p, tt, val⟩) mk) := by
              have h := HMG.out
              rw [show mkGo n s ⟨3, p, tt, val⟩ mk = mk by unfold mkGo; rw [if_neg (by simp)]] at h
              exact Lib.hid h
            clear HMG
            generalize p * n = pn at *
            go_wp2_with (first | (go_at_call 15; refine (step_n (HSN.out.into hS.intoK) HC.out HNN.out (by omega) HR.out).mono ?_; rintro e w1 ⟨D1, k1, D2, k2, D3, k3, D4, k4, D5, k5, D6, k6, D7, k7, rfl, hsn, hx1⟩; obtain ⟨T1, hS1, hi1, hi0⟩ := hS.grow2 hx1; replace hS := hS1; clear hS1; have HS1 := Lib.hid (hsn.into hi1); clear hsn) | (refine oL ?_; (first | refine sL1 hS rfl rfl rfl ?_ | refine sL2 hS rfl rfl rfl ?_ | refine sL3 hS rfl rfl ?_ | refine sL4 hS rfl rfl ?_ | refine sL5 hS rfl rfl ?_ | refine sL6 hS rfl rfl ?_ | refine sL7 hS rfl rfl ?_)) | (refine oS ?_; ((first | refine sS1 hS rfl rfl rfl ?_ | refine sS2 hS rfl rfl rfl ?_ | refine sS3 hS rfl rfl rfl ?_ | refine sS4 hS rfl rfl rfl ?_ | refine sS5 hS rfl rfl rfl ?_); clear hS; intro w hS)) | (refine oP ?_; ((first | refine sP1 hS rfl rfl rfl ?_ | refine sP2 hS rfl rfl rfl ?_ | refine sP3 hS rfl rfl rfl ?_); clear hS; first | ((fail_if_success guard_hyp L1); intro L1 cl1 w hL1 hM1 hS) | ((fail_if_success guard_hyp L2); intro L2 cl2 w hL2 hM2 hS) | fail)) | ((first | refine sN1 hS rfl ?_ | (refine oC ?_; first | refine sC0 hS rfl ?_ | refine sC1 hS rfl rfl ?_ | refine sC2 hS rfl rfl ?_ | refine sC3 hS rfl rfl rfl ?_ | refine sC4 hS rfl rfl rfl ?_) | refine sM1 hS rfl rfl rfl ?_); clear hS; first | ((fail_if_success guard_hyp g1); intro g1 w hS) | ((fail_if_success guard_hyp g2); intro g2 w hS) | ((fail_if_success guard_hyp g3); intro g3 w hS) | ((fail_if_success guard_hyp g4); intro g4 w hS) | ((fail_if_success guard_hyp g5); intro g5 w hS) | ((fail_if_success guard_hyp g6); intro g6 w hS) | fail) | fail)
            generalize goS s _ = s2 at *
            replace hS := hS.re (ds := [row (.slice (some ⟨g3, 0, none⟩) nn nn) 3 1 nn (ints mk), blk g1 [.slice D1 n k1, .slice D2 n k2, .slice D3 nn k3, .slice D4 n k4, .slice D5 n k5, .slice D6 nn k6, .slice D7 nn k7] 28, froz T1 w1, froz T u, froz T9 u9])
            obtain ⟨T2, hS2, hi2, hi3⟩ := hS.merge T1 w1 hi0
            have HS2 := Lib.hid (HS1.out.into hi3)
            replace hS := hS2
            go_roundw
            case measure => simp [intOf]; omega
            exact ⟨i + 1, D1, k1, D2, k2, D3, k3, D4, k4, D5, k5, D6, k6, D7, k7, s2, T2, _, mk, by omega, by go_num, HN2, HM2, hmkl, HS2, hS.re⟩
          · have hkn' : ((p * n : Nat) : Int) + (q : Int) < nn := by omega
            rcases hkd with rfl | ⟨rfl, hh⟩
            · have HM2 : Hid (MkInv n (goS s ⟨1, p, q, val⟩) mk) := by
                have h := HMG.out
                rw [show mkGo n s ⟨1, p, q, val⟩ mk = mk by unfold mkGo; rw [if_neg (by simp)]] at h
                exact Lib.hid h
              clear HMG
              generalize p * n = pn at *
              go_wp2_with (first | (go_at_call 15; refine (step_n (HSN.out.into hS.intoK) HC.out HNN.out (by omega) HR.out).mono ?_; rintro e w1 ⟨D1, k1, D2, k2, D3, k3, D4, k4, D5, k5, D6, k6, D7, k7, rfl, hsn, hx1⟩; obtain ⟨T1, hS1, hi1, hi0⟩ := hS.grow2 hx1; replace hS := hS1; clear hS1; have HS1 := Lib.hid (hsn.into hi1); clear hsn) | (refine oL ?_; (first | refine sL1 hS rfl rfl rfl ?_ | refine sL2 hS rfl rfl rfl ?_ | refine sL3 hS rfl rfl ?_ | refine sL4 hS rfl rfl ?_ | refine sL5 hS rfl rfl ?_ | refine sL6 hS rfl rfl ?_ | refine sL7 hS rfl rfl ?_)) | (refine oS ?_; ((first | refine sS1 hS rfl rfl rfl ?_ | refine sS2 hS rfl rfl rfl ?_ | refine sS3 hS rfl rfl rfl ?_ | refine sS4 hS rfl rfl rfl ?_ | refine sS5 hS rfl rfl rfl ?_); clear hS; intro w hS)) | (refine oP ?_; ((first | refine sP1 hS rfl rfl rfl ?_ | refine sP2 hS rfl rfl rfl ?_ | refine sP3 hS rfl rfl rfl ?_); clear hS; first | ((fail_if_success guard_hyp L1); intro L1 cl1 w hL1 hM1 hS) | ((fail_if_success guard_hyp L2); intro L2 cl2 w hL2 hM2 hS) | fail)) | ((first | refine sN1 hS rfl ?_ | (refine oC ?_; first | refine sC0 hS rfl ?_ | refine sC1 hS rfl rfl ?_ | refine sC2 hS rfl rfl ?_ | refine sC3 hS rfl rfl rfl ?_ | refine sC4 hS rfl rfl rfl ?_) | refine sM1 hS rfl rfl rfl ?_); clear hS; first | ((fail_if_success guard_hyp g1); intro g1 w hS) | ((fail_if_success guard_hyp g2); intro g2 w hS) | ((fail_if_success guard_hyp g3); intro g3 w hS) | ((fail_if_success guard_hyp g4); intro g4 w hS) | ((fail_if_success guard_hyp g5); intro g5 w hS) | ((fail_if_success guard_hyp g6); intro g6 w hS) | fail) | fail)
              generalize goS s _ = s2 at *
              replace hS := hS.re (ds := [row (.slice (some ⟨g3, 0, none⟩) nn nn) 3 1 nn (ints mk), blk g1 [.slice D1 n k1, .slice D2 n k2, .slice D3 nn k3, .slice D4 n k4, .slice D5 n k5, .slice D6 nn k6, .slice D7 nn k7] 28, froz T1 w1, froz T u, froz T9 u9])
              obtain ⟨T2, hS2, hi2, hi3⟩ := hS.merge T1 w1 hi0
              have HS2 := Lib.hid (HS1.out.into hi3)
              replace hS := hS2
              go_roundw
              case measure => simp [intOf]; omega
              exact ⟨i + 1, D1, k1, D2, k2, D3, k3, D4, k4, D5, k5, D6, k6, D7, k7, s2, T2, _, mk, by omega, by go_num, HN2, HM2, hmkl, HS2, hS.re⟩
            · obtain ⟨bh, oh, bc, oc, cB, ⟨xm, xv⟩, ll, hch, hll, rfl, hc1, hc2⟩ := hh
              simp only at hc2
              have HMB := Lib.hid (HMK.out.bd HC.out (by omega) hp hq hne)
              cases xm
              · have HM2 : Hid (MkInv n (goS s ⟨2, p, q, val⟩) mk) := by
                  have h := HMG.out
                  rw [show mkGo n s ⟨2, p, q, val⟩ mk = mk by unfold mkGo; simp [hch]] at h
                  exact Lib.hid h
                clear HMG hch
                generalize p * n = pn at *
                have dk : decide ((nn : Int) ≤ (pn : Int) + (q : Int)) = false := decide_eq_false (by omega)
                have dl : ((ll.length : Int) + 1 == 0) = false := by simp; omega
                go_upto_region 24 with (first | (go_at_call 15; refine (step_n (HSN.out.into hS.intoK) HC.out HNN.out (by omega) HR.out).mono ?_; rintro e w1 ⟨D1, k1, D2, k2, D3, k3, D4, k4, D5, k5, D6, k6, D7, k7, rfl, hsn, hx1⟩; obtain ⟨T1, hS1, hi1, hi0⟩ := hS.grow2 hx1; replace hS := hS1; clear hS1; have HS1 := Lib.hid (hsn.into hi1); clear hsn) | (refine oL ?_; (first | refine sL1 hS rfl rfl rfl ?_ | refine sL2 hS rfl rfl rfl ?_ | refine sL3 hS rfl rfl ?_ | refine sL4 hS rfl rfl ?_ | refine sL5 hS rfl rfl ?_ | refine sL6 hS rfl rfl ?_ | refine sL7 hS rfl rfl ?_)) | (refine oS ?_; ((first | refine sS1 hS rfl rfl rfl ?_ | refine sS2 hS rfl rfl rfl ?_ | refine sS3 hS rfl rfl rfl ?_ | refine sS4 hS rfl rfl rfl ?_ | refine sS5 hS rfl rfl rfl ?_); clear hS; intro w hS)) | (refine oP ?_; ((first | refine sP1 hS rfl rfl rfl ?_ | refine sP2 hS rfl rfl rfl ?_ | refine sP3 hS rfl rfl rfl ?_); clear hS; first | ((fail_if_success guard_hyp L1); intro L1 cl1 w hL1 hM1 hS) | ((fail_if_success guard_hyp L2); intro L2 cl2 w hL2 hM2 hS) | fail)) | ((first | refine sN1 hS rfl ?_ | (refine oC ?_; first | refine sC0 hS rfl ?_ | refine sC1 hS rfl rfl ?_ | refine sC2 hS rfl rfl ?_ | refine sC3 hS rfl rfl rfl ?_ | refine sC4 hS rfl rfl rfl ?_) | refine sM1 hS rfl rfl rfl ?_); clear hS; first | ((fail_if_success guard_hyp g1); intro g1 w hS) | ((fail_if_success guard_hyp g2); intro g2 w hS) | ((fail_if_success guard_hyp g3); intro g3 w hS) | ((fail_if_success guard_hyp g4); intro g4 w hS) | ((fail_if_success guard_hyp g5); intro g5 w hS) | ((fail_if_success guard_hyp g6); intro g6 w hS) | fail) | fail)
                refine lR ?_
                refine lM rfl rfl ?_
                (try simp only [Act.put, nA, nB, nC])
                refine lP rfl ?_
                (try simp only [Act.put, nA, nB, nC])
                (refine ⟨?_⟩; ((first | refine sL1 hS rfl rfl rfl ?_ | refine sL2 hS rfl rfl rfl ?_ | refine sL3 hS rfl rfl ?_ | refine sL4 hS rfl rfl ?_ | refine sL5 hS rfl rfl ?_ | refine sL6 hS rfl rfl ?_ | refine sL7 hS rfl rfl ?_)); refine WL.h ?_)
                (try simp only [Act.put, nA, nB, nC])
                refine lP rfl ?_
                (try simp only [Act.put, nA, nB, nC])
                refine lP rfl ?_
                (try simp only [Act.put, nA, nB, nC])
                refine lM rfl rfl ?_
                (try simp only [Act.put, nA, nB, nC])
                first | refine lQ rfl ?_ | refine lP rfl ?_ | fail
                (try simp only [Act.put, nA, nB, nC])
                first | refine lQ rfl ?_ | (refine ⟨?_⟩; ((first | refine sL1 hS rfl rfl rfl ?_ | refine sL2 hS rfl rfl rfl ?_ | refine sL3 hS rfl rfl ?_ | refine sL4 hS rfl rfl ?_ | refine sL5 hS rfl rfl ?_ | refine sL6 hS rfl rfl ?_ | refine sL7 hS rfl rfl ?_)); refine WL.h ?_) | fail
                (try simp only [Act.put, nA, nB, nC])
                first | refine lQ rfl ?_ | refine lM rfl rfl ?_ | fail
                (try simp only [Act.put, nA, nB, nC])
                first | refine lQ rfl ?_ | refine lP rfl ?_ | fail
                (try simp only [Act.put, nA, nB, nC])
                first | refine lQ rfl ?_ | (refine ⟨?_⟩; ((first | refine sL1 hS rfl rfl rfl ?_ | refine sL2 hS rfl rfl rfl ?_ | refine sL3 hS rfl rfl ?_ | refine sL4 hS rfl rfl ?_ | refine sL5 hS rfl rfl ?_ | refine sL6 hS rfl rfl ?_ | refine sL7 hS rfl rfl ?_)); refine WL.h ?_) | fail
                (try simp only [Act.put, nA, nB, nC])
                first | refine lQ rfl ?_ | refine lP rfl ?_ | fail
                (try simp only [Act.put, nA, nB, nC])
                first | refine lQ rfl ?_ | refine lP rfl ?_ | fail
                (try simp only [Act.put, nA, nB, nC])
                refine lP rfl ?_
                (try simp only [Act.put, nA, nB, nC])
                refine lZ ?_
                go_wp2_with (first | (refine oL ?_; (first | refine sL1 hS rfl rfl rfl ?_ | refine sL2 hS rfl rfl rfl ?_ | refine sL3 hS rfl rfl ?_ | refine sL4 hS rfl rfl ?_ | refine sL5 hS rfl rfl ?_ | refine sL6 hS rfl rfl ?_ | refine sL7 hS rfl rfl ?_)) | (refine oS ?_; ((first | refine sS1 hS rfl rfl rfl ?_ | refine sS2 hS rfl rfl rfl ?_ | refine sS3 hS rfl rfl rfl ?_ | refine sS4 hS rfl rfl rfl ?_ | refine sS5 hS rfl rfl rfl ?_); clear hS; intro w hS)) | (refine oP ?_; ((first | refine sP1 hS rfl rfl rfl ?_ | refine sP2 hS rfl rfl rfl ?_ | refine sP3 hS rfl rfl rfl ?_); clear hS; first | ((fail_if_success guard_hyp L1); intro L1 cl1 w hL1 hM1 hS) | ((fail_if_success guard_hyp L2); intro L2 cl2 w hL2 hM2 hS) | fail)) | ((first | refine sN1 hS rfl ?_ | (refine oC ?_; first | refine sC0 hS rfl ?_ | refine sC1 hS rfl rfl ?_ | refine sC2 hS rfl rfl ?_ | refine sC3 hS rfl rfl rfl ?_ | refine sC4 hS rfl rfl rfl ?_) | refine sM1 hS rfl rfl rfl ?_); clear hS; first | ((fail_if_success guard_hyp g1); intro g1 w hS) | ((fail_if_success guard_hyp g2); intro g2 w hS) | ((fail_if_success guard_hyp g3); intro g3 w hS) | ((fail_if_success guard_hyp g4); intro g4 w hS) | ((fail_if_success guard_hyp g5); intro g5 w hS) | ((fail_if_success guard_hyp g6); intro g6 w hS) | fail) | fail)
                generalize goS s _ = s2 at *
                replace hS := hS.re (ds := [row (.slice (some ⟨g3, 0, none⟩) nn nn) 3 1 nn (ints mk), blk g1 [.slice D1 n k1, .slice D2 n k2, .slice D3 nn k3, .slice D4 n k4, .slice D5 n k5, .slice D6 nn k6, .slice D7 nn k7] 28, froz T1 w1, froz T u, froz T9 u9])
                obtain ⟨T2, hS2, hi2, hi3⟩ := hS.merge T1 w1 hi0
                have HS2 := Lib.hid (HS1.out.into hi3)
                replace hS := hS2
                go_roundw
                case measure => simp [intOf]; omega
                exact ⟨i + 1, D1, k1, D2, k2, D3, k3, D4, k4, D5, k5, D6, k6, D7, k7, s2, T2, _, mk, by omega, by go_num, HN2, HM2, hmkl, HS2, hS.re⟩
              · have HM2 : Hid (MkInv n (goS s ⟨2, p, q, val⟩) (mk.set (p * n + q) (nth mk (p * n + q) + 1))) := by
                  have h := HMG.out
                  rw [show mkGo n s ⟨2, p, q, val⟩ mk = mk.set (p * n + q) (nth mk (p * n + q) + 1) by unfold mkGo; simp [hch]] at h
                  exact Lib.hid h
                clear HMG hch
                generalize p * n = pn at *
                have dk : decide ((nn : Int) ≤ (pn : Int) + (q : Int)) = false := decide_eq_false (by omega)
                have dl : ((ll.length : Int) + 1 == 0) = false := by simp; omega
                have hcm := intsk_at (l := mk) (k := pn + q) (by omega)
                have hmb1 := HMB.out.1
                have hmb2 := HMB.out.2
                generalize nth mk (pn + q) = x0 at *
                go_upto_region 24 with (first | (go_at_call 15; refine (step_n (HSN.out.into hS.intoK) HC.out HNN.out (by omega) HR.out).mono ?_; rintro e w1 ⟨D1, k1, D2, k2, D3, k3, D4, k4, D5, k5, D6, k6, D7, k7, rfl, hsn, hx1⟩; obtain ⟨T1, hS1, hi1, hi0⟩ := hS.grow2 hx1; replace hS := hS1; clear hS1; have HS1 := Lib.hid (hsn.into hi1); clear hsn) | (refine oL ?_; (first | refine sL1 hS rfl rfl rfl ?_ | refine sL2 hS rfl rfl rfl ?_ | refine sL3 hS rfl rfl ?_ | refine sL4 hS rfl rfl ?_ | refine sL5 hS rfl rfl ?_ | refine sL6 hS rfl rfl ?_ | refine sL7 hS rfl rfl ?_)) | (refine oS ?_; ((first | refine sS1 hS rfl rfl rfl ?_ | refine sS2 hS rfl rfl rfl ?_ | refine sS3 hS rfl rfl rfl ?_ | refine sS4 hS rfl rfl rfl ?_ | refine sS5 hS rfl rfl rfl ?_); clear hS; intro w hS)) | (refine oP ?_; ((first | refine sP1 hS rfl rfl rfl ?_ | refine sP2 hS rfl rfl rfl ?_ | refine sP3 hS rfl rfl rfl ?_); clear hS; first | ((fail_if_success guard_hyp L1); intro L1 cl1 w hL1 hM1 hS) | ((fail_if_success guard_hyp L2); intro L2 cl2 w hL2 hM2 hS) | fail)) | ((first | refine sN1 hS rfl ?_ | (refine oC ?_; first | refine sC0 hS rfl ?_ | refine sC1 hS rfl rfl ?_ | refine sC2 hS rfl rfl ?_ | refine sC3 hS rfl rfl rfl ?_ | refine sC4 hS rfl rfl rfl ?_) | refine sM1 hS rfl rfl rfl ?_); clear hS; first | ((fail_if_success guard_hyp g1); intro g1 w hS) | ((fail_if_success guard_hyp g2); intro g2 w hS) | ((fail_if_success guard_hyp g3); intro g3 w hS) | ((fail_if_success guard_hyp g4); intro g4 w hS) | ((fail_if_success guard_hyp g5); intro g5 w hS) | ((fail_if_success guard_hyp g6); intro g6 w hS) | fail) | fail)
                refine lR ?_
                refine lM rfl rfl ?_
                (try simp only [Act.put, nA, nB, nC])
                refine lP rfl ?_
                (try simp only [Act.put, nA, nB, nC])
                (refine ⟨?_⟩; ((first | refine sL1 hS rfl rfl rfl ?_ | refine sL2 hS rfl rfl rfl ?_ | refine sL3 hS rfl rfl ?_ | refine sL4 hS rfl rfl ?_ | refine sL5 hS rfl rfl ?_ | refine sL6 hS rfl rfl ?_ | refine sL7 hS rfl rfl ?_)); refine WL.h ?_)
                (try simp only [Act.put, nA, nB, nC])
                refine lP rfl ?_
                (try simp only [Act.put, nA, nB, nC])
                refine lP rfl ?_
                (try simp only [Act.put, nA, nB, nC])
                refine lM rfl rfl ?_
                (try simp only [Act.put, nA, nB, nC])
                first | refine lQ rfl ?_ | refine lP rfl ?_ | fail
                (try simp only [Act.put, nA, nB, nC])
                first | refine lQ rfl ?_ | (refine ⟨?_⟩; ((first | refine sL1 hS rfl rfl rfl ?_ | refine sL2 hS rfl rfl rfl ?_ | refine sL3 hS rfl rfl ?_ | refine sL4 hS rfl rfl ?_ | refine sL5 hS rfl rfl ?_ | refine sL6 hS rfl rfl ?_ | refine sL7 hS rfl rfl ?_)); refine WL.h ?_) | fail
                (try simp only [Act.put, nA, nB, nC])
                first | refine lQ rfl ?_ | refine lM rfl rfl ?_ | fail
                (try simp only [Act.put, nA, nB, nC])
                first | refine lQ rfl ?_ | refine lP rfl ?_ | fail
                (try simp only [Act.put, nA, nB, nC])
                first | refine lQ rfl ?_ | (refine ⟨?_⟩; ((first | refine sL1 hS rfl rfl rfl ?_ | refine sL2 hS rfl rfl rfl ?_ | refine sL3 hS rfl rfl ?_ | refine sL4 hS rfl rfl ?_ | refine sL5 hS rfl rfl ?_ | refine sL6 hS rfl rfl ?_ | refine sL7 hS rfl rfl ?_)); refine WL.h ?_) | fail
                (try simp only [Act.put, nA, nB, nC])
                first | refine lQ rfl ?_ | refine lP rfl ?_ | fail
                (try simp only [Act.put, nA, nB, nC])
                first | refine lQ rfl ?_ | refine lP rfl ?_ | fail
                (try simp only [Act.put, nA, nB, nC])
                refine lP rfl ?_
                (try simp only [Act.put, nA, nB, nC])
                refine lZ ?_
                go_wp2_with (first | (refine oL ?_; (first | refine sL1 hS rfl rfl rfl ?_ | refine sL2 hS rfl rfl rfl ?_ | refine sL3 hS rfl rfl ?_ | refine sL4 hS rfl rfl ?_ | refine sL5 hS rfl rfl ?_ | refine sL6 hS rfl rfl ?_ | refine sL7 hS rfl rfl ?_)) | (refine oS ?_; ((first | refine sS1 hS rfl rfl rfl ?_ | refine sS2 hS rfl rfl rfl ?_ | refine sS3 hS rfl rfl rfl ?_ | refine sS4 hS rfl rfl rfl ?_ | refine sS5 hS rfl rfl rfl ?_); clear hS; intro w hS)) | (refine oP ?_; ((first | refine sP1 hS rfl rfl rfl ?_ | refine sP2 hS rfl rfl rfl ?_ | refine sP3 hS rfl rfl rfl ?_); clear hS; first | ((fail_if_success guard_hyp L1); intro L1 cl1 w hL1 hM1 hS) | ((fail_if_success guard_hyp L2); intro L2 cl2 w hL2 hM2 hS) | fail)) | ((first | refine sN1 hS rfl ?_ | (refine oC ?_; first | refine sC0 hS rfl ?_ | refine sC1 hS rfl rfl ?_ | refine sC2 hS rfl rfl ?_ | refine sC3 hS rfl rfl rfl ?_ | refine sC4 hS rfl rfl rfl ?_) | refine sM1 hS rfl rfl rfl ?_); clear hS; first | ((fail_if_success guard_hyp g1); intro g1 w hS) | ((fail_if_success guard_hyp g2); intro g2 w hS) | ((fail_if_success guard_hyp g3); intro g3 w hS) | ((fail_if_success guard_hyp g4); intro g4 w hS) | ((fail_if_success guard_hyp g5); intro g5 w hS) | ((fail_if_success guard_hyp g6); intro g6 w hS) | fail) | fail)
                generalize goS s _ = s2 at *
                replace hS := hS.re (ds := [row (.slice (some ⟨g3, 0, none⟩) nn nn) 3 1 nn (ints (mk.set (pn + q) (x0 + 1))), blk g1 [.slice D1 n k1, .slice D2 n k2, .slice D3 nn k3, .slice D4 n k4, .slice D5 n k5, .slice D6 nn k6, .slice D7 nn k7] 28, froz T1 w1, froz T u, froz T9 u9])
                obtain ⟨T2, hS2, hi2, hi3⟩ := hS.merge T1 w1 hi0
                have HS2 := Lib.hid (HS1.out.into hi3)
                replace hS := hS2
                go_roundw
                case measure => simp [intOf]; omega
                exact ⟨i + 1, D1, k1, D2, k2, D3, k3, D4, k4, D5, k5, D6, k6, D7, k7, s2, T2, _, (mk.set (pn + q) (x0 + 1)), by omega, by go_num, HN2, HM2, by rw [List.length_set]; exact hmkl, HS2, hS.re⟩
        · have HR := Lib.hid (show (refS s ⟨kd, fr, tt, val⟩ != 0) = true by simpa using hr)
          have HR0 := Lib.hid hr
          clear hr
          have HN2 := Lib.hid (runS_same HRUN.out HFI.out HR0.out)
          go_upto_region 21 with (first | (go_at_call 15; refine (step_r (HSN.out.into hS.intoK) HC.out HNN.out (by omega) HR0.out).mono ?_; rintro e w1 ⟨D1, k1, D2, k2, D3, k3, D4, k4, D5, k5, D6, k6, D7, k7, rfl, hx1⟩; replace hS := hS.ext hx1) | (refine oL ?_; (first | refine sL1 hS rfl rfl rfl ?_ | refine sL2 hS rfl rfl rfl ?_ | refine sL3 hS rfl rfl ?_ | refine sL4 hS rfl rfl ?_ | refine sL5 hS rfl rfl ?_ | refine sL6 hS rfl rfl ?_ | refine sL7 hS rfl rfl ?_)) | (refine oS ?_; ((first | refine sS1 hS rfl rfl rfl ?_ | refine sS2 hS rfl rfl rfl ?_ | refine sS3 hS rfl rfl rfl ?_ | refine sS4 hS rfl rfl rfl ?_ | refine sS5 hS rfl rfl rfl ?_); clear hS; intro w hS)) | (refine oP ?_; ((first | refine sP1 hS rfl rfl rfl ?_ | refine sP2 hS rfl rfl rfl ?_ | refine sP3 hS rfl rfl rfl ?_); clear hS; first | ((fail_if_success guard_hyp L1); intro L1 cl1 w hL1 hM1 hS) | ((fail_if_success guard_hyp L2); intro L2 cl2 w hL2 hM2 hS) | fail)) | ((first | refine sN1 hS rfl ?_ | (refine oC ?_; first | refine sC0 hS rfl ?_ | refine sC1 hS rfl rfl ?_ | refine sC2 hS rfl rfl ?_ | refine sC3 hS rfl rfl rfl ?_ | refine sC4 hS rfl rfl rfl ?_) | refine sM1 hS rfl rfl rfl ?_); clear hS; first | ((fail_if_success guard_hyp g1); intro g1 w hS) | ((fail_if_success guard_hyp g2); intro g2 w hS) | ((fail_if_success guard_hyp g3); intro g3 w hS) | ((fail_if_success guard_hyp g4); intro g4 w hS) | ((fail_if_success guard_hyp g5); intro g5 w hS) | ((fail_if_success guard_hyp g6); intro g6 w hS) | fail) | fail)
          have er0 := HR.out
          have er1 := HR0.out
          clear HR HR0
          generalize refS s ⟨kd, fr, tt, val⟩ = er at *
          go_wp2_with (first | (refine oL ?_; (first | refine sL1 hS rfl rfl rfl ?_ | refine sL2 hS rfl rfl rfl ?_ | refine sL3 hS rfl rfl ?_ | refine sL4 hS rfl rfl ?_ | refine sL5 hS rfl rfl ?_ | refine sL6 hS rfl rfl ?_ | refine sL7 hS rfl rfl ?_)) | (refine oS ?_; ((first | refine sS1 hS rfl rfl rfl ?_ | refine sS2 hS rfl rfl rfl ?_ | refine sS3 hS rfl rfl rfl ?_ | refine sS4 hS rfl rfl rfl ?_ | refine sS5 hS rfl rfl rfl ?_); clear hS; intro w hS)) | (refine oP ?_; ((first | refine sP1 hS rfl rfl rfl ?_ | refine sP2 hS rfl rfl rfl ?_ | refine sP3 hS rfl rfl rfl ?_); clear hS; first | ((fail_if_success guard_hyp L1); intro L1 cl1 w hL1 hM1 hS) | ((fail_if_success guard_hyp L2); intro L2 cl2 w hL2 hM2 hS) | fail)) | ((first | refine sN1 hS rfl ?_ | (refine oC ?_; first | refine sC0 hS rfl ?_ | refine sC1 hS rfl rfl ?_ | refine sC2 hS rfl rfl ?_ | refine sC3 hS rfl rfl rfl ?_ | refine sC4 hS rfl rfl rfl ?_) | refine sM1 hS rfl rfl rfl ?_); clear hS; first | ((fail_if_success guard_hyp g1); intro g1 w hS) | ((fail_if_success guard_hyp g2); intro g2 w hS) | ((fail_if_success guard_hyp g3); intro g3 w hS) | ((fail_if_success guard_hyp g4); intro g4 w hS) | ((fail_if_success guard_hyp g5); intro g5 w hS) | ((fail_if_success guard_hyp g6); intro g6 w hS) | fail) | fail)
          go_roundw
          case measure => simp [intOf]; omega
          exact ⟨i + 1, A1, c1, A2, c2, A3, c3, A4, c4, A5, c5, A6, c6, A7, c7, s, T, u, mk, by omega, by go_num, HN2, HMK, hmkl, HSN, hS.re⟩
    · obtain rfl : i = m + 1 + 1600 := by omega
      have HE := Lib.hid (show EndsAt n s by have h := HEND.out; rw [HRUN.out] at h; exact h)
      clear HEND HRUN
      have hlt' : ¬ (m : Int) + 1 + 1600 < (m : Int) + 1 + 1600 := by omega
      have HLN := Lib.hid (show SnLen n nn s by have h := HC.out.len (by omega); rw [HNN.out] at h; exact h)
      have HLH := Lib.hid (show s.chs.length = nn by rw [← HNN.out]; exact HC.out.lh)
      go_wp2_with (first | (refine oL ?_; (first | refine sL1 hS rfl rfl rfl ?_ | refine sL2 hS rfl rfl rfl ?_ | refine sL3 hS rfl rfl ?_ | refine sL4 hS rfl rfl ?_ | refine sL5 hS rfl rfl ?_ | refine sL6 hS rfl rfl ?_ | refine sL7 hS rfl rfl ?_)) | (refine oS ?_; ((first | refine sS1 hS rfl rfl rfl ?_ | refine sS2 hS rfl rfl rfl ?_ | refine sS3 hS rfl rfl rfl ?_ | refine sS4 hS rfl rfl rfl ?_ | refine sS5 hS rfl rfl rfl ?_); clear hS; intro w hS)) | (refine oP ?_; ((first | refine sP1 hS rfl rfl rfl ?_ | refine sP2 hS rfl rfl rfl ?_ | refine sP3 hS rfl rfl rfl ?_); clear hS; first | ((fail_if_success guard_hyp L1); intro L1 cl1 w hL1 hM1 hS) | ((fail_if_success guard_hyp L2); intro L2 cl2 w hL2 hM2 hS) | fail)) | ((first | refine sN1 hS rfl ?_ | (refine oC ?_; first | refine sC0 hS rfl ?_ | refine sC1 hS rfl rfl ?_ | refine sC2 hS rfl rfl ?_ | refine sC3 hS rfl rfl rfl ?_ | refine sC4 hS rfl rfl rfl ?_) | refine sM1 hS rfl rfl rfl ?_); clear hS; first | ((fail_if_success guard_hyp g1); intro g1 w hS) | ((fail_if_success guard_hyp g2); intro g2 w hS) | ((fail_if_success guard_hyp g3); intro g3 w hS) | ((fail_if_success guard_hyp g4); intro g4 w hS) | ((fail_if_success guard_hyp g5); intro g5 w hS) | ((fail_if_success guard_hyp g6); intro g6 w hS) | fail) | fail)
      go_loopw [19] (fun s19 wr => ∃ (k : Nat), k ≤ nn ∧ s19 = .int .i64 k ∧ St w0 NoM [row (.slice (some ⟨g3, 0, none⟩) nn nn) 3 1 nn (ints mk), blk g1 [.slice A1 n c1, .slice A2 n c2, .slice A3 nn c3, .slice A4 n c4, .slice A5 n c5, .slice A6 nn c6, .slice A7 nn c7] 28, froz T u, froz T9 u9] wr) (fun s19 _ => nn - (intOf s19).toNat)
      case atStart => exact ⟨0, by omega, rfl, hS.re⟩
      case round =>
        clear hS
        obtain ⟨k, hk, rfl, hS⟩ := hrel
        by_cases hkl : k < nn
        · have hkl' : (k : Int) < (nn : Int) := by omega
          obtain ⟨bh, oh, B, cB, hA3, hSb, hcell, _, _, hrv⟩ := HSN.out.chs.atC (k := k) (by rw [HLH.out]; exact hkl)
          rw [HE.out.still k (by rw [HNN.out]; exact hkl)] at hcell
          simp only at hA3
          subst hA3
          have hcf : FC T u bh (oh + k) (.slice B 0 cB) := ⟨hSb, hcell⟩
          have dk : decide ((nn : Int) ≤ (k : Int)) = false := decide_eq_false (by omega)
          have dkn : decide (nn ≤ k) = false := decide_eq_false (by omega)
          have hn0 : ¬ n = 0 := by omega
          have hq1 : wrap64 ((k : Int) / (n : Int)) = (k : Int) / (n : Int) := wrap_quo (by omega)
          clear hcell hrv hSb
          by_cases hd : k / n = k % n
          · have d1 : ((k : Int) / (n : Int) != (k : Int) % (n : Int)) = false := by
              rw [← Int.natCast_ediv, ← Int.natCast_emod, hd]; simp
            have d1n : (k / n != k % n) = false := by simpa using hd
            clear hd
            go_wp2_with (first | (refine oL ?_; (first | refine sL1 hS rfl rfl rfl ?_ | refine sL2 hS rfl rfl rfl ?_ | refine sL3 hS rfl rfl ?_ | refine sL4 hS rfl rfl ?_ | refine sL5 hS rfl rfl ?_ | refine sL6 hS rfl rfl ?_ | refine sL7 hS rfl rfl ?_)) | (refine oS ?_; ((first | refine sS1 hS rfl rfl rfl ?_ | refine sS2 hS rfl rfl rfl ?_ | refine sS3 hS rfl rfl rfl ?_ | refine sS4 hS rfl rfl rfl ?_ | refine sS5 hS rfl rfl rfl ?_); clear hS; intro w hS)) | (refine oP ?_; ((first | refine sP1 hS rfl rfl rfl ?_ | refine sP2 hS rfl rfl rfl ?_ | refine sP3 hS rfl rfl rfl ?_); clear hS; first | ((fail_if_success guard_hyp L1); intro L1 cl1 w hL1 hM1 hS) | ((fail_if_success guard_hyp L2); intro L2 cl2 w hL2 hM2 hS) | fail)) | ((first | refine sN1 hS rfl ?_ | (refine oC ?_; first | refine sC0 hS rfl ?_ | refine sC1 hS rfl rfl ?_ | refine sC2 hS rfl rfl ?_ | refine sC3 hS rfl rfl rfl ?_ | refine sC4 hS rfl rfl rfl ?_) | refine sM1 hS rfl rfl rfl ?_); clear hS; first | ((fail_if_success guard_hyp g1); intro g1 w hS) | ((fail_if_success guard_hyp g2); intro g2 w hS) | ((fail_if_success guard_hyp g3); intro g3 w hS) | ((fail_if_success guard_hyp g4); intro g4 w hS) | ((fail_if_success guard_hyp g5); intro g5 w hS) | ((fail_if_success guard_hyp g6); intro g6 w hS) | fail) | fail)
            refine dr_start0 []  hS (by kernel_rfl) rfl ?_; clear hS; intro w hS
            refine dM hS 0 rfl rfl rfl ?_
            (try simp only [Act.put, nA, nB, nC])
            refine dP hS 1 rfl rfl ?_
            (try simp only [Act.put, nA, nB, nC])
            first | refine dL1 hS 2 rfl rfl rfl rfl ?_ | refine dL2 hS 2 rfl rfl rfl rfl ?_ | refine dL3 hS 2 rfl rfl rfl ?_ | refine dL4 hS 2 rfl rfl rfl ?_ | refine dL5 hS 2 rfl rfl rfl ?_ | refine dL6 hS 2 rfl rfl rfl ?_ | refine dL7 hS 2 rfl rfl rfl ?_
            (try simp only [Act.put, nA, nB, nC])
            refine dP hS 3 rfl rfl ?_
            (try simp only [Act.put, nA, nB, nC])
            first | refine dP hS 4 rfl rfl ?_; (first | rw [dk] | rw [dkn]) | refine dP hS 4 rfl rfl ?_
            (try simp only [Act.put, nA, nB, nC])
            refine dM hS 5 rfl rfl rfl ?_
            (try simp only [Act.put, nA, nB, nC])
            first | refine dP hS 6 rfl rfl ?_ | refine dQ hS 6 rfl rfl ?_
            (try simp only [Act.put, nA, nB, nC])
            first | refine dL1 hS 7 rfl rfl rfl rfl ?_ | refine dL2 hS 7 rfl rfl rfl rfl ?_ | refine dL3 hS 7 rfl rfl rfl ?_ | refine dL4 hS 7 rfl rfl rfl ?_ | refine dL5 hS 7 rfl rfl rfl ?_ | refine dL6 hS 7 rfl rfl rfl ?_ | refine dL7 hS 7 rfl rfl rfl ?_ | refine dQ hS 7 rfl rfl ?_
            (try simp only [Act.put, nA, nB, nC])
            first | refine dM hS 8 rfl rfl rfl ?_ | refine dQ hS 8 rfl rfl ?_
            (try simp only [Act.put, nA, nB, nC])
            first | refine dP hS 9 rfl rfl ?_ | refine dQ hS 9 rfl rfl ?_
            (try simp only [Act.put, nA, nB, nC])
            first | refine dL1 hS 10 rfl rfl rfl rfl ?_ | refine dL2 hS 10 rfl rfl rfl rfl ?_ | refine dL3 hS 10 rfl rfl rfl ?_ | refine dL4 hS 10 rfl rfl rfl ?_ | refine dL5 hS 10 rfl rfl rfl ?_ | refine dL6 hS 10 rfl rfl rfl ?_ | refine dL7 hS 10 rfl rfl rfl ?_ | refine dQ hS 10 rfl rfl ?_
            (try simp only [Act.put, nA, nB, nC])
            first | refine dP hS 11 rfl rfl ?_ | refine dQ hS 11 rfl rfl ?_
            (try simp only [Act.put, nA, nB, nC])
            first | refine dP hS 12 rfl rfl ?_ | refine dQ hS 12 rfl rfl ?_
            (try simp only [Act.put, nA, nB, nC])
            refine dP hS 13 rfl rfl ?_
            (try simp only [Act.put, nA, nB, nC])
            refine dM hS 14 rfl rfl rfl ?_
            (try simp only [Act.put, nA, nB, nC])
            first | refine dM hS 15 rfl rfl rfl ?_ | refine dQ hS 15 rfl rfl ?_
            (try simp only [Act.put, nA, nB, nC])
            first | refine dM hS 16 rfl rfl rfl ?_ | refine dQ hS 16 rfl rfl ?_
            (try simp only [Act.put, nA, nB, nC])
            first | refine dP hS 17 rfl rfl ?_ | refine dQ hS 17 rfl rfl ?_
            (try simp only [Act.put, nA, nB, nC])
            first | refine dM hS 18 rfl rfl rfl ?_ | refine dQ hS 18 rfl rfl ?_
            (try simp only [Act.put, nA, nB, nC])
            first | refine dM hS 19 rfl rfl rfl ?_ | refine dQ hS 19 rfl rfl ?_
            (try simp only [Act.put, nA, nB, nC])
            first | refine dP hS 20 rfl rfl ?_ | refine dQ hS 20 rfl rfl ?_
            (try simp only [Act.put, nA, nB, nC])
            first | refine dP hS 21 rfl rfl ?_; (first | rw [d1] | rw [d1n]) | refine dP hS 21 rfl rfl ?_ | refine dQ hS 21 rfl rfl ?_
            (try simp only [Act.put, nA, nB, nC])
            first | refine dM hS 22 rfl rfl rfl ?_ | refine dQ hS 22 rfl rfl ?_
            (try simp only [Act.put, nA, nB, nC])
            first | refine dM hS 23 rfl rfl rfl ?_ | refine dQ hS 23 rfl rfl ?_
            (try simp only [Act.put, nA, nB, nC])
            first | refine dM hS 24 rfl rfl rfl ?_ | refine dQ hS 24 rfl rfl ?_
            (try simp only [Act.put, nA, nB, nC])
            first | refine dP hS 25 rfl rfl ?_ | refine dQ hS 25 rfl rfl ?_
            (try simp only [Act.put, nA, nB, nC])
            first | refine dL1 hS 26 rfl rfl rfl rfl ?_ | refine dL2 hS 26 rfl rfl rfl rfl ?_ | refine dL3 hS 26 rfl rfl rfl ?_ | refine dL4 hS 26 rfl rfl rfl ?_ | refine dL5 hS 26 rfl rfl rfl ?_ | refine dL6 hS 26 rfl rfl rfl ?_ | refine dL7 hS 26 rfl rfl rfl ?_ | refine dQ hS 26 rfl rfl ?_
            (try simp only [Act.put, nA, nB, nC])
            first | refine dP hS 27 rfl rfl ?_ | refine dQ hS 27 rfl rfl ?_
            (try simp only [Act.put, nA, nB, nC])
            first | refine dP hS 28 rfl rfl ?_ | refine dQ hS 28 rfl rfl ?_
            (try simp only [Act.put, nA, nB, nC])
            refine dP hS 29 rfl rfl ?_
            (try simp only [Act.put, nA, nB, nC])
            refine dr_done (by kernel_rfl) ?_
            go_wp2_with (first | (refine oL ?_; (first | refine sL1 hS rfl rfl rfl ?_ | refine sL2 hS rfl rfl rfl ?_ | refine sL3 hS rfl rfl ?_ | refine sL4 hS rfl rfl ?_ | refine sL5 hS rfl rfl ?_ | refine sL6 hS rfl rfl ?_ | refine sL7 hS rfl rfl ?_)) | (refine oS ?_; ((first | refine sS1 hS rfl rfl rfl ?_ | refine sS2 hS rfl rfl rfl ?_ | refine sS3 hS rfl rfl rfl ?_ | refine sS4 hS rfl rfl rfl ?_ | refine sS5 hS rfl rfl rfl ?_); clear hS; intro w hS)) | (refine oP ?_; ((first | refine sP1 hS rfl rfl rfl ?_ | refine sP2 hS rfl rfl rfl ?_ | refine sP3 hS rfl rfl rfl ?_); clear hS; first | ((fail_if_success guard_hyp L1); intro L1 cl1 w hL1 hM1 hS) | ((fail_if_success guard_hyp L2); intro L2 cl2 w hL2 hM2 hS) | fail)) | ((first | refine sN1 hS rfl ?_ | (refine oC ?_; first | refine sC0 hS rfl ?_ | refine sC1 hS rfl rfl ?_ | refine sC2 hS rfl rfl ?_ | refine sC3 hS rfl rfl rfl ?_ | refine sC4 hS rfl rfl rfl ?_) | refine sM1 hS rfl rfl rfl ?_); clear hS; first | ((fail_if_success guard_hyp g1); intro g1 w hS) | ((fail_if_success guard_hyp g2); intro g2 w hS) | ((fail_if_success guard_hyp g3); intro g3 w hS) | ((fail_if_success guard_hyp g4); intro g4 w hS) | ((fail_if_success guard_hyp g5); intro g5 w hS) | ((fail_if_success guard_hyp g6); intro g6 w hS) | fail) | fail)
            go_roundw
            case measure => simp [intOf]; omega
            exact ⟨k + 1, by omega, by go_num, hS.re⟩
          · have d1 : ((k : Int) / (n : Int) != (k : Int) % (n : Int)) = true := by
              rw [← Int.natCast_ediv, ← Int.natCast_emod]; simp; omega
            have d1n : (k / n != k % n) = true := by simpa using hd
            have hcm := intsk_at (l := mk) (k := k) (by omega)
            rw [HE.out.mks mk HMK.out k (by rw [HNN.out]; exact hkl) hd] at hcm
            clear hd
            go_wp2_with (first | (refine oL ?_; (first | refine sL1 hS rfl rfl rfl ?_ | refine sL2 hS rfl rfl rfl ?_ | refine sL3 hS rfl rfl ?_ | refine sL4 hS rfl rfl ?_ | refine sL5 hS rfl rfl ?_ | refine sL6 hS rfl rfl ?_ | refine sL7 hS rfl rfl ?_)) | (refine oS ?_; ((first | refine sS1 hS rfl rfl rfl ?_ | refine sS2 hS rfl rfl rfl ?_ | refine sS3 hS rfl rfl rfl ?_ | refine sS4 hS rfl rfl rfl ?_ | refine sS5 hS rfl rfl rfl ?_); clear hS; intro w hS)) | (refine oP ?_; ((first | refine sP1 hS rfl rfl rfl ?_ | refine sP2 hS rfl rfl rfl ?_ | refine sP3 hS rfl rfl rfl ?_); clear hS; first | ((fail_if_success guard_hyp L1); intro L1 cl1 w hL1 hM1 hS) | ((fail_if_success guard_hyp L2); intro L2 cl2 w hL2 hM2 hS) | fail)) | ((first | refine sN1 hS rfl ?_ | (refine oC ?_; first | refine sC0 hS rfl ?_ | refine sC1 hS rfl rfl ?_ | refine sC2 hS rfl rfl ?_ | refine sC3 hS rfl rfl rfl ?_ | refine sC4 hS rfl rfl rfl ?_) | refine sM1 hS rfl rfl rfl ?_); clear hS; first | ((fail_if_success guard_hyp g1); intro g1 w hS) | ((fail_if_success guard_hyp g2); intro g2 w hS) | ((fail_if_success guard_hyp g3); intro g3 w hS) | ((fail_if_success guard_hyp g4); intro g4 w hS) | ((fail_if_success guard_hyp g5); intro g5 w hS) | ((fail_if_success guard_hyp g6); intro g6 w hS) | fail) | fail)
            refine dr_start0 []  hS (by kernel_rfl) rfl ?_; clear hS; intro w hS
            refine dM hS 0 rfl rfl rfl ?_
            (try simp only [Act.put, nA, nB, nC])
            refine dP hS 1 rfl rfl ?_
            (try simp only [Act.put, nA, nB, nC])
            first | refine dL1 hS 2 rfl rfl rfl rfl ?_ | refine dL2 hS 2 rfl rfl rfl rfl ?_ | refine dL3 hS 2 rfl rfl rfl ?_ | refine dL4 hS 2 rfl rfl rfl ?_ | refine dL5 hS 2 rfl rfl rfl ?_ | refine dL6 hS 2 rfl rfl rfl ?_ | refine dL7 hS 2 rfl rfl rfl ?_
            (try simp only [Act.put, nA, nB, nC])
            refine dP hS 3 rfl rfl ?_
            (try simp only [Act.put, nA, nB, nC])
            first | refine dP hS 4 rfl rfl ?_; (first | rw [dk] | rw [dkn]) | refine dP hS 4 rfl rfl ?_
            (try simp only [Act.put, nA, nB, nC])
            refine dM hS 5 rfl rfl rfl ?_
            (try simp only [Act.put, nA, nB, nC])
            first | refine dP hS 6 rfl rfl ?_ | refine dQ hS 6 rfl rfl ?_
            (try simp only [Act.put, nA, nB, nC])
            first | refine dL1 hS 7 rfl rfl rfl rfl ?_ | refine dL2 hS 7 rfl rfl rfl rfl ?_ | refine dL3 hS 7 rfl rfl rfl ?_ | refine dL4 hS 7 rfl rfl rfl ?_ | refine dL5 hS 7 rfl rfl rfl ?_ | refine dL6 hS 7 rfl rfl rfl ?_ | refine dL7 hS 7 rfl rfl rfl ?_ | refine dQ hS 7 rfl rfl ?_
            (try simp only [Act.put, nA, nB, nC])
            first | refine dM hS 8 rfl rfl rfl ?_ | refine dQ hS 8 rfl rfl ?_
            (try simp only [Act.put, nA, nB, nC])
            first | refine dP hS 9 rfl rfl ?_ | refine dQ hS 9 rfl rfl ?_
            (try simp only [Act.put, nA, nB, nC])
            first | refine dL1 hS 10 rfl rfl rfl rfl ?_ | refine dL2 hS 10 rfl rfl rfl rfl ?_ | refine dL3 hS 10 rfl rfl rfl ?_ | refine dL4 hS 10 rfl rfl rfl ?_ | refine dL5 hS 10 rfl rfl rfl ?_ | refine dL6 hS 10 rfl rfl rfl ?_ | refine dL7 hS 10 rfl rfl rfl ?_ | refine dQ hS 10 rfl rfl ?_
            (try simp only [Act.put, nA, nB, nC])
            first | refine dP hS 11 rfl rfl ?_ | refine dQ hS 11 rfl rfl ?_
            (try simp only [Act.put, nA, nB, nC])
            first | refine dP hS 12 rfl rfl ?_ | refine dQ hS 12 rfl rfl ?_
            (try simp only [Act.put, nA, nB, nC])
            refine dP hS 13 rfl rfl ?_
            (try simp only [Act.put, nA, nB, nC])
            refine dM hS 14 rfl rfl rfl ?_
            (try simp only [Act.put, nA, nB, nC])
            first | refine dM hS 15 rfl rfl rfl ?_ | refine dQ hS 15 rfl rfl ?_
            (try simp only [Act.put, nA, nB, nC])
            first | refine dM hS 16 rfl rfl rfl ?_ | refine dQ hS 16 rfl rfl ?_
            (try simp only [Act.put, nA, nB, nC])
            first | refine dP hS 17 rfl rfl ?_ | refine dQ hS 17 rfl rfl ?_
            (try simp only [Act.put, nA, nB, nC])
            first | refine dM hS 18 rfl rfl rfl ?_ | refine dQ hS 18 rfl rfl ?_
            (try simp only [Act.put, nA, nB, nC])
            first | refine dM hS 19 rfl rfl rfl ?_ | refine dQ hS 19 rfl rfl ?_
            (try simp only [Act.put, nA, nB, nC])
            first | refine dP hS 20 rfl rfl ?_ | refine dQ hS 20 rfl rfl ?_
            (try simp only [Act.put, nA, nB, nC])
            first | refine dP hS 21 rfl rfl ?_; (first | rw [d1] | rw [d1n]) | refine dP hS 21 rfl rfl ?_ | refine dQ hS 21 rfl rfl ?_
            (try simp only [Act.put, nA, nB, nC])
            first | refine dM hS 22 rfl rfl rfl ?_ | refine dQ hS 22 rfl rfl ?_
            (try simp only [Act.put, nA, nB, nC])
            first | refine dM hS 23 rfl rfl rfl ?_ | refine dQ hS 23 rfl rfl ?_
            (try simp only [Act.put, nA, nB, nC])
            first | refine dM hS 24 rfl rfl rfl ?_ | refine dQ hS 24 rfl rfl ?_
            (try simp only [Act.put, nA, nB, nC])
            first | refine dP hS 25 rfl rfl ?_ | refine dQ hS 25 rfl rfl ?_
            (try simp only [Act.put, nA, nB, nC])
            first | refine dL1 hS 26 rfl rfl rfl rfl ?_ | refine dL2 hS 26 rfl rfl rfl rfl ?_ | refine dL3 hS 26 rfl rfl rfl ?_ | refine dL4 hS 26 rfl rfl rfl ?_ | refine dL5 hS 26 rfl rfl rfl ?_ | refine dL6 hS 26 rfl rfl rfl ?_ | refine dL7 hS 26 rfl rfl rfl ?_ | refine dQ hS 26 rfl rfl ?_
            (try simp only [Act.put, nA, nB, nC])
            first | refine dP hS 27 rfl rfl ?_ | refine dQ hS 27 rfl rfl ?_
            (try simp only [Act.put, nA, nB, nC])
            first | refine dP hS 28 rfl rfl ?_ | refine dQ hS 28 rfl rfl ?_
            (try simp only [Act.put, nA, nB, nC])
            refine dP hS 29 rfl rfl ?_
            (try simp only [Act.put, nA, nB, nC])
            refine dr_done (by kernel_rfl) ?_
            go_wp2_with (first | (refine oL ?_; (first | refine sL1 hS rfl rfl rfl ?_ | refine sL2 hS rfl rfl rfl ?_ | refine sL3 hS rfl rfl ?_ | refine sL4 hS rfl rfl ?_ | refine sL5 hS rfl rfl ?_ | refine sL6 hS rfl rfl ?_ | refine sL7 hS rfl rfl ?_)) | (refine oS ?_; ((first | refine sS1 hS rfl rfl rfl ?_ | refine sS2 hS rfl rfl rfl ?_ | refine sS3 hS rfl rfl rfl ?_ | refine sS4 hS rfl rfl rfl ?_ | refine sS5 hS rfl rfl rfl ?_); clear hS; intro w hS)) | (refine oP ?_; ((first | refine sP1 hS rfl rfl rfl ?_ | refine sP2 hS rfl rfl rfl ?_ | refine sP3 hS rfl rfl rfl ?_); clear hS; first | ((fail_if_success guard_hyp L1); intro L1 cl1 w hL1 hM1 hS) | ((fail_if_success guard_hyp L2); intro L2 cl2 w hL2 hM2 hS) | fail)) | ((first | refine sN1 hS rfl ?_ | (refine oC ?_; first | refine sC0 hS rfl ?_ | refine sC1 hS rfl rfl ?_ | refine sC2 hS rfl rfl ?_ | refine sC3 hS rfl rfl rfl ?_ | refine sC4 hS rfl rfl rfl ?_) | refine sM1 hS rfl rfl rfl ?_); clear hS; first | ((fail_if_success guard_hyp g1); intro g1 w hS) | ((fail_if_success guard_hyp g2); intro g2 w hS) | ((fail_if_success guard_hyp g3); intro g3 w hS) | ((fail_if_success guard_hyp g4); intro g4 w hS) | ((fail_if_success guard_hyp g5); intro g5 w hS) | ((fail_if_success guard_hyp g6); intro g6 w hS) | fail) | fail)
            go_roundw
            case measure => simp [intOf]; omega
            exact ⟨k + 1, by omega, by go_num, hS.re⟩
        · have hkl' : ¬ (k : Int) < (nn : Int) := by omega
          go_wp2_with (first | (go_at_call 19; refine (complete_n (HSN.out.into hS.intoK) HLN.out (by omega) (by omega)).mono ?_; rw [HE.out.comp]; rintro e w ⟨rfl, hx1⟩; replace hS := hS.ext hx1) | (refine oL ?_; (first | refine sL1 hS rfl rfl rfl ?_ | refine sL2 hS rfl rfl rfl ?_ | refine sL3 hS rfl rfl ?_ | refine sL4 hS rfl rfl ?_ | refine sL5 hS rfl rfl ?_ | refine sL6 hS rfl rfl ?_ | refine sL7 hS rfl rfl ?_)) | (refine oS ?_; ((first | refine sS1 hS rfl rfl rfl ?_ | refine sS2 hS rfl rfl rfl ?_ | refine sS3 hS rfl rfl rfl ?_ | refine sS4 hS rfl rfl rfl ?_ | refine sS5 hS rfl rfl rfl ?_); clear hS; intro w hS)) | (refine oP ?_; ((first | refine sP1 hS rfl rfl rfl ?_ | refine sP2 hS rfl rfl rfl ?_ | refine sP3 hS rfl rfl rfl ?_); clear hS; first | ((fail_if_success guard_hyp L1); intro L1 cl1 w hL1 hM1 hS) | ((fail_if_success guard_hyp L2); intro L2 cl2 w hL2 hM2 hS) | fail)) | ((first | refine sN1 hS rfl ?_ | (refine oC ?_; first | refine sC0 hS rfl ?_ | refine sC1 hS rfl rfl ?_ | refine sC2 hS rfl rfl ?_ | refine sC3 hS rfl rfl rfl ?_ | refine sC4 hS rfl rfl rfl ?_) | refine sM1 hS rfl rfl rfl ?_); clear hS; first | ((fail_if_success guard_hyp g1); intro g1 w hS) | ((fail_if_success guard_hyp g2); intro g2 w hS) | ((fail_if_success guard_hyp g3); intro g3 w hS) | ((fail_if_success guard_hyp g4); intro g4 w hS) | ((fail_if_success guard_hyp g5); intro g5 w hS) | ((fail_if_success guard_hyp g6); intro g6 w hS) | fail) | fail)
          go_ret
          exact ⟨rfl, hS.toExt⟩
open Go.ChangeShapes Go.WideShapes Go.ChangeAt
set_option maxRecDepth 100000 in
theorem lifted_MarkerEnds (os : Os) (started : os.Started) (H : Type) (enc : TypeId × Value → H) :
    ReturnsInHanded {} Try.checked os 8 .any (Rows.markerEndsSpec.pre6 enc Try.prog Try.f8 Rows.markerEndsRow.domain false) (Rows.markerEndsSpec.post enc Try.prog Try.f8 false true false false) := by
  refine law_lifted (C := Try.checked) (s := Rows.markerEndsSpec) (tb := 4) (by kernel_rfl) started (by kernel_rfl) Try.func8
      (ChangeSpec.witness6 (enc := enc) (C := Try.checked) false ⟨#[], #[.slice none 0 0, .slice none 0 0, .slice none 0 0], []⟩ 8 (by kernel_rfl) (by kernel_rfl) (by kernel_rfl) (by kernel_rfl))
      (by kernel_rfl) rfl rfl Try.underlying4 (read_of (by kernel_rfl)) ?_ ?_
  · intro ds hl
    match ds, hl with
    | [d0, d1, d2], _ => exact ⟨rfl, rfl, rfl⟩
  · intro W base args ds p hval0 hA0
    have hval : ∀ (j : Nat) t v, Try.f8.params[j]? = some t → args[j]? = some v → Value.okWide Try.prog W .any base t v := hval0
    have hA : DataW.TrodAll enc Try.prog W 0 (fun _ => true) true Try.f8.params.toList args.toList ds p := hA0
    clear hA0 hval0
    rw [Try.params8] at hA hval
    obtain ⟨v0, v1, v2, d0, d1, d2, p0, p1, p2, rfl, rfl, rfl, h0, h1, h2⟩ := trodAll_three hA
    obtain ⟨A0, c0, xs0, rfl, hri0, hc0, hd0, hwf0⟩ := open_nums Try.underlying22 Try.underlying3 (by kernel_rfl) (hval 0 _ v0 rfl rfl) h0
    obtain ⟨A1, c1, xs1, rfl, hri1, hc1, hd1, hwf1⟩ := open_nums Try.underlying34 Try.underlying5 (by kernel_rfl) (hval 1 _ v1 rfl rfl) h1
    obtain ⟨A2, c2, xs2, rfl, hri2, hc2, hd2, hwf2⟩ := open_nums Try.underlying34 Try.underlying5 (by kernel_rfl) (hval 2 _ v2 rfl rfl) h2
    exact markerEnds_any A0 c0 xs0 A1 c1 xs1 A2 c2 xs2 W hri0 hc0 hd0 (fun b hb => i64_bd (hwf0 b hb)) hri1 hc1 hd1 (fun b hb => u8_bd (hwf1 b hb)) hri2 hc2 hd2 (fun b hb => u8_bd (hwf2 b hb))
/-- MarkerEnds returns true for every input, and leaves its arguments as they were. -/
theorem proved_MarkerEnds : Rows.MarkerEndsSaid :=
  OpenClaim.holds_of_wide 8 Try.f8 rfl rfl rfl rfl rfl rfl rfl ⟨rfl, rfl, rfl, rfl, rfl⟩ rfl rfl rfl rfl rfl (by kernel_rfl) Try.func8 (by kernel_rfl)
    (of_decide_eq_true (by kernel_rfl)) (by unfold Func.isWrapper; rw [if_neg (by decide +kernel)]; exact ⟨rfl, rfl⟩)
    (fun os started H enc _ => lifted_MarkerEnds os started H enc)
end Go.Proofs.Ytkaofbjppibdkaa
