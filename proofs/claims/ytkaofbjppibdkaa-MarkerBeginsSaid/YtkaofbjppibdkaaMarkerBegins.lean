/- MarkerBegins: the machine of any values, or the error. No condition. -/
import Derived.Test.YtkaofbjppibdkaaSnAwake
import Derived.Test.YtkaofbjppibdkaaSnNewR
import Derived.Test.YtkaofbjppibdkaaSnSame
import Derived.Test.YtkaofbjppibdkaaLaw
namespace Go.Proofs.Ytkaofbjppibdkaa
open Go.RowKit
set_option linter.unusedVariables false
set_option linter.unusedSimpArgs false
set_option linter.unusedSectionVars false

theorem newR_len {vs : List Int} (hb : ∀ x ∈ vs, -9223372036854775808 ≤ x ∧ x ≤ 9223372036854775807) : ∃ n m, n ≤ 5 ∧ m ≤ 25 ∧ SnLen n m (newR vs).1 := by
  by_cases h : 1 ≤ vs.length ∧ vs.length ≤ 5
  · rw [newR, if_pos h]
    exact ⟨vs.length, vs.length * vs.length, h.2, Nat.le_trans (Nat.mul_le_mul h.2 h.2) (by decide), (newS_ok h.1 h.2 hb).len (by omega)⟩
  · rw [newR, if_neg h]
    exact ⟨0, 0, by omega, by omega, .none⟩
theorem newR_er (vs : List Int) : (newR vs).2 = 0 ∨ (newR vs).2 = 3 := by
  rw [newR]; split <;> simp
theorem snew_m {S : Nat → Prop} {A : Option Addr} {c n m : Nat} {vs : List Int} {w0 : World} (hv : RI S w0 A vs) (hc : vs.length ≤ 20) (hl : SnLen n m (newR vs).1) {er : Int} (her : (newR vs).2 = er) :
    Calls Try.prog 11 #[.slice A vs.length c] w0 fun e w' => ∃ A1 c1 A2 c2 A3 c3 A4 c4 A5 c5 A6 c6 A7 c7, e = .returned (.tuple #[.agg #[.slice A1 n c1, .slice A2 n c2, .slice A3 m c3, .slice A4 n c4, .slice A5 n c5, .slice A6 m c6, .slice A7 m c7], .int .i64 er]) ∧ SnAt (fun k => w0.heap.size ≤ k ∧ k < w'.heap.size) w' ⟨A1, c1, A2, c2, A3, c3, A4, c4, A5, c5, A6, c6, A7, c7⟩ (newR vs).1 ∧ Ext w0 w' := by
  subst her
  refine (snew_any A c vs w0 hv (by omega)).mono ?_
  rintro e w' ⟨⟨A1, c1, A2, c2, A3, c3, A4, c4, A5, c5, A6, c6, A7, c7⟩, rfl, h2, h3⟩
  exact ⟨A1, c1, A2, c2, A3, c3, A4, c4, A5, c5, A6, c6, A7, c7, by simp only [SV.val, SV.cells, hl.lv, hl.lh], h2.new, h3⟩
theorem rsnew_m {S : Nat → Prop} {A : Option Addr} {c n m : Nat} {vs : List Int} {w0 : World} (hv : RI S w0 A vs) (hc : vs.length ≤ 20) (hl : SnLen n m (newR vs).1) {er : Int} (her : (newR vs).2 = er) :
    Calls Try.prog 12 #[.slice A vs.length c] w0 fun e w' => ∃ A1 c1 A2 c2 A3 c3 A4 c4 A5 c5 A6 c6 A7 c7, e = .returned (.tuple #[.agg #[.slice A1 n c1, .slice A2 n c2, .slice A3 m c3, .slice A4 n c4, .slice A5 n c5, .slice A6 m c6, .slice A7 m c7], .int .i64 er]) ∧ SnAt (fun k => w0.heap.size ≤ k ∧ k < w'.heap.size) w' ⟨A1, c1, A2, c2, A3, c3, A4, c4, A5, c5, A6, c6, A7, c7⟩ (newR vs).1 ∧ Ext w0 w' := by
  subst her
  refine (rsnew_any A c vs w0 hv (by omega)).mono ?_
  rintro e w' ⟨⟨A1, c1, A2, c2, A3, c3, A4, c4, A5, c5, A6, c6, A7, c7⟩, rfl, h2, h3⟩
  exact ⟨A1, c1, A2, c2, A3, c3, A4, c4, A5, c5, A6, c6, A7, c7, by simp only [SV.val, SV.cells, hl.lv, hl.lh], h2.new, h3⟩
theorem same_m {S T : Nat → Prop} {A1 A2 A3 A4 A5 A6 A7 B1 B2 B3 B4 B5 B6 B7 : Option Addr} {c1 c2 c3 c4 c5 c6 c7 d1 d2 d3 d4 d5 d6 d7 n m : Nat} {s : Snp} {w0 : World} (ha : SnAt S w0 ⟨A1, c1, A2, c2, A3, c3, A4, c4, A5, c5, A6, c6, A7, c7⟩ s) (hb : SnAt T w0 ⟨B1, d1, B2, d2, B3, d3, B4, d4, B5, d5, B6, d6, B7, d7⟩ s) (hl : SnLen n m s) (hn : n ≤ 5) (hm : m ≤ 25) :
    Calls Try.prog 13 #[.agg #[.slice A1 n c1, .slice A2 n c2, .slice A3 m c3, .slice A4 n c4, .slice A5 n c5, .slice A6 m c6, .slice A7 m c7], .agg #[.slice B1 n d1, .slice B2 n d2, .slice B3 m d3, .slice B4 n d4, .slice B5 n d5, .slice B6 m d6, .slice B7 m d7]] w0 fun e w' => e = .returned (.bool true) ∧ Ext w0 w' :=
  same_sn ⟨A1, c1, A2, c2, A3, c3, A4, c4, A5, c5, A6, c6, A7, c7⟩ ⟨B1, d1, B2, d2, B3, d3, B4, d4, B5, d5, B6, d6, B7, d7⟩ s n m w0 ha hb hl (by omega) (by omega)
set_option maxRecDepth 100000 in
set_option maxHeartbeats 6400000 in
theorem markerBegins_any (V : Option Addr) (g : Nat) (vs : List Int) (w0 : World) (hvs : RI (fun b => b < w0.heap.size) w0 V vs) (hg : vs.length ≤ g) (hg' : g ≤ 9223372036854775807) (hin : ∀ b ∈ vs, -9223372036854775808 ≤ b ∧ b ≤ 9223372036854775807) :
    Calls Try.prog 3 #[.slice V vs.length g] w0 fun e w' => e = .returned (.bool true) ∧ Ext w0 w' := by
  have hS := St.start w0 NoM
  by_cases h20 : 20 < vs.length
  · have h20' : (20 : Int) < (vs.length : Int) := by omega
    have d20 : decide (20 < (vs.length : Int)) = true := decide_eq_true h20'
    go_enter Try.func3, Try.ntmps3
    go_upto_region 1 with (first | (refine oL ?_; (first | refine sL1 hS rfl rfl rfl ?_ | refine sL2 hS rfl rfl rfl ?_ | refine sL3 hS rfl rfl ?_ | refine sL4 hS rfl rfl ?_ | refine sL5 hS rfl rfl ?_ | refine sL6 hS rfl rfl ?_ | refine sL7 hS rfl rfl ?_)) | (refine oS ?_; ((first | refine sS1 hS rfl rfl rfl ?_ | refine sS2 hS rfl rfl rfl ?_ | refine sS3 hS rfl rfl rfl ?_ | refine sS4 hS rfl rfl rfl ?_ | refine sS5 hS rfl rfl rfl ?_); clear hS; intro w hS)) | ((first | refine sN1 hS rfl ?_); clear hS; first | ((fail_if_success guard_hyp g1); intro g1 w hS) | ((fail_if_success guard_hyp g2); intro g2 w hS) | ((fail_if_success guard_hyp g3); intro g3 w hS) | fail) | fail)
    refine lR ?_
    (refine ⟨?_⟩; (refine st_call rfl (by kernel_rfl) rfl ?_; go_at_call 10; refine (awake23_any _).mono ?_; rintro e w ⟨rfl, hx1⟩; replace hS := hS.ext hx1); refine WL.h ?_)
    (try simp only [Act.put, nA, nB, nC])
    refine lP rfl ?_
    (try simp only [Act.put, nA, nB, nC])
    refine lM rfl rfl ?_
    (try simp only [Act.put, nA, nB, nC])
    first | refine lQ rfl ?_ | refine lM rfl rfl ?_ | fail
    (try simp only [Act.put, nA, nB, nC])
    first | refine lQ rfl ?_ | refine lP rfl ?_ | fail
    (try simp only [Act.put, nA, nB, nC])
    first | refine lQ rfl ?_ | refine lP rfl ?_ | fail
    (try simp only [Act.put, nA, nB, nC])
    refine lP rfl ?_
    (try simp only [Act.put, nA, nB, nC])
    refine lZ ?_
    go_wp2_with (first | (refine oL ?_; (first | refine sL1 hS rfl rfl rfl ?_ | refine sL2 hS rfl rfl rfl ?_ | refine sL3 hS rfl rfl ?_ | refine sL4 hS rfl rfl ?_ | refine sL5 hS rfl rfl ?_ | refine sL6 hS rfl rfl ?_ | refine sL7 hS rfl rfl ?_)) | (refine oS ?_; ((first | refine sS1 hS rfl rfl rfl ?_ | refine sS2 hS rfl rfl rfl ?_ | refine sS3 hS rfl rfl rfl ?_ | refine sS4 hS rfl rfl rfl ?_ | refine sS5 hS rfl rfl rfl ?_); clear hS; intro w hS)) | ((first | refine sN1 hS rfl ?_); clear hS; first | ((fail_if_success guard_hyp g1); intro g1 w hS) | ((fail_if_success guard_hyp g2); intro g2 w hS) | ((fail_if_success guard_hyp g3); intro g3 w hS) | fail) | fail)
    go_ret
    exact ⟨by simp [h20'], hS.toExt⟩
  · have h20' : ¬ (20 : Int) < (vs.length : Int) := by omega
    have d20 : decide (20 < (vs.length : Int)) = false := decide_eq_false h20'
    obtain ⟨n, m, hn5, hm5, hl⟩ := newR_len hin
    have HL := Lib.hid hl
    clear hl hin
    have hv20 : vs.length ≤ 20 := by omega
    rcases newR_er vs with her | her
    all_goals
      go_enter Try.func3, Try.ntmps3
      go_upto_region 1 with (first | (refine oL ?_; (first | refine sL1 hS rfl rfl rfl ?_ | refine sL2 hS rfl rfl rfl ?_ | refine sL3 hS rfl rfl ?_ | refine sL4 hS rfl rfl ?_ | refine sL5 hS rfl rfl ?_ | refine sL6 hS rfl rfl ?_ | refine sL7 hS rfl rfl ?_)) | (refine oS ?_; ((first | refine sS1 hS rfl rfl rfl ?_ | refine sS2 hS rfl rfl rfl ?_ | refine sS3 hS rfl rfl rfl ?_ | refine sS4 hS rfl rfl rfl ?_ | refine sS5 hS rfl rfl rfl ?_); clear hS; intro w hS)) | ((first | refine sN1 hS rfl ?_); clear hS; first | ((fail_if_success guard_hyp g1); intro g1 w hS) | ((fail_if_success guard_hyp g2); intro g2 w hS) | ((fail_if_success guard_hyp g3); intro g3 w hS) | fail) | fail)
      refine lR ?_
      (refine ⟨?_⟩; (refine st_call rfl (by kernel_rfl) rfl ?_; go_at_call 10; refine (awake23_any _).mono ?_; rintro e w ⟨rfl, hx1⟩; replace hS := hS.ext hx1); refine WL.h ?_)
      (try simp only [Act.put, nA, nB, nC])
      refine lP rfl ?_
      (try simp only [Act.put, nA, nB, nC])
      refine lM rfl rfl ?_
      (try simp only [Act.put, nA, nB, nC])
      first | refine lQ rfl ?_ | refine lM rfl rfl ?_ | fail
      (try simp only [Act.put, nA, nB, nC])
      first | refine lQ rfl ?_ | refine lP rfl ?_ | fail
      (try simp only [Act.put, nA, nB, nC])
      first | refine lQ rfl ?_ | refine lP rfl ?_ | fail
      (try simp only [Act.put, nA, nB, nC])
      refine lP rfl ?_
      (try simp only [Act.put, nA, nB, nC])
      refine lZ ?_
      go_upto_region 4 with (first | (go_at_call 11; refine (snew_m (hvs.ext hS.toExt) hv20 HL.out her).mono ?_; rintro e u ⟨A1, c1, A2, c2, A3, c3, A4, c4, A5, c5, A6, c6, A7, c7, rfl, hsn, hx1⟩; replace hS := hS.frozNew hx1; obtain ⟨N1, hN1⟩ : ∃ N : Nat → Prop, N = fun k => w.heap.size ≤ k ∧ k < u.heap.size := ⟨_, rfl⟩; rw [← hN1] at hS hsn; have HSN := Lib.hid hsn; clear hN1 hsn hx1) | (refine oL ?_; (first | refine sL1 hS rfl rfl rfl ?_ | refine sL2 hS rfl rfl rfl ?_ | refine sL3 hS rfl rfl ?_ | refine sL4 hS rfl rfl ?_ | refine sL5 hS rfl rfl ?_ | refine sL6 hS rfl rfl ?_ | refine sL7 hS rfl rfl ?_)) | (refine oS ?_; ((first | refine sS1 hS rfl rfl rfl ?_ | refine sS2 hS rfl rfl rfl ?_ | refine sS3 hS rfl rfl rfl ?_ | refine sS4 hS rfl rfl rfl ?_ | refine sS5 hS rfl rfl rfl ?_); clear hS; intro w hS)) | ((first | refine sN1 hS rfl ?_); clear hS; first | ((fail_if_success guard_hyp g1); intro g1 w hS) | ((fail_if_success guard_hyp g2); intro g2 w hS) | ((fail_if_success guard_hyp g3); intro g3 w hS) | fail) | fail)
      go_upto_region 5 with (first | (go_at_call 12; refine (rsnew_m (hvs.ext hS.toExt) hv20 HL.out her).mono ?_; rintro e u2 ⟨B1, d1, B2, d2, B3, d3, B4, d4, B5, d5, B6, d6, B7, d7, rfl, hsn, hx1⟩; replace hS := hS.frozNew hx1; obtain ⟨N2, hN2⟩ : ∃ N : Nat → Prop, N = fun k => w.heap.size ≤ k ∧ k < u2.heap.size := ⟨_, rfl⟩; rw [← hN2] at hS hsn; have HSR := Lib.hid hsn; clear hN2 hsn hx1) | (refine oL ?_; (first | refine sL1 hS rfl rfl rfl ?_ | refine sL2 hS rfl rfl rfl ?_ | refine sL3 hS rfl rfl ?_ | refine sL4 hS rfl rfl ?_ | refine sL5 hS rfl rfl ?_ | refine sL6 hS rfl rfl ?_ | refine sL7 hS rfl rfl ?_)) | (refine oS ?_; ((first | refine sS1 hS rfl rfl rfl ?_ | refine sS2 hS rfl rfl rfl ?_ | refine sS3 hS rfl rfl rfl ?_ | refine sS4 hS rfl rfl rfl ?_ | refine sS5 hS rfl rfl rfl ?_); clear hS; intro w hS)) | ((first | refine sN1 hS rfl ?_); clear hS; first | ((fail_if_success guard_hyp g1); intro g1 w hS) | ((fail_if_success guard_hyp g2); intro g2 w hS) | ((fail_if_success guard_hyp g3); intro g3 w hS) | fail) | fail)
      refine lR ?_
      refine lM rfl rfl ?_
      (try simp only [Act.put, nA, nB, nC])
      refine lM rfl rfl ?_
      (try simp only [Act.put, nA, nB, nC])
      refine lP rfl ?_
      (try simp only [Act.put, nA, nB, nC])
      refine lM rfl rfl ?_
      (try simp only [Act.put, nA, nB, nC])
      first | refine lQ rfl ?_ | (refine ⟨?_⟩; ((first | refine sL1 hS rfl rfl rfl ?_ | refine sL2 hS rfl rfl rfl ?_ | refine sL3 hS rfl rfl ?_ | refine sL4 hS rfl rfl ?_ | refine sL5 hS rfl rfl ?_ | refine sL6 hS rfl rfl ?_ | refine sL7 hS rfl rfl ?_)); refine WL.h ?_) | fail
      (try simp only [Act.put, nA, nB, nC])
      first | refine lQ rfl ?_ | (refine ⟨?_⟩; ((first | refine sL1 hS rfl rfl rfl ?_ | refine sL2 hS rfl rfl rfl ?_ | refine sL3 hS rfl rfl ?_ | refine sL4 hS rfl rfl ?_ | refine sL5 hS rfl rfl ?_ | refine sL6 hS rfl rfl ?_ | refine sL7 hS rfl rfl ?_)); refine WL.h ?_) | fail
      (try simp only [Act.put, nA, nB, nC])
      first | refine lQ rfl ?_ | (refine ⟨?_⟩; (refine st_call rfl (by kernel_rfl) rfl ?_; go_at_call 13; refine (same_m (HSN.out.into (hS.intoK (T := N1))) (HSR.out.into (hS.intoK (T := N2))) HL.out hn5 hm5).mono ?_; rintro e w ⟨rfl, hx1⟩; replace hS := hS.ext hx1); refine WL.h ?_) | fail
      (try simp only [Act.put, nA, nB, nC])
      refine lP rfl ?_
      (try simp only [Act.put, nA, nB, nC])
      refine lA rfl rfl ?_
      (try simp only [Act.put, nA, nB, nC])
      refine lZ ?_
      go_wp2_with (first | (refine oL ?_; (first | refine sL1 hS rfl rfl rfl ?_ | refine sL2 hS rfl rfl rfl ?_ | refine sL3 hS rfl rfl ?_ | refine sL4 hS rfl rfl ?_ | refine sL5 hS rfl rfl ?_ | refine sL6 hS rfl rfl ?_ | refine sL7 hS rfl rfl ?_)) | (refine oS ?_; ((first | refine sS1 hS rfl rfl rfl ?_ | refine sS2 hS rfl rfl rfl ?_ | refine sS3 hS rfl rfl rfl ?_ | refine sS4 hS rfl rfl rfl ?_ | refine sS5 hS rfl rfl rfl ?_); clear hS; intro w hS)) | ((first | refine sN1 hS rfl ?_); clear hS; first | ((fail_if_success guard_hyp g1); intro g1 w hS) | ((fail_if_success guard_hyp g2); intro g2 w hS) | ((fail_if_success guard_hyp g3); intro g3 w hS) | fail) | fail)
      go_ret
      exact ⟨rfl, hS.toExt⟩
open Go.ChangeShapes Go.WideShapes Go.ChangeAt
set_option maxRecDepth 100000 in
theorem lifted_MarkerBegins (os : Os) (started : os.Started) (H : Type) (enc : TypeId × Value → H) :
    ReturnsInHanded {} Try.checked os 3 .any (Rows.markerBeginsSpec.pre6 enc Try.prog Try.f3 Rows.markerBeginsRow.domain false) (Rows.markerBeginsSpec.post enc Try.prog Try.f3 false true false false) := by
  refine law_lifted (C := Try.checked) (s := Rows.markerBeginsSpec) (tb := 4) (by kernel_rfl) started (by kernel_rfl) Try.func3
      (ChangeSpec.witness6 (enc := enc) (C := Try.checked) false ⟨#[], #[.slice none 0 0], []⟩ 8 (by kernel_rfl) (by kernel_rfl) (by kernel_rfl) (by kernel_rfl))
      (by kernel_rfl) rfl rfl Try.underlying4 (read_of (by kernel_rfl)) ?_ ?_
  · intro ds hl
    match ds, hl with
    | [d0], _ => exact ⟨rfl, rfl, rfl⟩
  · intro W base args ds p hval0 hA0
    have hval : ∀ (j : Nat) t v, Try.f3.params[j]? = some t → args[j]? = some v → Value.okWide Try.prog W .any base t v := hval0
    have hA : DataW.TrodAll enc Try.prog W 0 (fun _ => true) true Try.f3.params.toList args.toList ds p := hA0
    clear hA0 hval0
    rw [Try.params3] at hA hval
    obtain ⟨v0, d0, rfl, rfl, h0⟩ := trodAll_one hA
    obtain ⟨A0, c0, xs0, rfl, hri0, hc0, hd0, hwf0⟩ := open_nums Try.underlying22 Try.underlying3 (by kernel_rfl) (hval 0 _ v0 rfl rfl) h0
    exact markerBegins_any A0 c0 xs0 W hri0 hc0 hd0 (fun b hb => i64_bd (hwf0 b hb))
/-- MarkerBegins returns true for every input, and leaves its arguments as they were. -/
theorem proved_MarkerBegins : Rows.MarkerBeginsSaid :=
  OpenClaim.holds_of_wide 3 Try.f3 rfl rfl rfl rfl rfl rfl rfl ⟨rfl, rfl, rfl, rfl, rfl⟩ rfl rfl rfl rfl rfl (by kernel_rfl) Try.func3 (by kernel_rfl)
    (of_decide_eq_true (by kernel_rfl)) (by unfold Func.isWrapper; rw [if_neg (by decide +kernel)]; exact ⟨rfl, rfl⟩)
    (fun os started H enc _ => lifted_MarkerBegins os started H enc)
end Go.Proofs.Ytkaofbjppibdkaa
