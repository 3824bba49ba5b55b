/- A number by choices (rollbacknetmake.Codes.Int). Condition: the choices lie in memory. -/
import Derived.Test.YtombhhhaidmpeaaGc
import Derived.Test.YtombhhhaidmpeaaSnTot
namespace Go.Proofs.Ytombhhhaidmpeaa
open Go.RowKit
set_option linter.unusedVariables false
set_option linter.unusedSimpArgs false

/-- the numbers that are set out -/
def l10 : List Int := [9223372036854775807, -9223372036854775808, 2147483648, -1, 63, 64, -65, 127, 128, 1099511627776]
theorem l10_at (k : Nat) (h : k < 10) : ∃ x : Int, ([.int .i64 9223372036854775807, .int .i64 (-9223372036854775808), .int .i64 2147483648, .int .i64 (-1), .int .i64 63, .int .i64 64, .int .i64 (-65), .int .i64 127, .int .i64 128, .int .i64 1099511627776] : List Value)[k]? = some (.int .i64 x) := by
  match k, h with
  | 0, _ => exact ⟨_, rfl⟩
  | 1, _ => exact ⟨_, rfl⟩
  | 2, _ => exact ⟨_, rfl⟩
  | 3, _ => exact ⟨_, rfl⟩
  | 4, _ => exact ⟨_, rfl⟩
  | 5, _ => exact ⟨_, rfl⟩
  | 6, _ => exact ⟨_, rfl⟩
  | 7, _ => exact ⟨_, rfl⟩
  | 8, _ => exact ⟨_, rfl⟩
  | 9, _ => exact ⟨_, rfl⟩
set_option maxRecDepth 100000 in
set_option maxHeartbeats 1600000 in
theorem cint_any (g0 : Nat) (κ : CK) (r : List Int) (w0 : World) (hc : CdsAt w0 g0 κ r) :
    Calls Try.prog 48 #[.pointer (some ⟨g0, 0, none⟩)] w0 fun e w' => ∃ (x : Int) (r' : List Int), e = .returned (.int .i64 x) ∧ CdsAt w' g0 κ r' ∧ Keep (fun k => k ≠ g0) w0 w' := by
  have hS := St.startC hc
  clear hc
  have hk6 := nxt_lt r (n := 6) (by omega)
  have hk10 := nxt_lt r.tail (n := 10) (by omega)
  have HV := Lib.hid (l10_at _ hk10)
  generalize h6 : nxt r 6 = k6 at *
  generalize h10 : nxt r.tail 10 = k10 at *
  have H6 := Lib.hid h6
  have H10 := Lib.hid h10
  clear h6 h10
  by_cases h5 : k6 = 5
  · subst h5
    go_enter Try.func48, Try.ntmps48
    go_upto_region 1 with (first | (refine oL ?_; (first | refine sL1 hS rfl rfl rfl ?_ | refine sL2 hS rfl rfl rfl ?_ | refine sL3 hS rfl rfl ?_ | refine sL4 hS rfl rfl ?_ | refine sL5 hS rfl rfl ?_ | refine sL6 hS rfl rfl ?_ | refine sL7 hS rfl rfl ?_)) | ((first | (refine oC ?_; first | refine sC0 hS rfl ?_ | refine sC1 hS rfl rfl ?_ | refine sC2 hS rfl rfl ?_ | refine sC3 hS rfl rfl rfl ?_ | refine sC4 hS rfl rfl rfl ?_)); clear hS; first | ((fail_if_success guard_hyp g1); intro g1 w hS) | ((fail_if_success guard_hyp g2); intro g2 w hS) | fail) | fail)
    refine lR ?_
    (refine ⟨?_⟩; (refine st_bsG (xs := [.int .i64 9223372036854775807, .int .i64 (-9223372036854775808), .int .i64 2147483648, .int .i64 (-1), .int .i64 63, .int .i64 64, .int .i64 (-65), .int .i64 127, .int .i64 128, .int .i64 1099511627776]) hS rfl (by simp [Act.eval]) rfl (by decide) (by decide) (by simp [Value.cells]) ?_; clear hS; intro g1 w hS); refine WL.h ?_)
    (try simp only [Act.put, nA, nB, nC])
    refine lA rfl rfl ?_
    (try simp only [Act.put, nA, nB, nC])
    refine lZ ?_
    have hS0 : St w0 (fun k => k = g0) [blk g1 [.int .i64 9223372036854775807, .int .i64 (-9223372036854775808), .int .i64 2147483648, .int .i64 (-1), .int .i64 63, .int .i64 64, .int .i64 (-65), .int .i64 127, .int .i64 128, .int .i64 1099511627776] 3, cds g0 κ r] w := hS
    replace hS := hS0
    clear hS0
    go_upto_region 3 with (first | (go_at_call 22; refine (next_z 6 hS rfl (by omega) (by omega)).mono ?_; rintro e w ⟨rfl, hS⟩; rw [H6.out]) | (refine oL ?_; (first | refine sL1 hS rfl rfl rfl ?_ | refine sL2 hS rfl rfl rfl ?_ | refine sL3 hS rfl rfl ?_ | refine sL4 hS rfl rfl ?_ | refine sL5 hS rfl rfl ?_ | refine sL6 hS rfl rfl ?_ | refine sL7 hS rfl rfl ?_)) | ((first | (refine oC ?_; first | refine sC0 hS rfl ?_ | refine sC1 hS rfl rfl ?_ | refine sC2 hS rfl rfl ?_ | refine sC3 hS rfl rfl rfl ?_ | refine sC4 hS rfl rfl rfl ?_)); clear hS; first | ((fail_if_success guard_hyp g1); intro g1 w hS) | ((fail_if_success guard_hyp g2); intro g2 w hS) | fail) | fail)
    obtain ⟨x, hx⟩ := HV.out
    have hk10' : (k10 : Int) < 10 := by omega
    go_wp2_with (first | (go_at_call 22; refine (next_z 10 hS rfl (by omega) (by omega)).mono ?_; rintro e w ⟨rfl, hS⟩; rw [H10.out]) | (refine sL1 hS rfl rfl hx ?_) | (refine oL ?_; (first | refine sL1 hS rfl rfl rfl ?_ | refine sL2 hS rfl rfl rfl ?_ | refine sL3 hS rfl rfl ?_ | refine sL4 hS rfl rfl ?_ | refine sL5 hS rfl rfl ?_ | refine sL6 hS rfl rfl ?_ | refine sL7 hS rfl rfl ?_)) | ((first | (refine oC ?_; first | refine sC0 hS rfl ?_ | refine sC1 hS rfl rfl ?_ | refine sC2 hS rfl rfl ?_ | refine sC3 hS rfl rfl rfl ?_ | refine sC4 hS rfl rfl rfl ?_)); clear hS; first | ((fail_if_success guard_hyp g1); intro g1 w hS) | ((fail_if_success guard_hyp g2); intro g2 w hS) | fail) | fail)
    go_ret
    exact ⟨x, _, rfl, hS.codes, hS.keep⟩
  · have h5' : ¬ (k6 : Int) = 5 := by omega
    go_enter Try.func48, Try.ntmps48
    go_upto_region 1 with (first | (refine oL ?_; (first | refine sL1 hS rfl rfl rfl ?_ | refine sL2 hS rfl rfl rfl ?_ | refine sL3 hS rfl rfl ?_ | refine sL4 hS rfl rfl ?_ | refine sL5 hS rfl rfl ?_ | refine sL6 hS rfl rfl ?_ | refine sL7 hS rfl rfl ?_)) | ((first | (refine oC ?_; first | refine sC0 hS rfl ?_ | refine sC1 hS rfl rfl ?_ | refine sC2 hS rfl rfl ?_ | refine sC3 hS rfl rfl rfl ?_ | refine sC4 hS rfl rfl rfl ?_)); clear hS; first | ((fail_if_success guard_hyp g1); intro g1 w hS) | ((fail_if_success guard_hyp g2); intro g2 w hS) | fail) | fail)
    refine lR ?_
    (refine ⟨?_⟩; (refine st_bsG (xs := [.int .i64 9223372036854775807, .int .i64 (-9223372036854775808), .int .i64 2147483648, .int .i64 (-1), .int .i64 63, .int .i64 64, .int .i64 (-65), .int .i64 127, .int .i64 128, .int .i64 1099511627776]) hS rfl (by simp [Act.eval]) rfl (by decide) (by decide) (by simp [Value.cells]) ?_; clear hS; intro g1 w hS); refine WL.h ?_)
    (try simp only [Act.put, nA, nB, nC])
    refine lA rfl rfl ?_
    (try simp only [Act.put, nA, nB, nC])
    refine lZ ?_
    have hS0 : St w0 (fun k => k = g0) [blk g1 [.int .i64 9223372036854775807, .int .i64 (-9223372036854775808), .int .i64 2147483648, .int .i64 (-1), .int .i64 63, .int .i64 64, .int .i64 (-65), .int .i64 127, .int .i64 128, .int .i64 1099511627776] 3, cds g0 κ r] w := hS
    replace hS := hS0
    clear hS0
    go_upto_region 4 with (first | (go_at_call 22; refine (next_z 6 hS rfl (by omega) (by omega)).mono ?_; rintro e w ⟨rfl, hS⟩; rw [H6.out]) | (refine oL ?_; (first | refine sL1 hS rfl rfl rfl ?_ | refine sL2 hS rfl rfl rfl ?_ | refine sL3 hS rfl rfl ?_ | refine sL4 hS rfl rfl ?_ | refine sL5 hS rfl rfl ?_ | refine sL6 hS rfl rfl ?_ | refine sL7 hS rfl rfl ?_)) | ((first | (refine oC ?_; first | refine sC0 hS rfl ?_ | refine sC1 hS rfl rfl ?_ | refine sC2 hS rfl rfl ?_ | refine sC3 hS rfl rfl rfl ?_ | refine sC4 hS rfl rfl rfl ?_)); clear hS; first | ((fail_if_success guard_hyp g1); intro g1 w hS) | ((fail_if_success guard_hyp g2); intro g2 w hS) | fail) | fail)
    refine lR ?_
    refine lM rfl rfl ?_
    (try simp only [Act.put, nA, nB, nC])
    (refine ⟨?_⟩; (refine st_call rfl (by kernel_rfl) rfl ?_; go_at_call 22; refine (next_z 12 hS rfl (by omega) (by omega)).mono ?_; rintro e w ⟨rfl, hS⟩); refine WL.h ?_)
    (try simp only [Act.put, nA, nB, nC])
    refine lP rfl ?_
    (try simp only [Act.put, nA, nB, nC])
    refine lA rfl rfl ?_
    (try simp only [Act.put, nA, nB, nC])
    refine lZ ?_
    go_wp2_with (first | (refine oL ?_; (first | refine sL1 hS rfl rfl rfl ?_ | refine sL2 hS rfl rfl rfl ?_ | refine sL3 hS rfl rfl ?_ | refine sL4 hS rfl rfl ?_ | refine sL5 hS rfl rfl ?_ | refine sL6 hS rfl rfl ?_ | refine sL7 hS rfl rfl ?_)) | ((first | (refine oC ?_; first | refine sC0 hS rfl ?_ | refine sC1 hS rfl rfl ?_ | refine sC2 hS rfl rfl ?_ | refine sC3 hS rfl rfl rfl ?_ | refine sC4 hS rfl rfl rfl ?_)); clear hS; first | ((fail_if_success guard_hyp g1); intro g1 w hS) | ((fail_if_success guard_hyp g2); intro g2 w hS) | fail) | fail)
    go_ret
    exact ⟨_, _, rfl, hS.codes, hS.keep⟩
theorem cint_st {w0 w : World} {M : Nat → Prop} {cs : List (Chunk w0 M)} {f : Chunk w0 M → List (Chunk w0 M)} {g : Nat} {κ : CK} {r : List Int} (h : St w0 M cs w) [hp : PickC g cs κ r f] :
    Calls Try.prog 48 #[.pointer (some ⟨g, 0, none⟩)] w fun e w' => ∃ (x : Int) (r' : List Int), e = .returned (.int .i64 x) ∧ St w0 M (f (cds g κ r')) w' :=
  (cint_any g κ r w h.codes).mono fun e w' ⟨x, r', he, hc, hk⟩ => ⟨x, r', he, h.used (r := r) hc hk⟩
end Go.Proofs.Ytombhhhaidmpeaa
