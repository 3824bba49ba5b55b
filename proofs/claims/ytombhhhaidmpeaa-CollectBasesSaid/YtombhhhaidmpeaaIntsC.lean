/- Choices: a number, some numbers (rollbacknetmake.Codes.Int, Ints). Condition: the choices lie in memory. -/
import Derived.Test.YtombhhhaidmpeaaGe
import Derived.Test.YtombhhhaidmpeaaGc
import Derived.Test.YtombhhhaidmpeaaOwnQ
namespace Go.Proofs.Ytombhhhaidmpeaa
open Go.RowKit
set_option linter.unusedVariables false
set_option linter.unusedSimpArgs false
set_option linter.unusedSectionVars false

/-- the great numbers -/
def bigs : List Int := [9223372036854775807, -9223372036854775808, 2147483648, -1, 63, 64, -65, 127, 128, 1099511627776]
set_option maxRecDepth 100000 in
set_option maxHeartbeats 3200000 in
theorem int_any (g0 : Nat) (κ : CK) (r : List Int) (w0 : World) (hc : CdsAt w0 g0 κ r) :
    Calls Try.prog 48 #[.pointer (some ⟨g0, 0, none⟩)] w0 fun e w' => ∃ z r', e = .returned (.int .i64 z) ∧ CdsAt w' g0 κ r' ∧ Keep (fun k => k ≠ g0) w0 w' := by
  have hS := St.startC hc
  clear hc
  go_enter Try.func48, Try.ntmps48
  go_wp2_with (first | (refine oC ?_; refine st_bsG (xs := [.int .i64 9223372036854775807, .int .i64 (-9223372036854775808), .int .i64 2147483648, .int .i64 (-1), .int .i64 63, .int .i64 64, .int .i64 (-65), .int .i64 127, .int .i64 128, .int .i64 1099511627776]) hS rfl (by simp [Act.eval]) rfl (by decide) (by decide) (by simp [Value.cells]) ?_; clear hS; intro g1 w hS) | (refine oL ?_; (first | refine sL1 hS rfl rfl rfl ?_ | refine sL2 hS rfl rfl rfl ?_ | refine sL3 hS rfl rfl ?_ | refine sL4 hS rfl rfl ?_ | refine sL5 hS rfl rfl ?_ | refine sL6 hS rfl rfl ?_ | refine sL7 hS rfl rfl ?_)) | ((first | (refine oC ?_; first | refine sC0 hS rfl ?_ | refine sC1 hS rfl rfl ?_ | refine sC2 hS rfl rfl ?_ | refine sC3 hS rfl rfl rfl ?_ | refine sC4 hS rfl rfl rfl ?_)); clear hS; first | ((fail_if_success guard_hyp g1); intro g1 w hS) | ((fail_if_success guard_hyp g2); intro g2 w hS) | fail) | fail)
  refine (next_z 6 hS rfl (by omega) (by omega)).mono ?_
  rintro e w ⟨rfl, hS1⟩
  replace hS := hS1
  clear hS1
  have h6 := nxt_lt r (n := 6) (by omega)
  generalize nxt r 6 = m at *
  by_cases hm : m = 5
  · subst hm
    have h10 := nxt_lt r.tail (n := 10) (by omega)
    replace hS : St w0 (fun k => k = g0) [blk g1 (ints bigs) 3, cds g0 κ r.tail] w := hS
    go_wp2_with (first | (refine oL ?_; (first | refine sL1 hS rfl rfl rfl ?_ | refine sL2 hS rfl rfl rfl ?_ | refine sL3 hS rfl rfl ?_ | refine sL4 hS rfl rfl ?_ | refine sL5 hS rfl rfl ?_ | refine sL6 hS rfl rfl ?_ | refine sL7 hS rfl rfl ?_)) | ((first | (refine oC ?_; first | refine sC0 hS rfl ?_ | refine sC1 hS rfl rfl ?_ | refine sC2 hS rfl rfl ?_ | refine sC3 hS rfl rfl rfl ?_ | refine sC4 hS rfl rfl rfl ?_)); clear hS; first | ((fail_if_success guard_hyp g1); intro g1 w hS) | ((fail_if_success guard_hyp g2); intro g2 w hS) | fail) | fail)
    refine (next_z 10 hS rfl (by omega) (by omega)).mono ?_
    rintro e w ⟨rfl, hS1⟩
    replace hS := hS1
    clear hS1
    generalize nxt r.tail 10 = x at *
    obtain ⟨z, hz⟩ : ∃ z, (ints bigs)[x]? = some (.int .i64 z) := ⟨_, ints_get (xs := bigs) (k := x) h10⟩
    have hx10 : (x : Int) < 10 := by omega
    go_wp2_with (first | (refine oL ?_; refine st_ld hS rfl rfl hz ?_) | (refine oL ?_; (first | refine sL1 hS rfl rfl rfl ?_ | refine sL2 hS rfl rfl rfl ?_ | refine sL3 hS rfl rfl ?_ | refine sL4 hS rfl rfl ?_ | refine sL5 hS rfl rfl ?_ | refine sL6 hS rfl rfl ?_ | refine sL7 hS rfl rfl ?_)) | ((first | (refine oC ?_; first | refine sC0 hS rfl ?_ | refine sC1 hS rfl rfl ?_ | refine sC2 hS rfl rfl ?_ | refine sC3 hS rfl rfl rfl ?_ | refine sC4 hS rfl rfl rfl ?_)); clear hS; first | ((fail_if_success guard_hyp g1); intro g1 w hS) | ((fail_if_success guard_hyp g2); intro g2 w hS) | fail) | fail)
    go_ret
    exact ⟨_, _, rfl, hS.codes, hS.keep⟩
  · have db : ((m : Int) == 5) = false := by simp; omega
    go_wp2_with (first | (refine oL ?_; (first | refine sL1 hS rfl rfl rfl ?_ | refine sL2 hS rfl rfl rfl ?_ | refine sL3 hS rfl rfl ?_ | refine sL4 hS rfl rfl ?_ | refine sL5 hS rfl rfl ?_ | refine sL6 hS rfl rfl ?_ | refine sL7 hS rfl rfl ?_)) | ((first | (refine oC ?_; first | refine sC0 hS rfl ?_ | refine sC1 hS rfl rfl ?_ | refine sC2 hS rfl rfl ?_ | refine sC3 hS rfl rfl rfl ?_ | refine sC4 hS rfl rfl rfl ?_)); clear hS; first | ((fail_if_success guard_hyp g1); intro g1 w hS) | ((fail_if_success guard_hyp g2); intro g2 w hS) | fail) | fail)
    refine (next_z 12 hS rfl (by omega) (by omega)).mono ?_
    rintro e w ⟨rfl, hS1⟩
    replace hS := hS1
    clear hS1
    have h12 := nxt_lt r.tail (n := 12) (by omega)
    generalize nxt r.tail 12 = x at *
    go_wp2_with (first | (refine oL ?_; (first | refine sL1 hS rfl rfl rfl ?_ | refine sL2 hS rfl rfl rfl ?_ | refine sL3 hS rfl rfl ?_ | refine sL4 hS rfl rfl ?_ | refine sL5 hS rfl rfl ?_ | refine sL6 hS rfl rfl ?_ | refine sL7 hS rfl rfl ?_)) | ((first | (refine oC ?_; first | refine sC0 hS rfl ?_ | refine sC1 hS rfl rfl ?_ | refine sC2 hS rfl rfl ?_ | refine sC3 hS rfl rfl rfl ?_ | refine sC4 hS rfl rfl rfl ?_)); clear hS; first | ((fail_if_success guard_hyp g1); intro g1 w hS) | ((fail_if_success guard_hyp g2); intro g2 w hS) | fail) | fail)
    go_ret
    exact ⟨_, _, rfl, hS.codes, hS.keep⟩
theorem int_st {w0 w : World} {M : Nat → Prop} {cs : List (Chunk w0 M)} {f : Chunk w0 M → List (Chunk w0 M)} {g : Nat} {κ : CK} {r : List Int} (h : St w0 M cs w) [hp : PickC g cs κ r f] :
    Calls Try.prog 48 #[.pointer (some ⟨g, 0, none⟩)] w fun e w' => ∃ z r', e = .returned (.int .i64 z) ∧ St w0 M (f (cds g κ r')) w' := by
  refine (int_any g κ r w (h.codes (g := g) (κ := κ) (r := r) (f := f))).mono ?_
  rintro e w' ⟨z, r', rfl, hc, hk⟩
  exact ⟨z, r', rfl, h.used (r := r) hc hk⟩
/-- some numbers are returned -/
def RetIntsC (w0 : World) (g0 : Nat) (κ : CK) (m : Nat) (e : Ending) (w' : World) : Prop := ∃ L c xs r', e = .returned (.slice L xs.length c) ∧ xs.length ≤ m ∧ w'.ownsRow w0.heap.size 3 1 (.slice L xs.length c) xs.length (ints xs) ∧ CdsAt w' g0 κ r' ∧ Keep (fun k => k ≠ g0) w0 w'
set_option maxRecDepth 100000 in
set_option maxHeartbeats 3200000 in
theorem intsC_any (g0 : Nat) (κ : CK) (r : List Int) (m : Nat) (w0 : World) (hc : CdsAt w0 g0 κ r) (hm : m ≤ 100) :
    Calls Try.prog 23 #[.pointer (some ⟨g0, 0, none⟩), .int .i64 (m : Int)] w0 (RetIntsC w0 g0 κ m) := by
  have hS := St.startC hc
  clear hc
  go_enter Try.func23, Try.ntmps23
  go_wp2_with (first | (refine oP ?_; ((first | refine sP1 hS rfl rfl rfl ?_ | refine sP2 hS rfl rfl rfl ?_ | refine sP3 hS rfl rfl rfl ?_); clear hS; first | ((fail_if_success guard_hyp L1); intro L1 cl1 w hL1 hM1 hS) | ((fail_if_success guard_hyp L2); intro L2 cl2 w hL2 hM2 hS) | fail)) | ((first | (refine oC ?_; first | refine sC0 hS rfl ?_ | refine sC1 hS rfl rfl ?_ | refine sC2 hS rfl rfl ?_ | refine sC3 hS rfl rfl rfl ?_ | refine sC4 hS rfl rfl rfl ?_)); clear hS; first | ((fail_if_success guard_hyp g1); intro g1 w hS) | ((fail_if_success guard_hyp g2); intro g2 w hS) | fail) | fail)
  refine (next_z (m + 1) hS (by omega) (by omega) (by omega)).mono ?_
  rintro e w ⟨rfl, hS1⟩
  replace hS := hS1
  clear hS1
  have hnl := nxt_lt r (n := m + 1) (by omega)
  generalize nxt r (m + 1) = n0 at *
  go_wp2_with (first | (refine oP ?_; ((first | refine sP1 hS rfl rfl rfl ?_ | refine sP2 hS rfl rfl rfl ?_ | refine sP3 hS rfl rfl rfl ?_); clear hS; first | ((fail_if_success guard_hyp L1); intro L1 cl1 w hL1 hM1 hS) | ((fail_if_success guard_hyp L2); intro L2 cl2 w hL2 hM2 hS) | fail)) | ((first | (refine oC ?_; first | refine sC0 hS rfl ?_ | refine sC1 hS rfl rfl ?_ | refine sC2 hS rfl rfl ?_ | refine sC3 hS rfl rfl rfl ?_ | refine sC4 hS rfl rfl rfl ?_)); clear hS; first | ((fail_if_success guard_hyp g1); intro g1 w hS) | ((fail_if_success guard_hyp g2); intro g2 w hS) | fail) | fail)
  replace hS := hS.addNil 3 1
  go_loopw [5, 6] (fun s5 s6 wr => ∃ (n : Nat) (L : Option Addr) (c : Nat) (xs r' : List Int), n + xs.length ≤ n0 ∧ capOk xs.length c ∧ s6 = .int .i64 n ∧ s5 = .slice L xs.length c ∧ St w0 (fun k => k = g0) [irow 3 L c xs, cds g0 κ r'] wr) (fun _ s6 _ => (intOf s6).toNat)
  case atStart => exact ⟨n0, none, 0, [], _, by simp, by simp [capOk], rfl, rfl, hS⟩
  case round =>
    clear hS
    obtain ⟨n, L, c, xs, r', hn, hcc, rfl, rfl, hS⟩ := hrel
    by_cases hn0 : 0 < n
    · have hn0' : (0 : Int) < n := by omega
      go_wp2_with (first | (go_at_call 48; refine (int_st hS).mono ?_; rintro e w ⟨z, r2, rfl, hS1⟩; replace hS := hS1; clear hS1) | (refine oP ?_; ((first | refine sP1 hS rfl rfl rfl ?_ | refine sP2 hS rfl rfl rfl ?_ | refine sP3 hS rfl rfl rfl ?_); clear hS; first | ((fail_if_success guard_hyp L1); intro L1 cl1 w hL1 hM1 hS) | ((fail_if_success guard_hyp L2); intro L2 cl2 w hL2 hM2 hS) | fail)) | ((first | (refine oC ?_; first | refine sC0 hS rfl ?_ | refine sC1 hS rfl rfl ?_ | refine sC2 hS rfl rfl ?_ | refine sC3 hS rfl rfl rfl ?_ | refine sC4 hS rfl rfl rfl ?_)); clear hS; first | ((fail_if_success guard_hyp g1); intro g1 w hS) | ((fail_if_success guard_hyp g2); intro g2 w hS) | fail) | fail)
      go_roundw
      case measure => simp [intOf]; omega
      exact ⟨n - 1, L1, cl1, xs ++ [z], r2, by simp; omega, ⟨by simpa using hL1, hM1⟩, by simp; omega, by first | rfl | simp, hS⟩
    · have hn0' : ¬ (0 : Int) < n := by omega
      go_wp2_with (first | (refine oP ?_; ((first | refine sP1 hS rfl rfl rfl ?_ | refine sP2 hS rfl rfl rfl ?_ | refine sP3 hS rfl rfl rfl ?_); clear hS; first | ((fail_if_success guard_hyp L1); intro L1 cl1 w hL1 hM1 hS) | ((fail_if_success guard_hyp L2); intro L2 cl2 w hL2 hM2 hS) | fail)) | ((first | (refine oC ?_; first | refine sC0 hS rfl ?_ | refine sC1 hS rfl rfl ?_ | refine sC2 hS rfl rfl ?_ | refine sC3 hS rfl rfl rfl ?_ | refine sC4 hS rfl rfl rfl ?_)); clear hS; first | ((fail_if_success guard_hyp g1); intro g1 w hS) | ((fail_if_success guard_hyp g2); intro g2 w hS) | fail) | fail)
      go_ret
      refine ⟨L, c, xs, r', rfl, by omega, ?_, hS.codes, hS.keep⟩
      have hnew := hS.newC (κ := κ) (r := r') (irow 3 L c xs)
      exact own_rebase hS.rowOk (fun k hk => hnew k hk)
theorem intsC_st {w0 w : World} {M : Nat → Prop} {cs : List (Chunk w0 M)} {f : Chunk w0 M → List (Chunk w0 M)} {g : Nat} {κ : CK} {r : List Int} {z : Int} (m : Nat) (h : St w0 M cs w) [hp : PickC g cs κ r f] (hz : z = m) (hm : m ≤ 100) :
    Calls Try.prog 23 #[.pointer (some ⟨g, 0, none⟩), .int .i64 z] w fun e w' => ∃ L c xs r', xs.length ≤ m ∧ e = .returned (.slice L xs.length c) ∧ St w0 M (row (.slice L xs.length c) 3 1 xs.length (ints xs) :: f (cds g κ r')) w' := by
  subst hz
  refine (intsC_any g κ r m w (h.codes (g := g) (κ := κ) (r := r) (f := f)) hm).mono ?_
  rintro e w' ⟨L, c, xs, r', rfl, hl, ho, hc, hk⟩
  exact ⟨L, c, xs, r', hl, rfl, h.usedAdd (r := r) hc hk (d := row (.slice L xs.length c) 3 1 xs.length (ints xs)) (own_base ho (Nat.zero_le _)) (fun k e => own_block ho k e)⟩
end Go.Proofs.Ytombhhhaidmpeaa
