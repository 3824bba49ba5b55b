/- All sets of at most n numbers below n (line.Sets). Condition: n is 2, 3 or 4. -/
import Derived.Test.YtombhhhaidmpeaaLineA
import Derived.Test.YtombhhhaidmpeaaGe
namespace Go.Proofs.Ytombhhhaidmpeaa
open Go.RowKit
set_option linter.unusedVariables false
set_option linter.unusedSimpArgs false
set_option linter.unusedSectionVars false

def bitsOf (n m : Nat) : List Nat := (List.range n).filter (fun i => m.testBit i)
def setsOf (n : Nat) : List (List Nat) := (List.range (2 ^ n)).map (bitsOf n)
set_option maxHeartbeats 3200000 in
theorem ones64_any (m : Nat) (w0 : World) (hm : m < 16) :
    Calls Try.prog 80 #[.int .u64 (m : Int)] w0 fun e w' => e = .returned (.int .i64 ((bitsOf 4 m).length : Int)) ∧ Ext w0 w' := by
  have hS := St.start w0 NoM
  match m, hm with
  | 0, _ | 1, _ | 2, _ | 3, _ | 4, _ | 5, _ | 6, _ | 7, _ | 8, _ | 9, _ | 10, _ | 11, _ | 12, _ | 13, _ | 14, _ | 15, _ =>
    go_enter Try.func80, Try.ntmps80
    go_wp2_with (fail)
    go_ret
    exact ⟨by kernel_rfl, hS.toExt⟩
  | m + 16, h => omega
set_option maxHeartbeats 800000 in
theorem ones_any (m : Nat) (w0 : World) (hm : m < 16) :
    Calls Try.prog 49 #[.int .u64 (m : Int)] w0 fun e w' => e = .returned (.int .i64 ((bitsOf 4 m).length : Int)) ∧ Ext w0 w' := by
  have hS := St.start w0 NoM
  go_enter Try.func49, Try.ntmps49
  go_wp2_with (first | (go_at_call 80; refine (ones64_any m _ hm).mono ?_; rintro e w ⟨rfl, hx1⟩; replace hS := hS.ext hx1) | fail)
  go_ret
  exact ⟨rfl, hS.toExt⟩
theorem ones_le {n m : Nat} (hn : n = 2 ∨ n = 3 ∨ n = 4) (hm : m < 2 ^ n) : (bitsOf 4 m).length ≤ n := by
  rcases hn with rfl | rfl | rfl
  · revert hm; revert m; decide
  · revert hm; revert m; decide
  · revert hm; revert m; decide
theorem bitsOf_lt {n m f : Nat} (h : f ∈ bitsOf n m) : f < n := List.mem_range.1 (List.mem_filter.1 h).1
theorem bitsOf_len (n m : Nat) : (bitsOf n m).length ≤ n := by have := List.length_filter_le (fun i => m.testBit i) (List.range n); simpa [bitsOf] using this
theorem bits_succ (m i : Nat) : bitsOf (i + 1) m = bitsOf i m ++ if m.testBit i = true then [i] else [] := by
  unfold bitsOf
  rw [List.range_succ, List.filter_append]
  by_cases h : m.testBit i = true <;> simp [h]
theorem sets_take {n m : Nat} (hm : m < 2 ^ n) : (setsOf n).take (m + 1) = (setsOf n).take m ++ [bitsOf n m] := by
  have hl : m < (setsOf n).length := by simpa [setsOf] using hm
  rw [List.take_succ_eq_append_getElem hl]; simp [setsOf]
abbrev natL (l : List Nat) : List Int := l.map (fun f : Nat => (f : Int))
theorem bit_val {m i : Nat} (hm : m < 16) (hi : i < 4) : bits .and .u64 ((m : Int) / 2 ^ i) 1 = if m.testBit i = true then 1 else 0 := by
  revert hi; revert i; revert hm; revert m; decide
set_option maxRecDepth 100000 in
set_option maxHeartbeats 3200000 in
theorem sets_any {S : Nat → Prop} (n : Nat) (w0 : World) (hn : n = 2 ∨ n = 3 ∨ n = 4) :
    Calls Try.prog 29 #[.int .i64 (n : Int), .int .i64 (n : Int)] w0 (RetRR S w0 ((setsOf n).map natL)) := by
  have hS := St.start w0 NoM
  have HN := Lib.hid hn
  have hn4 : n ≤ 4 := by omega
  have hn2 : 2 ≤ n := by omega
  have hN16 : 2 ^ n ≤ 16 := by rcases hn with rfl | rfl | rfl <;> decide
  have hw : IntKind.u64.wrap ((2 : Int) ^ n) = ((2 ^ n : Nat) : Int) := by rcases hn with rfl | rfl | rfl <;> rfl
  have HT := Lib.hid (fun m => sets_take (n := n) (m := m))
  have HL := Lib.hid (fun m => ones_le (n := n) (m := m) hn)
  have HSL := Lib.hid (show ((setsOf n).map natL).length = 2 ^ n by simp [setsOf])
  clear hn
  generalize 2 ^ n = N at *
  go_enter Try.func29, Try.ntmps29
  go_wp2_with (first | (refine oP ?_; ((first | refine sP1 hS rfl rfl rfl ?_ | refine sP2 hS rfl rfl rfl ?_ | refine sP3 hS rfl rfl rfl ?_); clear hS; first | ((fail_if_success guard_hyp L1); intro L1 cl1 w hL1 hM1 hS) | ((fail_if_success guard_hyp L2); intro L2 cl2 w hL2 hM2 hS) | ((fail_if_success guard_hyp L3); intro L3 cl3 w hL3 hM3 hS) | fail)) | ((first | (refine oC ?_; first | refine sC0 hS rfl ?_ | refine sC1 hS rfl rfl ?_ | refine sC2 hS rfl rfl ?_ | refine sC3 hS rfl rfl rfl ?_ | refine sC4 hS rfl rfl rfl ?_)); clear hS; first | ((fail_if_success guard_hyp g1); intro g1 w hS) | ((fail_if_success guard_hyp g2); intro g2 w hS) | ((fail_if_success guard_hyp g3); intro g3 w hS) | fail) | fail)
  clear hw
  replace hS := (hS.addNil 24 1).frozNil
  go_loopw [5, 6, 7, 8, 21] (fun s5 s6 s7 s8 s21 wr => ∃ (m k : Nat) (L : Option Addr) (vs : List Value) (T : Nat → Prop) (u : World), m ≤ N ∧ capOk m k ∧ s21 = .int .u64 m ∧ s5 = .slice L m k ∧ Hid (Reps (repRow T u) 1 vs (((setsOf n).map natL).take m)) ∧ St w0 NoM [froz T u, row (.slice L m k) 24 1 m vs] wr) (fun _ _ _ _ s21 _ => N - (intOf s21).toNat)
  case atStart => exact ⟨0, 0, none, [], _, _, by omega, by simp [capOk], rfl, rfl, Lib.hid rfl, hS⟩
  case round =>
    clear hS
    obtain ⟨m, k, L, vs, T1, u1, hm, hk, rfl, rfl, HV, hS⟩ := hrel
    by_cases hlt : m < N
    · have hlt' : (m : Int) < N := by omega
      have hm16 : m < 16 := by omega
      have hle := HL.out m hlt
      have HTM := Lib.hid (HT.out m hlt)
      have hle' : ((bitsOf 4 m).length : Int) ≤ n := by omega
      clear hle
      generalize hpc : ((bitsOf 4 m).length : Int) = pc at *
      have HPC := Lib.hid hpc
      clear hpc
      have dpc : ¬ (n : Int) < pc := by omega
      go_wp2_with (first | (go_at_call 49; refine (ones_any m _ hm16).mono ?_; rintro e w ⟨rfl, hx1⟩; replace hS := hS.ext hx1; rw [HPC.out]) | (refine oP ?_; ((first | refine sP1 hS rfl rfl rfl ?_ | refine sP2 hS rfl rfl rfl ?_ | refine sP3 hS rfl rfl rfl ?_); clear hS; first | ((fail_if_success guard_hyp L1); intro L1 cl1 w hL1 hM1 hS) | ((fail_if_success guard_hyp L2); intro L2 cl2 w hL2 hM2 hS) | ((fail_if_success guard_hyp L3); intro L3 cl3 w hL3 hM3 hS) | fail)) | ((first | (refine oC ?_; first | refine sC0 hS rfl ?_ | refine sC1 hS rfl rfl ?_ | refine sC2 hS rfl rfl ?_ | refine sC3 hS rfl rfl rfl ?_ | refine sC4 hS rfl rfl rfl ?_)); clear hS; first | ((fail_if_success guard_hyp g1); intro g1 w hS) | ((fail_if_success guard_hyp g2); intro g2 w hS) | ((fail_if_success guard_hyp g3); intro g3 w hS) | fail) | fail)
      clear dpc
      replace hS := hS.addNil 3 1
      go_loopw [7, 8, 29] (fun s7 s8 s29 wr => ∃ (i : Nat) (Lx : Option Addr) (cx : Nat), i ≤ n ∧ capOk (bitsOf i m).length cx ∧ s29 = .int .i64 i ∧ s7 = .slice Lx (bitsOf i m).length cx ∧ St w0 NoM [row (.slice Lx (bitsOf i m).length cx) 3 1 (bitsOf i m).length (ints (natL (bitsOf i m))), froz T1 u1, row (.slice L m k) 24 1 m vs] wr) (fun _ _ s29 _ => n - (intOf s29).toNat)
      case atStart => exact ⟨0, none, 0, by omega, by simp [capOk, bitsOf], rfl, rfl, hS⟩
      case round =>
        clear hS
        obtain ⟨i, Lx, cx, hi, hcx, rfl, rfl, hS⟩ := hrel
        by_cases hil : i < n
        · have hil' : (i : Int) < n := by omega
          have hbl := bitsOf_len i m
          have HB := Lib.hid (bits_succ m i)
          have hbv := bit_val hm16 (show i < 4 by omega)
          by_cases hb : m.testBit i = true
          · rw [if_pos hb] at hbv
            rw [if_pos hb] at HB
            have HE := Lib.hid (show (bitsOf (i + 1) m).length = (bitsOf i m).length + 1 ∧ ints (natL (bitsOf (i + 1) m)) = ints (natL (bitsOf i m)) ++ [.int .i64 (i : Int)] by rw [HB.out]; simp [natL, ints])
            generalize bitsOf i m = xs at *
            clear hb
            go_wp2_with (first | (refine oP ?_; ((first | refine sP1 hS rfl rfl rfl ?_ | refine sP2 hS rfl rfl rfl ?_ | refine sP3 hS rfl rfl rfl ?_); clear hS; first | ((fail_if_success guard_hyp L1); intro L1 cl1 w hL1 hM1 hS) | ((fail_if_success guard_hyp L2); intro L2 cl2 w hL2 hM2 hS) | ((fail_if_success guard_hyp L3); intro L3 cl3 w hL3 hM3 hS) | fail)) | ((first | (refine oC ?_; first | refine sC0 hS rfl ?_ | refine sC1 hS rfl rfl ?_ | refine sC2 hS rfl rfl ?_ | refine sC3 hS rfl rfl rfl ?_ | refine sC4 hS rfl rfl rfl ?_)); clear hS; first | ((fail_if_success guard_hyp g1); intro g1 w hS) | ((fail_if_success guard_hyp g2); intro g2 w hS) | ((fail_if_success guard_hyp g3); intro g3 w hS) | fail) | fail)
            go_roundw
            case measure => simp [intOf]; omega
            refine ⟨i + 1, L1, cl1, by omega, ⟨by rw [HE.out.1]; exact hL1, hM1⟩, by go_num, by rw [HE.out.1], ?_⟩
            rw [HE.out.1, HE.out.2]
            exact hS
          · rw [if_neg hb] at hbv
            rw [if_neg hb, List.append_nil] at HB
            clear hb
            go_wp2_with (first | (refine oP ?_; ((first | refine sP1 hS rfl rfl rfl ?_ | refine sP2 hS rfl rfl rfl ?_ | refine sP3 hS rfl rfl rfl ?_); clear hS; first | ((fail_if_success guard_hyp L1); intro L1 cl1 w hL1 hM1 hS) | ((fail_if_success guard_hyp L2); intro L2 cl2 w hL2 hM2 hS) | ((fail_if_success guard_hyp L3); intro L3 cl3 w hL3 hM3 hS) | fail)) | ((first | (refine oC ?_; first | refine sC0 hS rfl ?_ | refine sC1 hS rfl rfl ?_ | refine sC2 hS rfl rfl ?_ | refine sC3 hS rfl rfl rfl ?_ | refine sC4 hS rfl rfl rfl ?_)); clear hS; first | ((fail_if_success guard_hyp g1); intro g1 w hS) | ((fail_if_success guard_hyp g2); intro g2 w hS) | ((fail_if_success guard_hyp g3); intro g3 w hS) | fail) | fail)
            go_roundw
            case measure => simp [intOf]; omega
            refine ⟨i + 1, Lx, cx, by omega, by rw [HB.out]; exact hcx, by go_num, by rw [HB.out], ?_⟩
            rw [HB.out]
            exact hS
        · have e : i = n := by omega
          subst e
          have hil' : ¬ (i : Int) < i := by omega
          go_wp2_with (first | (refine oP ?_; ((first | refine sP1 hS rfl rfl rfl ?_ | refine sP2 hS rfl rfl rfl ?_ | refine sP3 hS rfl rfl rfl ?_); clear hS; first | ((fail_if_success guard_hyp L1); intro L1 cl1 w hL1 hM1 hS) | ((fail_if_success guard_hyp L2); intro L2 cl2 w hL2 hM2 hS) | ((fail_if_success guard_hyp L3); intro L3 cl3 w hL3 hM3 hS) | fail)) | ((first | (refine oC ?_; first | refine sC0 hS rfl ?_ | refine sC1 hS rfl rfl ?_ | refine sC2 hS rfl rfl ?_ | refine sC3 hS rfl rfl rfl ?_ | refine sC4 hS rfl rfl rfl ?_)); clear hS; first | ((fail_if_success guard_hyp g1); intro g1 w hS) | ((fail_if_success guard_hyp g2); intro g2 w hS) | ((fail_if_success guard_hyp g3); intro g3 w hS) | fail) | fail)
          obtain ⟨T2, hS2, _, hr2⟩ := St.rowInN hS HV.out (by simp) hcx
          go_roundw
          case measure => simp [intOf]; omega
          exact ⟨m + 1, _, _, _, T2, _, by omega, ⟨hL1, hM1⟩, by go_num, by first | rfl | simp, Lib.hid (by rw [← List.map_take, HTM.out, List.map_append, List.map_take]; exact hr2), hS2.re⟩
    · have e : m = N := by omega
      subst e
      have hlt' : ¬ (m : Int) < m := by omega
      go_wp2_with (first | (refine oP ?_; ((first | refine sP1 hS rfl rfl rfl ?_ | refine sP2 hS rfl rfl rfl ?_ | refine sP3 hS rfl rfl rfl ?_); clear hS; first | ((fail_if_success guard_hyp L1); intro L1 cl1 w hL1 hM1 hS) | ((fail_if_success guard_hyp L2); intro L2 cl2 w hL2 hM2 hS) | ((fail_if_success guard_hyp L3); intro L3 cl3 w hL3 hM3 hS) | fail)) | ((first | (refine oC ?_; first | refine sC0 hS rfl ?_ | refine sC1 hS rfl rfl ?_ | refine sC2 hS rfl rfl ?_ | refine sC3 hS rfl rfl rfl ?_ | refine sC4 hS rfl rfl rfl ?_)); clear hS; first | ((fail_if_success guard_hyp g1); intro g1 w hS) | ((fail_if_success guard_hyp g2); intro g2 w hS) | ((fail_if_success guard_hyp g3); intro g3 w hS) | fail) | fail)
      go_ret
      have hrr : RR (Orn S w0) wr L ((setsOf n).map natL) := ⟨vs, hS.rvNew, by have h1 := HV.out; rw [List.take_of_length_le (by rw [HSL.out]; exact Nat.le_refl _)] at h1; exact h1.mono (repRow.into hS.frozOrn)⟩
      exact ⟨L, k, by rw [HSL.out]; rfl, by rw [HSL.out]; exact hk.1, hk.2, hrr, hS.toExt⟩
end Go.Proofs.Ytombhhhaidmpeaa
