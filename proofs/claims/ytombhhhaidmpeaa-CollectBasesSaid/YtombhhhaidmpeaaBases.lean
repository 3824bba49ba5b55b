/- collect.Bases, collect.Most. Conditions: the lists lie in memory. -/
import Derived.Test.YtombhhhaidmpeaaNeed
import Derived.Test.YtombhhhaidmpeaaSameI
namespace Go.Proofs.Ytombhhhaidmpeaa
open Go.RowKit
set_option linter.unusedVariables false
set_option linter.unusedSimpArgs false
set_option linter.unusedSectionVars false

/-- how many checkpoints are needed at most -/
def mostN (n : Int) : Int := if n < 0 ∨ 5 < n then 0 else n * (n + 1) / 2
set_option maxHeartbeats 1600000 in
theorem most36_any (n : Int) (w0 : World) : Calls Try.prog 17 #[.int .i64 n] w0 fun e w' => e = .returned (.int .i64 (mostN n)) ∧ Ext w0 w' := by
  have hS := St.start w0 NoM
  by_cases h0 : n < 0
  · have d0 : decide (n < 0) = true := decide_eq_true h0
    have HM := Lib.hid (show mostN n = 0 by rw [mostN, if_pos (.inl h0)])
    go_enter Try.func17, Try.ntmps17
    go_wp2_with (fail)
    go_ret
    rw [HM.out]
    exact ⟨rfl, hS.toExt⟩
  · by_cases h5 : 5 < n
    · have HM := Lib.hid (show mostN n = 0 by rw [mostN, if_pos (.inr h5)])
      go_enter Try.func17, Try.ntmps17
      go_wp2_with (fail)
      go_ret
      rw [HM.out]
      exact ⟨rfl, hS.toExt⟩
    · obtain ⟨k, rfl⟩ : ∃ k : Nat, n = k := ⟨n.toNat, by omega⟩
      match k, h5 with
      | 0, _ | 1, _ | 2, _ | 3, _ | 4, _ | 5, _ =>
        clear h0
        go_enter Try.func17, Try.ntmps17
        go_wp2_with (fail)
        go_ret
        exact ⟨rfl, hS.toExt⟩
      | k + 6, h => omega
set_option maxHeartbeats 1600000 in
theorem rmost36_any (n : Int) (w0 : World) : Calls Try.prog 18 #[.int .i64 n] w0 fun e w' => e = .returned (.int .i64 (mostN n)) ∧ Ext w0 w' := by
  have hS := St.start w0 NoM
  by_cases h0 : n < 0
  · have d0 : decide (n < 0) = true := decide_eq_true h0
    have HM := Lib.hid (show mostN n = 0 by rw [mostN, if_pos (.inl h0)])
    go_enter Try.func18, Try.ntmps18
    go_wp2_with (fail)
    go_ret
    rw [HM.out]
    exact ⟨rfl, hS.toExt⟩
  · by_cases h5 : 5 < n
    · have HM := Lib.hid (show mostN n = 0 by rw [mostN, if_pos (.inr h5)])
      go_enter Try.func18, Try.ntmps18
      go_wp2_with (fail)
      go_ret
      rw [HM.out]
      exact ⟨rfl, hS.toExt⟩
    · obtain ⟨k, rfl⟩ : ∃ k : Nat, n = k := ⟨n.toNat, by omega⟩
      match k, h5 with
      | 0, _ | 1, _ | 2, _ | 3, _ | 4, _ | 5, _ =>
        clear h0
        go_enter Try.func18, Try.ntmps18
        go_wp2_with (fail)
        go_ret
        exact ⟨rfl, hS.toExt⟩
      | k + 6, h => omega
/-- the last checkpoint below a cut -/
def baseOf (cut : List Int) (q : Nat) (l : List Int) : Int := if q < cut.length then (bel l (nth cut q)).getD (-1) else -1
def basesL (ls : List (List Int)) (cut : List Int) : List Int := (List.range ls.length).map fun q => baseOf cut q (rowOf ls q)
theorem basesL_len (ls : List (List Int)) (cut : List Int) : (basesL ls cut).length = ls.length := by simp [basesL]
theorem basesL_take {ls : List (List Int)} {cut : List Int} {q : Nat} (hq : q < ls.length) : (basesL ls cut).take (q + 1) = (basesL ls cut).take q ++ [baseOf cut q (rowOf ls q)] := by
  rw [List.take_succ_eq_append_getElem (by rw [basesL_len]; exact hq)]
  simp [basesL]
/-- what a round of the loop does to the base -/
theorem belS_val {m k b : Int} {acc : Option Int} : belS m acc k = (if k ≤ m then (if acc.isSome = false ∨ acc.getD (-1) < k then some k else acc) else acc) := by
  cases acc with
  | none => simp [belS]
  | some b =>
    by_cases h1 : k ≤ m <;> by_cases h2 : b < k <;> simp [belS, h1, h2]
set_option maxRecDepth 100000 in
set_option maxHeartbeats 6400000 in
theorem bases_any {S T : Nat → Prop} (A X : Option Addr) (cA cX n m : Nat) (ls : List (List Int)) (cut : List Int) (w0 : World) (hal : RR S w0 A ls) (hx : RI T w0 X cut) (hn : ls.length = n) (hm : cut.length = m) (hn1 : n ≤ 1000) (hm1 : m ≤ 9223372036854775807) (hrl : ∀ l ∈ ls, l.length ≤ 1000) :
    Calls Try.prog 25 #[.slice A n cA, .slice X m cX] w0 (RetRow w0 3 1 n (ints (basesL ls cut))) := by
  have hS := St.start w0 NoM
  subst hn hm
  have HR := Lib.hid hrl
  clear hrl
  go_enter Try.func25, Try.ntmps25
  go_wp2_with (first | (refine oL ?_; (first | refine sL1 hS rfl rfl rfl ?_ | refine sL2 hS rfl rfl rfl ?_ | refine sL3 hS rfl rfl ?_ | refine sL4 hS rfl rfl ?_ | refine sL5 hS rfl rfl ?_ | refine sL6 hS rfl rfl ?_ | refine sL7 hS rfl rfl ?_)) | (refine oP ?_; ((first | refine sP1 hS rfl rfl rfl ?_ | refine sP2 hS rfl rfl rfl ?_ | refine sP3 hS rfl rfl rfl ?_); clear hS; first | ((fail_if_success guard_hyp L1); intro L1 cl1 w hL1 hM1 hS) | ((fail_if_success guard_hyp L2); intro L2 cl2 w hL2 hM2 hS) | fail)) | ((first | (refine oC ?_; first | refine sC0 hS rfl ?_ | refine sC1 hS rfl rfl ?_ | refine sC2 hS rfl rfl ?_ | refine sC3 hS rfl rfl rfl ?_ | refine sC4 hS rfl rfl rfl ?_)); clear hS; first | ((fail_if_success guard_hyp g1); intro g1 w hS) | ((fail_if_success guard_hyp g2); intro g2 w hS) | fail) | fail)
  replace hS := hS.addNil 3 1
  go_loopw [5, 6, 7, 8, 9, 11, 14] (fun s5 s6 s7 s8 s9 s11 s14 wr => ∃ (q c : Nat) (L : Option Addr), q ≤ ls.length ∧ s14 = .int .i64 q ∧ s5 = .slice L q c ∧ St w0 NoM [row (.slice L q c) 3 1 q (ints ((basesL ls cut).take q))] wr) (fun _ _ _ _ _ _ s14 _ => ls.length - (intOf s14).toNat)
  case atStart => exact ⟨0, 0, none, by omega, rfl, rfl, hS⟩
  case round =>
    clear hS
    obtain ⟨q, c, L, hq, rfl, rfl, hS⟩ := hrel
    by_cases hlt : q < ls.length
    · have hlt' : (q : Int) < ls.length := by omega
      obtain ⟨b2, o2, B, cB, rfl, hfc, hB, hcB, hcB'⟩ := hal.fc hlt
      have hcc := hfc.c
      have hrl : (rowOf ls q).length ≤ 1000 := by rw [rowOf_eq hlt]; exact HR.out _ (List.getElem_mem hlt)
      have HT := Lib.hid (basesL_take (cut := cut) hlt)
      have HTL := Lib.hid (show ((basesL ls cut).take q).length = q by rw [List.length_take, basesL_len]; omega)
      have HBO := Lib.hid (show baseOf cut q (rowOf ls q) = if q < cut.length then (bel (rowOf ls q) (nth cut q)).getD (-1) else -1 from rfl)
      clear hfc
      generalize rowOf ls q = l at *
      generalize (basesL ls cut).take q = xs at *
      by_cases hqc : q < cut.length
      · have hqc' : (q : Int) < cut.length := by omega
        obtain ⟨b1, o1, rfl, _, hc1⟩ := hx.atNS hqc
        rw [if_pos hqc] at HBO
        generalize nth cut q = m at *
        go_wp2_with (first | (refine oL ?_; (first | refine sL1 hS rfl rfl rfl ?_ | refine sL2 hS rfl rfl rfl ?_ | refine sL3 hS rfl rfl ?_ | refine sL4 hS rfl rfl ?_ | refine sL5 hS rfl rfl ?_ | refine sL6 hS rfl rfl ?_ | refine sL7 hS rfl rfl ?_)) | (refine oP ?_; ((first | refine sP1 hS rfl rfl rfl ?_ | refine sP2 hS rfl rfl rfl ?_ | refine sP3 hS rfl rfl rfl ?_); clear hS; first | ((fail_if_success guard_hyp L1); intro L1 cl1 w hL1 hM1 hS) | ((fail_if_success guard_hyp L2); intro L2 cl2 w hL2 hM2 hS) | fail)) | ((first | (refine oC ?_; first | refine sC0 hS rfl ?_ | refine sC1 hS rfl rfl ?_ | refine sC2 hS rfl rfl ?_ | refine sC3 hS rfl rfl rfl ?_ | refine sC4 hS rfl rfl rfl ?_)); clear hS; first | ((fail_if_success guard_hyp g1); intro g1 w hS) | ((fail_if_success guard_hyp g2); intro g2 w hS) | fail) | fail)
        go_loopw [8, 9, 11, 21] (fun s8 s9 s11 s21 wr => ∃ (j : Nat) (acc : Option Int), j ≤ l.length ∧ s21 = .int .i64 j ∧ s8 = .int .i64 (acc.getD (-1)) ∧ s9 = .bool acc.isSome ∧ Hid ((l.take j).foldl (belS m) none = acc) ∧ St w0 NoM [row (.slice L q c) 3 1 q (ints xs)] wr) (fun _ _ _ s21 _ => l.length - (intOf s21).toNat)
        case atStart => exact ⟨0, none, by omega, rfl, rfl, rfl, Lib.hid rfl, hS⟩
        case round =>
          clear hS
          obtain ⟨j, acc, hj, rfl, rfl, rfl, HA, hS⟩ := hrel
          by_cases hjl : j < l.length
          · have hjl' : (j : Int) < l.length := by omega
            obtain ⟨b4, o4, rfl, _, hc4⟩ := hB.atNS hjl
            have HTK := Lib.hid (bel_take (m := m) hjl)
            have HBV := Lib.hid (belS_val (m := m) (k := nth l j) (b := 0) (acc := acc))
            generalize nth l j = k at *
            by_cases hkm : k ≤ m
            · have dk : decide (k ≤ m) = true := decide_eq_true hkm
              by_cases hs : acc.isSome = false
              · have HN := Lib.hid (show (l.take (j + 1)).foldl (belS m) none = some k by rw [HTK.out, HA.out, HBV.out, if_pos hkm, if_pos (.inl hs)])
                rw [hs] at *
                clear hkm hs
                go_upto_region 9 with (first | (refine oL ?_; (first | refine sL1 hS rfl rfl rfl ?_ | refine sL2 hS rfl rfl rfl ?_ | refine sL3 hS rfl rfl ?_ | refine sL4 hS rfl rfl ?_ | refine sL5 hS rfl rfl ?_ | refine sL6 hS rfl rfl ?_ | refine sL7 hS rfl rfl ?_)) | (refine oP ?_; ((first | refine sP1 hS rfl rfl rfl ?_ | refine sP2 hS rfl rfl rfl ?_ | refine sP3 hS rfl rfl rfl ?_); clear hS; first | ((fail_if_success guard_hyp L1); intro L1 cl1 w hL1 hM1 hS) | ((fail_if_success guard_hyp L2); intro L2 cl2 w hL2 hM2 hS) | fail)) | ((first | (refine oC ?_; first | refine sC0 hS rfl ?_ | refine sC1 hS rfl rfl ?_ | refine sC2 hS rfl rfl ?_ | refine sC3 hS rfl rfl rfl ?_ | refine sC4 hS rfl rfl rfl ?_)); clear hS; first | ((fail_if_success guard_hyp g1); intro g1 w hS) | ((fail_if_success guard_hyp g2); intro g2 w hS) | fail) | fail)
                refine lR ?_
                refine lM rfl rfl ?_
                (try simp only [Act.put, nA, nB, nC])
                refine lM rfl rfl ?_
                (try simp only [Act.put, nA, nB, nC])
                refine lP rfl ?_
                (try simp only [Act.put, nA, nB, nC])
                refine lP rfl ?_
                (try simp only [Act.put, nA, nB, nC])
                refine lM rfl rfl ?_
                (try simp only [Act.put, nA, nB, nC])
                first | refine lQ rfl ?_ | refine lM rfl rfl ?_ | fail
                (try simp only [Act.put, nA, nB, nC])
                first | refine lQ rfl ?_ | refine lM rfl rfl ?_ | fail
                (try simp only [Act.put, nA, nB, nC])
                first | refine lQ rfl ?_ | refine lM rfl rfl ?_ | fail
                (try simp only [Act.put, nA, nB, nC])
                first | refine lQ rfl ?_ | refine lP rfl ?_ | fail
                (try simp only [Act.put, nA, nB, nC])
                first | refine lQ rfl ?_ | (refine ⟨?_⟩; ((first | refine sL1 hS rfl rfl rfl ?_ | refine sL2 hS rfl rfl rfl ?_ | refine sL3 hS rfl rfl ?_ | refine sL4 hS rfl rfl ?_ | refine sL5 hS rfl rfl ?_ | refine sL6 hS rfl rfl ?_ | refine sL7 hS rfl rfl ?_)); refine WL.h ?_) | fail
                (try simp only [Act.put, nA, nB, nC])
                first | refine lQ rfl ?_ | refine lP rfl ?_ | fail
                (try simp only [Act.put, nA, nB, nC])
                refine lP rfl ?_
                (try simp only [Act.put, nA, nB, nC])
                refine lM rfl rfl ?_
                (try simp only [Act.put, nA, nB, nC])
                first | refine lQ rfl ?_ | refine lM rfl rfl ?_ | fail
                (try simp only [Act.put, nA, nB, nC])
                first | refine lQ rfl ?_ | refine lP rfl ?_ | fail
                (try simp only [Act.put, nA, nB, nC])
                first | refine lQ rfl ?_ | refine lM rfl rfl ?_ | fail
                (try simp only [Act.put, nA, nB, nC])
                first | refine lQ rfl ?_ | refine lM rfl rfl ?_ | fail
                (try simp only [Act.put, nA, nB, nC])
                first | refine lQ rfl ?_ | refine lM rfl rfl ?_ | fail
                (try simp only [Act.put, nA, nB, nC])
                first | refine lQ rfl ?_ | refine lP rfl ?_ | fail
                (try simp only [Act.put, nA, nB, nC])
                first | refine lQ rfl ?_ | refine lP rfl ?_ | fail
                (try simp only [Act.put, nA, nB, nC])
                refine lP rfl ?_
                (try simp only [Act.put, nA, nB, nC])
                refine lZ ?_
                go_wp2_with (first | (refine oL ?_; (first | refine sL1 hS rfl rfl rfl ?_ | refine sL2 hS rfl rfl rfl ?_ | refine sL3 hS rfl rfl ?_ | refine sL4 hS rfl rfl ?_ | refine sL5 hS rfl rfl ?_ | refine sL6 hS rfl rfl ?_ | refine sL7 hS rfl rfl ?_)) | (refine oP ?_; ((first | refine sP1 hS rfl rfl rfl ?_ | refine sP2 hS rfl rfl rfl ?_ | refine sP3 hS rfl rfl rfl ?_); clear hS; first | ((fail_if_success guard_hyp L1); intro L1 cl1 w hL1 hM1 hS) | ((fail_if_success guard_hyp L2); intro L2 cl2 w hL2 hM2 hS) | fail)) | ((first | (refine oC ?_; first | refine sC0 hS rfl ?_ | refine sC1 hS rfl rfl ?_ | refine sC2 hS rfl rfl ?_ | refine sC3 hS rfl rfl rfl ?_ | refine sC4 hS rfl rfl rfl ?_)); clear hS; first | ((fail_if_success guard_hyp g1); intro g1 w hS) | ((fail_if_success guard_hyp g2); intro g2 w hS) | fail) | fail)
                go_roundw
                case measure => simp [intOf]; omega
                exact ⟨j + 1, some k, by omega, by go_num, rfl, rfl, HN, hS⟩
              · obtain ⟨b, rfl⟩ : ∃ b, acc = some b := by
                  cases acc with
                  | none => exact absurd rfl hs
                  | some b => exact ⟨b, rfl⟩
                simp only [Option.getD_some, Option.isSome_some] at *
                clear hs
                by_cases hb : b < k
                · have HN := Lib.hid (show (l.take (j + 1)).foldl (belS m) none = some k by rw [HTK.out, HA.out, HBV.out, if_pos hkm, if_pos (.inr hb)])
                  have db : decide (b < k) = true := decide_eq_true hb
                  clear hkm hb
                  go_upto_region 9 with (first | (refine oL ?_; (first | refine sL1 hS rfl rfl rfl ?_ | refine sL2 hS rfl rfl rfl ?_ | refine sL3 hS rfl rfl ?_ | refine sL4 hS rfl rfl ?_ | refine sL5 hS rfl rfl ?_ | refine sL6 hS rfl rfl ?_ | refine sL7 hS rfl rfl ?_)) | (refine oP ?_; ((first | refine sP1 hS rfl rfl rfl ?_ | refine sP2 hS rfl rfl rfl ?_ | refine sP3 hS rfl rfl rfl ?_); clear hS; first | ((fail_if_success guard_hyp L1); intro L1 cl1 w hL1 hM1 hS) | ((fail_if_success guard_hyp L2); intro L2 cl2 w hL2 hM2 hS) | fail)) | ((first | (refine oC ?_; first | refine sC0 hS rfl ?_ | refine sC1 hS rfl rfl ?_ | refine sC2 hS rfl rfl ?_ | refine sC3 hS rfl rfl rfl ?_ | refine sC4 hS rfl rfl rfl ?_)); clear hS; first | ((fail_if_success guard_hyp g1); intro g1 w hS) | ((fail_if_success guard_hyp g2); intro g2 w hS) | fail) | fail)
                  refine lR ?_
                  refine lM rfl rfl ?_
                  (try simp only [Act.put, nA, nB, nC])
                  refine lM rfl rfl ?_
                  (try simp only [Act.put, nA, nB, nC])
                  refine lP rfl ?_
                  (try simp only [Act.put, nA, nB, nC])
                  refine lP rfl ?_
                  (try simp only [Act.put, nA, nB, nC])
                  refine lM rfl rfl ?_
                  (try simp only [Act.put, nA, nB, nC])
                  first | refine lQ rfl ?_ | refine lM rfl rfl ?_ | fail
                  (try simp only [Act.put, nA, nB, nC])
                  first | refine lQ rfl ?_ | refine lM rfl rfl ?_ | fail
                  (try simp only [Act.put, nA, nB, nC])
                  first | refine lQ rfl ?_ | refine lM rfl rfl ?_ | fail
                  (try simp only [Act.put, nA, nB, nC])
                  first | refine lQ rfl ?_ | refine lP rfl ?_ | fail
                  (try simp only [Act.put, nA, nB, nC])
                  first | refine lQ rfl ?_ | (refine ⟨?_⟩; ((first | refine sL1 hS rfl rfl rfl ?_ | refine sL2 hS rfl rfl rfl ?_ | refine sL3 hS rfl rfl ?_ | refine sL4 hS rfl rfl ?_ | refine sL5 hS rfl rfl ?_ | refine sL6 hS rfl rfl ?_ | refine sL7 hS rfl rfl ?_)); refine WL.h ?_) | fail
                  (try simp only [Act.put, nA, nB, nC])
                  first | refine lQ rfl ?_ | refine lP rfl ?_ | fail
                  (try simp only [Act.put, nA, nB, nC])
                  refine lP rfl ?_
                  (try simp only [Act.put, nA, nB, nC])
                  refine lM rfl rfl ?_
                  (try simp only [Act.put, nA, nB, nC])
                  first | refine lQ rfl ?_ | refine lM rfl rfl ?_ | fail
                  (try simp only [Act.put, nA, nB, nC])
                  first | refine lQ rfl ?_ | refine lP rfl ?_ | fail
                  (try simp only [Act.put, nA, nB, nC])
                  first | refine lQ rfl ?_ | refine lM rfl rfl ?_ | fail
                  (try simp only [Act.put, nA, nB, nC])
                  first | refine lQ rfl ?_ | refine lM rfl rfl ?_ | fail
                  (try simp only [Act.put, nA, nB, nC])
                  first | refine lQ rfl ?_ | refine lM rfl rfl ?_ | fail
                  (try simp only [Act.put, nA, nB, nC])
                  first | refine lQ rfl ?_ | refine lP rfl ?_ | fail
                  (try simp only [Act.put, nA, nB, nC])
                  first | refine lQ rfl ?_ | refine lP rfl ?_ | fail
                  (try simp only [Act.put, nA, nB, nC])
                  refine lP rfl ?_
                  (try simp only [Act.put, nA, nB, nC])
                  refine lZ ?_
                  go_wp2_with (first | (refine oL ?_; (first | refine sL1 hS rfl rfl rfl ?_ | refine sL2 hS rfl rfl rfl ?_ | refine sL3 hS rfl rfl ?_ | refine sL4 hS rfl rfl ?_ | refine sL5 hS rfl rfl ?_ | refine sL6 hS rfl rfl ?_ | refine sL7 hS rfl rfl ?_)) | (refine oP ?_; ((first | refine sP1 hS rfl rfl rfl ?_ | refine sP2 hS rfl rfl rfl ?_ | refine sP3 hS rfl rfl rfl ?_); clear hS; first | ((fail_if_success guard_hyp L1); intro L1 cl1 w hL1 hM1 hS) | ((fail_if_success guard_hyp L2); intro L2 cl2 w hL2 hM2 hS) | fail)) | ((first | (refine oC ?_; first | refine sC0 hS rfl ?_ | refine sC1 hS rfl rfl ?_ | refine sC2 hS rfl rfl ?_ | refine sC3 hS rfl rfl rfl ?_ | refine sC4 hS rfl rfl rfl ?_)); clear hS; first | ((fail_if_success guard_hyp g1); intro g1 w hS) | ((fail_if_success guard_hyp g2); intro g2 w hS) | fail) | fail)
                  go_roundw
                  case measure => simp [intOf]; omega
                  exact ⟨j + 1, some k, by omega, by go_num, rfl, rfl, HN, hS⟩
                · have HN := Lib.hid (show (l.take (j + 1)).foldl (belS m) none = some b by rw [HTK.out, HA.out, HBV.out, if_pos hkm, if_neg (by rintro (h | h); exact absurd h (by simp); exact hb h)])
                  have db : decide (b < k) = false := decide_eq_false hb
                  clear hkm hb
                  go_upto_region 9 with (first | (refine oL ?_; (first | refine sL1 hS rfl rfl rfl ?_ | refine sL2 hS rfl rfl rfl ?_ | refine sL3 hS rfl rfl ?_ | refine sL4 hS rfl rfl ?_ | refine sL5 hS rfl rfl ?_ | refine sL6 hS rfl rfl ?_ | refine sL7 hS rfl rfl ?_)) | (refine oP ?_; ((first | refine sP1 hS rfl rfl rfl ?_ | refine sP2 hS rfl rfl rfl ?_ | refine sP3 hS rfl rfl rfl ?_); clear hS; first | ((fail_if_success guard_hyp L1); intro L1 cl1 w hL1 hM1 hS) | ((fail_if_success guard_hyp L2); intro L2 cl2 w hL2 hM2 hS) | fail)) | ((first | (refine oC ?_; first | refine sC0 hS rfl ?_ | refine sC1 hS rfl rfl ?_ | refine sC2 hS rfl rfl ?_ | refine sC3 hS rfl rfl rfl ?_ | refine sC4 hS rfl rfl rfl ?_)); clear hS; first | ((fail_if_success guard_hyp g1); intro g1 w hS) | ((fail_if_success guard_hyp g2); intro g2 w hS) | fail) | fail)
                  refine lR ?_
                  refine lM rfl rfl ?_
                  (try simp only [Act.put, nA, nB, nC])
                  refine lM rfl rfl ?_
                  (try simp only [Act.put, nA, nB, nC])
                  refine lP rfl ?_
                  (try simp only [Act.put, nA, nB, nC])
                  refine lP rfl ?_
                  (try simp only [Act.put, nA, nB, nC])
                  refine lM rfl rfl ?_
                  (try simp only [Act.put, nA, nB, nC])
                  first | refine lQ rfl ?_ | refine lM rfl rfl ?_ | fail
                  (try simp only [Act.put, nA, nB, nC])
                  first | refine lQ rfl ?_ | refine lM rfl rfl ?_ | fail
                  (try simp only [Act.put, nA, nB, nC])
                  first | refine lQ rfl ?_ | refine lM rfl rfl ?_ | fail
                  (try simp only [Act.put, nA, nB, nC])
                  first | refine lQ rfl ?_ | refine lP rfl ?_ | fail
                  (try simp only [Act.put, nA, nB, nC])
                  first | refine lQ rfl ?_ | (refine ⟨?_⟩; ((first | refine sL1 hS rfl rfl rfl ?_ | refine sL2 hS rfl rfl rfl ?_ | refine sL3 hS rfl rfl ?_ | refine sL4 hS rfl rfl ?_ | refine sL5 hS rfl rfl ?_ | refine sL6 hS rfl rfl ?_ | refine sL7 hS rfl rfl ?_)); refine WL.h ?_) | fail
                  (try simp only [Act.put, nA, nB, nC])
                  first | refine lQ rfl ?_ | refine lP rfl ?_ | fail
                  (try simp only [Act.put, nA, nB, nC])
                  refine lP rfl ?_
                  (try simp only [Act.put, nA, nB, nC])
                  refine lM rfl rfl ?_
                  (try simp only [Act.put, nA, nB, nC])
                  first | refine lQ rfl ?_ | refine lM rfl rfl ?_ | fail
                  (try simp only [Act.put, nA, nB, nC])
                  first | refine lQ rfl ?_ | refine lP rfl ?_ | fail
                  (try simp only [Act.put, nA, nB, nC])
                  first | refine lQ rfl ?_ | refine lM rfl rfl ?_ | fail
                  (try simp only [Act.put, nA, nB, nC])
                  first | refine lQ rfl ?_ | refine lM rfl rfl ?_ | fail
                  (try simp only [Act.put, nA, nB, nC])
                  first | refine lQ rfl ?_ | refine lM rfl rfl ?_ | fail
                  (try simp only [Act.put, nA, nB, nC])
                  first | refine lQ rfl ?_ | refine lP rfl ?_ | fail
                  (try simp only [Act.put, nA, nB, nC])
                  first | refine lQ rfl ?_ | refine lP rfl ?_ | fail
                  (try simp only [Act.put, nA, nB, nC])
                  refine lP rfl ?_
                  (try simp only [Act.put, nA, nB, nC])
                  refine lZ ?_
                  go_wp2_with (first | (refine oL ?_; (first | refine sL1 hS rfl rfl rfl ?_ | refine sL2 hS rfl rfl rfl ?_ | refine sL3 hS rfl rfl ?_ | refine sL4 hS rfl rfl ?_ | refine sL5 hS rfl rfl ?_ | refine sL6 hS rfl rfl ?_ | refine sL7 hS rfl rfl ?_)) | (refine oP ?_; ((first | refine sP1 hS rfl rfl rfl ?_ | refine sP2 hS rfl rfl rfl ?_ | refine sP3 hS rfl rfl rfl ?_); clear hS; first | ((fail_if_success guard_hyp L1); intro L1 cl1 w hL1 hM1 hS) | ((fail_if_success guard_hyp L2); intro L2 cl2 w hL2 hM2 hS) | fail)) | ((first | (refine oC ?_; first | refine sC0 hS rfl ?_ | refine sC1 hS rfl rfl ?_ | refine sC2 hS rfl rfl ?_ | refine sC3 hS rfl rfl rfl ?_ | refine sC4 hS rfl rfl rfl ?_)); clear hS; first | ((fail_if_success guard_hyp g1); intro g1 w hS) | ((fail_if_success guard_hyp g2); intro g2 w hS) | fail) | fail)
                  go_roundw
                  case measure => simp [intOf]; omega
                  exact ⟨j + 1, some b, by omega, by go_num, rfl, rfl, HN, hS⟩
            · have HN := Lib.hid (show (l.take (j + 1)).foldl (belS m) none = acc by rw [HTK.out, HA.out, HBV.out, if_neg hkm])
              have dk : decide (k ≤ m) = false := decide_eq_false hkm
              generalize hav : acc.getD (-1) = a0 at *
              generalize hsv : acc.isSome = s0 at *
              have HAV := Lib.hid (And.intro hav hsv)
              clear hkm hav hsv
              go_upto_region 9 with (first | (refine oL ?_; (first | refine sL1 hS rfl rfl rfl ?_ | refine sL2 hS rfl rfl rfl ?_ | refine sL3 hS rfl rfl ?_ | refine sL4 hS rfl rfl ?_ | refine sL5 hS rfl rfl ?_ | refine sL6 hS rfl rfl ?_ | refine sL7 hS rfl rfl ?_)) | (refine oP ?_; ((first | refine sP1 hS rfl rfl rfl ?_ | refine sP2 hS rfl rfl rfl ?_ | refine sP3 hS rfl rfl rfl ?_); clear hS; first | ((fail_if_success guard_hyp L1); intro L1 cl1 w hL1 hM1 hS) | ((fail_if_success guard_hyp L2); intro L2 cl2 w hL2 hM2 hS) | fail)) | ((first | (refine oC ?_; first | refine sC0 hS rfl ?_ | refine sC1 hS rfl rfl ?_ | refine sC2 hS rfl rfl ?_ | refine sC3 hS rfl rfl rfl ?_ | refine sC4 hS rfl rfl rfl ?_)); clear hS; first | ((fail_if_success guard_hyp g1); intro g1 w hS) | ((fail_if_success guard_hyp g2); intro g2 w hS) | fail) | fail)
              refine lR ?_
              refine lM rfl rfl ?_
              (try simp only [Act.put, nA, nB, nC])
              refine lM rfl rfl ?_
              (try simp only [Act.put, nA, nB, nC])
              refine lP rfl ?_
              (try simp only [Act.put, nA, nB, nC])
              refine lP rfl ?_
              (try simp only [Act.put, nA, nB, nC])
              refine lM rfl rfl ?_
              (try simp only [Act.put, nA, nB, nC])
              first | refine lQ rfl ?_ | refine lM rfl rfl ?_ | fail
              (try simp only [Act.put, nA, nB, nC])
              first | refine lQ rfl ?_ | refine lM rfl rfl ?_ | fail
              (try simp only [Act.put, nA, nB, nC])
              first | refine lQ rfl ?_ | refine lM rfl rfl ?_ | fail
              (try simp only [Act.put, nA, nB, nC])
              first | refine lQ rfl ?_ | refine lP rfl ?_ | fail
              (try simp only [Act.put, nA, nB, nC])
              first | refine lQ rfl ?_ | (refine ⟨?_⟩; ((first | refine sL1 hS rfl rfl rfl ?_ | refine sL2 hS rfl rfl rfl ?_ | refine sL3 hS rfl rfl ?_ | refine sL4 hS rfl rfl ?_ | refine sL5 hS rfl rfl ?_ | refine sL6 hS rfl rfl ?_ | refine sL7 hS rfl rfl ?_)); refine WL.h ?_) | fail
              (try simp only [Act.put, nA, nB, nC])
              first | refine lQ rfl ?_ | refine lP rfl ?_ | fail
              (try simp only [Act.put, nA, nB, nC])
              refine lP rfl ?_
              (try simp only [Act.put, nA, nB, nC])
              refine lM rfl rfl ?_
              (try simp only [Act.put, nA, nB, nC])
              first | refine lQ rfl ?_ | refine lM rfl rfl ?_ | fail
              (try simp only [Act.put, nA, nB, nC])
              first | refine lQ rfl ?_ | refine lP rfl ?_ | fail
              (try simp only [Act.put, nA, nB, nC])
              first | refine lQ rfl ?_ | refine lM rfl rfl ?_ | fail
              (try simp only [Act.put, nA, nB, nC])
              first | refine lQ rfl ?_ | refine lM rfl rfl ?_ | fail
              (try simp only [Act.put, nA, nB, nC])
              first | refine lQ rfl ?_ | refine lM rfl rfl ?_ | fail
              (try simp only [Act.put, nA, nB, nC])
              first | refine lQ rfl ?_ | refine lP rfl ?_ | fail
              (try simp only [Act.put, nA, nB, nC])
              first | refine lQ rfl ?_ | refine lP rfl ?_ | fail
              (try simp only [Act.put, nA, nB, nC])
              refine lP rfl ?_
              (try simp only [Act.put, nA, nB, nC])
              refine lZ ?_
              go_wp2_with (first | (refine oL ?_; (first | refine sL1 hS rfl rfl rfl ?_ | refine sL2 hS rfl rfl rfl ?_ | refine sL3 hS rfl rfl ?_ | refine sL4 hS rfl rfl ?_ | refine sL5 hS rfl rfl ?_ | refine sL6 hS rfl rfl ?_ | refine sL7 hS rfl rfl ?_)) | (refine oP ?_; ((first | refine sP1 hS rfl rfl rfl ?_ | refine sP2 hS rfl rfl rfl ?_ | refine sP3 hS rfl rfl rfl ?_); clear hS; first | ((fail_if_success guard_hyp L1); intro L1 cl1 w hL1 hM1 hS) | ((fail_if_success guard_hyp L2); intro L2 cl2 w hL2 hM2 hS) | fail)) | ((first | (refine oC ?_; first | refine sC0 hS rfl ?_ | refine sC1 hS rfl rfl ?_ | refine sC2 hS rfl rfl ?_ | refine sC3 hS rfl rfl rfl ?_ | refine sC4 hS rfl rfl rfl ?_)); clear hS; first | ((fail_if_success guard_hyp g1); intro g1 w hS) | ((fail_if_success guard_hyp g2); intro g2 w hS) | fail) | fail)
              go_roundw
              case measure => simp [intOf]; omega
              exact ⟨j + 1, acc, by omega, by go_num, by rw [HAV.out.1], by rw [HAV.out.2], HN, hS⟩
          · have hjl' : ¬ (j : Int) < l.length := by omega
            have HE := Lib.hid (show acc.getD (-1) = (bel l m).getD (-1) by rw [← HA.out, List.take_of_length_le (by omega)]; rfl)
            generalize acc.getD (-1) = a0 at *
            generalize acc.isSome = s0 at *
            go_wp2_with (first | (refine oP ?_; refine st_app hS rfl rfl rfl rfl (by simp [Value.oneCell']) (by omega) ?_; clear hS; intro L9 cl9 w hL9 hM9 hS) | (refine oL ?_; (first | refine sL1 hS rfl rfl rfl ?_ | refine sL2 hS rfl rfl rfl ?_ | refine sL3 hS rfl rfl ?_ | refine sL4 hS rfl rfl ?_ | refine sL5 hS rfl rfl ?_ | refine sL6 hS rfl rfl ?_ | refine sL7 hS rfl rfl ?_)) | (refine oP ?_; ((first | refine sP1 hS rfl rfl rfl ?_ | refine sP2 hS rfl rfl rfl ?_ | refine sP3 hS rfl rfl rfl ?_); clear hS; first | ((fail_if_success guard_hyp L1); intro L1 cl1 w hL1 hM1 hS) | ((fail_if_success guard_hyp L2); intro L2 cl2 w hL2 hM2 hS) | fail)) | ((first | (refine oC ?_; first | refine sC0 hS rfl ?_ | refine sC1 hS rfl rfl ?_ | refine sC2 hS rfl rfl ?_ | refine sC3 hS rfl rfl rfl ?_ | refine sC4 hS rfl rfl rfl ?_)); clear hS; first | ((fail_if_success guard_hyp g1); intro g1 w hS) | ((fail_if_success guard_hyp g2); intro g2 w hS) | fail) | fail)
            go_roundw
            case measure => simp [intOf]; omega
            refine ⟨q + 1, cl9, L9, by omega, by go_num, rfl, ?_⟩
            rw [HT.out, HBO.out, ← HE.out]
            simpa [ints] using hS
      · have hqc' : ¬ (q : Int) < cut.length := by omega
        rw [if_neg hqc] at HBO
        go_wp2_with (first | (refine oL ?_; (first | refine sL1 hS rfl rfl rfl ?_ | refine sL2 hS rfl rfl rfl ?_ | refine sL3 hS rfl rfl ?_ | refine sL4 hS rfl rfl ?_ | refine sL5 hS rfl rfl ?_ | refine sL6 hS rfl rfl ?_ | refine sL7 hS rfl rfl ?_)) | (refine oP ?_; ((first | refine sP1 hS rfl rfl rfl ?_ | refine sP2 hS rfl rfl rfl ?_ | refine sP3 hS rfl rfl rfl ?_); clear hS; first | ((fail_if_success guard_hyp L1); intro L1 cl1 w hL1 hM1 hS) | ((fail_if_success guard_hyp L2); intro L2 cl2 w hL2 hM2 hS) | fail)) | ((first | (refine oC ?_; first | refine sC0 hS rfl ?_ | refine sC1 hS rfl rfl ?_ | refine sC2 hS rfl rfl ?_ | refine sC3 hS rfl rfl rfl ?_ | refine sC4 hS rfl rfl rfl ?_)); clear hS; first | ((fail_if_success guard_hyp g1); intro g1 w hS) | ((fail_if_success guard_hyp g2); intro g2 w hS) | fail) | fail)
        go_loopw [8, 9, 11, 21] (fun s8 s9 s11 s21 wr => ∃ (j : Nat), j ≤ l.length ∧ s21 = .int .i64 j ∧ s8 = .int .i64 (-1) ∧ s9 = .bool false ∧ St w0 NoM [row (.slice L q c) 3 1 q (ints xs)] wr) (fun _ _ _ s21 _ => l.length - (intOf s21).toNat)
        case atStart => exact ⟨0, by omega, rfl, rfl, rfl, hS⟩
        case round =>
          clear hS
          obtain ⟨j, hj, rfl, rfl, rfl, hS⟩ := hrel
          by_cases hjl : j < l.length
          · have hjl' : (j : Int) < l.length := by omega
            obtain ⟨b4, o4, rfl, _, hc4⟩ := hB.atNS hjl
            have dq : decide ((q : Int) < cut.length) = false := decide_eq_false (by omega)
            generalize nth l j = k at *
            go_upto_region 9 with (first | (refine oL ?_; (first | refine sL1 hS rfl rfl rfl ?_ | refine sL2 hS rfl rfl rfl ?_ | refine sL3 hS rfl rfl ?_ | refine sL4 hS rfl rfl ?_ | refine sL5 hS rfl rfl ?_ | refine sL6 hS rfl rfl ?_ | refine sL7 hS rfl rfl ?_)) | (refine oP ?_; ((first | refine sP1 hS rfl rfl rfl ?_ | refine sP2 hS rfl rfl rfl ?_ | refine sP3 hS rfl rfl rfl ?_); clear hS; first | ((fail_if_success guard_hyp L1); intro L1 cl1 w hL1 hM1 hS) | ((fail_if_success guard_hyp L2); intro L2 cl2 w hL2 hM2 hS) | fail)) | ((first | (refine oC ?_; first | refine sC0 hS rfl ?_ | refine sC1 hS rfl rfl ?_ | refine sC2 hS rfl rfl ?_ | refine sC3 hS rfl rfl rfl ?_ | refine sC4 hS rfl rfl rfl ?_)); clear hS; first | ((fail_if_success guard_hyp g1); intro g1 w hS) | ((fail_if_success guard_hyp g2); intro g2 w hS) | fail) | fail)
            refine lR ?_
            refine lM rfl rfl ?_
            (try simp only [Act.put, nA, nB, nC])
            refine lM rfl rfl ?_
            (try simp only [Act.put, nA, nB, nC])
            refine lP rfl ?_
            (try simp only [Act.put, nA, nB, nC])
            refine lP rfl ?_
            (try simp only [Act.put, nA, nB, nC])
            refine lM rfl rfl ?_
            (try simp only [Act.put, nA, nB, nC])
            first | refine lQ rfl ?_ | refine lM rfl rfl ?_ | fail
            (try simp only [Act.put, nA, nB, nC])
            first | refine lQ rfl ?_ | refine lM rfl rfl ?_ | fail
            (try simp only [Act.put, nA, nB, nC])
            first | refine lQ rfl ?_ | refine lM rfl rfl ?_ | fail
            (try simp only [Act.put, nA, nB, nC])
            first | refine lQ rfl ?_ | refine lP rfl ?_ | fail
            (try simp only [Act.put, nA, nB, nC])
            first | refine lQ rfl ?_ | (refine ⟨?_⟩; ((first | refine sL1 hS rfl rfl rfl ?_ | refine sL2 hS rfl rfl rfl ?_ | refine sL3 hS rfl rfl ?_ | refine sL4 hS rfl rfl ?_ | refine sL5 hS rfl rfl ?_ | refine sL6 hS rfl rfl ?_ | refine sL7 hS rfl rfl ?_)); refine WL.h ?_) | fail
            (try simp only [Act.put, nA, nB, nC])
            first | refine lQ rfl ?_ | refine lP rfl ?_ | fail
            (try simp only [Act.put, nA, nB, nC])
            refine lP rfl ?_
            (try simp only [Act.put, nA, nB, nC])
            refine lM rfl rfl ?_
            (try simp only [Act.put, nA, nB, nC])
            first | refine lQ rfl ?_ | refine lM rfl rfl ?_ | fail
            (try simp only [Act.put, nA, nB, nC])
            first | refine lQ rfl ?_ | refine lP rfl ?_ | fail
            (try simp only [Act.put, nA, nB, nC])
            first | refine lQ rfl ?_ | refine lM rfl rfl ?_ | fail
            (try simp only [Act.put, nA, nB, nC])
            first | refine lQ rfl ?_ | refine lM rfl rfl ?_ | fail
            (try simp only [Act.put, nA, nB, nC])
            first | refine lQ rfl ?_ | refine lM rfl rfl ?_ | fail
            (try simp only [Act.put, nA, nB, nC])
            first | refine lQ rfl ?_ | refine lP rfl ?_ | fail
            (try simp only [Act.put, nA, nB, nC])
            first | refine lQ rfl ?_ | refine lP rfl ?_ | fail
            (try simp only [Act.put, nA, nB, nC])
            refine lP rfl ?_
            (try simp only [Act.put, nA, nB, nC])
            refine lZ ?_
            go_wp2_with (first | (refine oL ?_; (first | refine sL1 hS rfl rfl rfl ?_ | refine sL2 hS rfl rfl rfl ?_ | refine sL3 hS rfl rfl ?_ | refine sL4 hS rfl rfl ?_ | refine sL5 hS rfl rfl ?_ | refine sL6 hS rfl rfl ?_ | refine sL7 hS rfl rfl ?_)) | (refine oP ?_; ((first | refine sP1 hS rfl rfl rfl ?_ | refine sP2 hS rfl rfl rfl ?_ | refine sP3 hS rfl rfl rfl ?_); clear hS; first | ((fail_if_success guard_hyp L1); intro L1 cl1 w hL1 hM1 hS) | ((fail_if_success guard_hyp L2); intro L2 cl2 w hL2 hM2 hS) | fail)) | ((first | (refine oC ?_; first | refine sC0 hS rfl ?_ | refine sC1 hS rfl rfl ?_ | refine sC2 hS rfl rfl ?_ | refine sC3 hS rfl rfl rfl ?_ | refine sC4 hS rfl rfl rfl ?_)); clear hS; first | ((fail_if_success guard_hyp g1); intro g1 w hS) | ((fail_if_success guard_hyp g2); intro g2 w hS) | fail) | fail)
            go_roundw
            case measure => simp [intOf]; omega
            exact ⟨j + 1, by omega, by go_num, rfl, rfl, hS⟩
          · have hjl' : ¬ (j : Int) < l.length := by omega
            go_wp2_with (first | (refine oP ?_; refine st_app hS rfl rfl rfl rfl (by simp [Value.oneCell']) (by omega) ?_; clear hS; intro L9 cl9 w hL9 hM9 hS) | (refine oL ?_; (first | refine sL1 hS rfl rfl rfl ?_ | refine sL2 hS rfl rfl rfl ?_ | refine sL3 hS rfl rfl ?_ | refine sL4 hS rfl rfl ?_ | refine sL5 hS rfl rfl ?_ | refine sL6 hS rfl rfl ?_ | refine sL7 hS rfl rfl ?_)) | (refine oP ?_; ((first | refine sP1 hS rfl rfl rfl ?_ | refine sP2 hS rfl rfl rfl ?_ | refine sP3 hS rfl rfl rfl ?_); clear hS; first | ((fail_if_success guard_hyp L1); intro L1 cl1 w hL1 hM1 hS) | ((fail_if_success guard_hyp L2); intro L2 cl2 w hL2 hM2 hS) | fail)) | ((first | (refine oC ?_; first | refine sC0 hS rfl ?_ | refine sC1 hS rfl rfl ?_ | refine sC2 hS rfl rfl ?_ | refine sC3 hS rfl rfl rfl ?_ | refine sC4 hS rfl rfl rfl ?_)); clear hS; first | ((fail_if_success guard_hyp g1); intro g1 w hS) | ((fail_if_success guard_hyp g2); intro g2 w hS) | fail) | fail)
            go_roundw
            case measure => simp [intOf]; omega
            refine ⟨q + 1, cl9, L9, by omega, by go_num, rfl, ?_⟩
            rw [HT.out, HBO.out]
            simpa [ints] using hS
    · have HE := Lib.hid (show q = ls.length by omega)
      have hlt' : ¬ (q : Int) < ls.length := by omega
      go_wp2_with (first | (refine oL ?_; (first | refine sL1 hS rfl rfl rfl ?_ | refine sL2 hS rfl rfl rfl ?_ | refine sL3 hS rfl rfl ?_ | refine sL4 hS rfl rfl ?_ | refine sL5 hS rfl rfl ?_ | refine sL6 hS rfl rfl ?_ | refine sL7 hS rfl rfl ?_)) | (refine oP ?_; ((first | refine sP1 hS rfl rfl rfl ?_ | refine sP2 hS rfl rfl rfl ?_ | refine sP3 hS rfl rfl rfl ?_); clear hS; first | ((fail_if_success guard_hyp L1); intro L1 cl1 w hL1 hM1 hS) | ((fail_if_success guard_hyp L2); intro L2 cl2 w hL2 hM2 hS) | fail)) | ((first | (refine oC ?_; first | refine sC0 hS rfl ?_ | refine sC1 hS rfl rfl ?_ | refine sC2 hS rfl rfl ?_ | refine sC3 hS rfl rfl rfl ?_ | refine sC4 hS rfl rfl rfl ?_)); clear hS; first | ((fail_if_success guard_hyp g1); intro g1 w hS) | ((fail_if_success guard_hyp g2); intro g2 w hS) | fail) | fail)
      go_ret
      rw [List.take_of_length_le (by rw [basesL_len]; omega), HE.out] at hS
      rw [HE.out]
      exact hS.ret rfl
end Go.Proofs.Ytombhhhaidmpeaa
