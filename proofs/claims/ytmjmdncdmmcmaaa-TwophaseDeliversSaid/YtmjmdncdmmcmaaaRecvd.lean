/- rollbacknetref16.Received. Conditions: the messages lie in memory, the index is positive. -/
import Derived.Test.YtmjmdncdmmcmaaaGf
import Derived.Test.YtmjmdncdmmcmaaaGc
namespace Go.Proofs.Ytmjmdncdmmcmaaa
open Go.RowKit
set_option linter.unusedVariables false
set_option linter.unusedSimpArgs false
set_option linter.unusedSectionVars false

/-- what Received says: -1, or where the message lies -/
def RecvIs (az : List Arc) (q : Nat) (k z : Int) : Prop := (z = -1 ∧ ∀ a ∈ az, a.to = q → a.at_ ≠ k) ∨ ∃ i : Nat, ∃ h : i < az.length, z = i ∧ az[i].to = q ∧ az[i].at_ = k
def RecvRes (az : List Arc) (q : Nat) (k : Int) (w0 : World) (e : Ending) (w' : World) : Prop := ∃ z, RecvIs az q k z ∧ e = .returned (.int .i64 z) ∧ Ext w0 w'
set_option maxRecDepth 100000 in
set_option maxHeartbeats 1600000 in
theorem received_any {S : Nat → Prop} (A1 A2 A3 : Option Addr) (c1 c2 c3 n1 n2 : Nat) (az : List Arc) (q : Nat) (k : Int) (w0 : World) (ha : RA S w0 A3 az) (hn : az.length ≤ 1000) (hk : 1 ≤ k) :
    Calls Try.prog 119 #[.agg #[.slice A1 n1 c1, .slice A2 n2 c2, .slice A3 az.length c3], .int .i64 (q : Int), .int .i64 k] w0 (RecvRes az q k w0) := by
  have hS := St.start w0 NoM
  have d0 : decide (0 < k) = true := decide_eq_true (by omega)
  go_enter Try.func119, Try.ntmps119
  go_wp2_with ((((((refine oB ?_; (refine sB1 hS rfl rfl ?_)))); clear hS; (((fail_if_success guard_hyp g1); intro g1 w hS)))))
  go_loopw [7] (fun s7 wr => ∃ (i : Nat), i ≤ az.length ∧ s7 = .int .i64 i ∧ Hid (∀ a ∈ az.take i, a.to = q → a.at_ ≠ k) ∧ St w0 NoM [blk g1 [.slice A1 n1 c1, .slice A2 n2 c2, .slice A3 az.length c3] 44] wr) (fun s7 _ => az.length - (intOf s7).toNat)
  case atStart => exact ⟨0, by omega, rfl, Lib.hid (by simp), hS⟩
  case round =>
    obtain ⟨i, hi, rfl, HI, hS⟩ := hrel
    by_cases hlt : i < az.length
    · obtain ⟨b3, o3, rfl, _, hcs⟩ := ha.cells hlt
      have hc2 := hcs 2 _ rfl
      have hc3 := hcs 3 _ rfl
      have HT := Lib.hid (List.take_succ_eq_append_getElem hlt)
      have HG := Lib.hid (fun (h1 : az[i].to = q) (h2 : az[i].at_ = k) => (show RecvIs az q k i from .inr ⟨i, hlt, rfl, h1, h2⟩))
      generalize az[i] = ar at *
      by_cases h1 : ar.to = q
      · have e1 : ((ar.to : Int) == (q : Int)) = true := by simp [h1]
        by_cases h2 : ar.at_ = k
        · have e2 : (ar.at_ == k) = true := by simp [h2]
          go_wp2_with (((refine oL ?_; (first | refine sL1 hS rfl rfl rfl ?_ | refine sL4 hS rfl rfl ?_))))
          go_ret
          exact ⟨i, HG.out h1 h2, rfl, hS.toExt⟩
        · have e2 : (ar.at_ == k) = false := by simp [h2]
          go_wp2_with (((refine oL ?_; (first | refine sL1 hS rfl rfl rfl ?_ | refine sL4 hS rfl rfl ?_))))
          go_roundw
          case measure => simp [intOf]; omega
          refine ⟨i + 1, by omega, by go_num, Lib.hid (fun a ha => ?_), hS.re⟩
          rw [HT.out, List.mem_append, List.mem_singleton] at ha
          rcases ha with ha | rfl
          · exact HI.out a ha
          · exact fun _ => h2
      · have H1 := Lib.hid h1
        obtain ⟨tz, htz⟩ : ∃ z : Int, z = ar.to := ⟨_, rfl⟩
        rw [← htz] at hc2
        have e1 : (tz == (q : Int)) = false := by rw [htz]; simp; omega
        clear h1 HG htz hcs
        go_upto_region 4 with (((refine oL ?_; ((refine sL1 hS rfl rfl rfl ?_)))))
        refine lR ?_
        refine lM rfl rfl ?_
        (try simp only [Act.put, nA, nB, nC])
        refine lP rfl ?_
        (try simp only [Act.put, nA, nB, nC])
        refine lM rfl rfl ?_
        (try simp only [Act.put, nA, nB, nC])
        first | refine lQ rfl ?_ | refine lP rfl ?_ | fail
        (try simp only [Act.put, nA, nB, nC])
        ((refine ⟨?_⟩; (((refine sL1 hS rfl rfl rfl ?_))); refine WL.h ?_))
        (try simp only [Act.put, nA, nB, nC])
        first | refine lQ rfl ?_ | refine lM rfl rfl ?_ | fail
        (try simp only [Act.put, nA, nB, nC])
        first | refine lQ rfl ?_ | refine lP rfl ?_ | fail
        (try simp only [Act.put, nA, nB, nC])
        first | refine lQ rfl ?_ | refine lP rfl ?_ | fail
        (try simp only [Act.put, nA, nB, nC])
        ((refine ⟨?_⟩; (((refine sL4 hS rfl rfl ?_))); refine WL.h ?_))
        (try simp only [Act.put, nA, nB, nC])
        first | refine lQ rfl ?_ | refine lM rfl rfl ?_ | fail
        (try simp only [Act.put, nA, nB, nC])
        first | refine lQ rfl ?_ | refine lP rfl ?_ | fail
        (try simp only [Act.put, nA, nB, nC])
        refine lP rfl ?_
        (try simp only [Act.put, nA, nB, nC])
        refine lM rfl rfl ?_
        (try simp only [Act.put, nA, nB, nC])
        first | refine lQ rfl ?_ | refine lP rfl ?_ | fail
        (try simp only [Act.put, nA, nB, nC])
        (refine lQ rfl ?_)
        (try simp only [Act.put, nA, nB, nC])
        first | refine lQ rfl ?_ | refine lM rfl rfl ?_ | fail
        (try simp only [Act.put, nA, nB, nC])
        first | refine lQ rfl ?_ | refine lP rfl ?_ | fail
        (try simp only [Act.put, nA, nB, nC])
        first | refine lQ rfl ?_ | refine lP rfl ?_ | fail
        (try simp only [Act.put, nA, nB, nC])
        (refine lQ rfl ?_)
        (try simp only [Act.put, nA, nB, nC])
        first | refine lQ rfl ?_ | refine lM rfl rfl ?_ | fail
        (try simp only [Act.put, nA, nB, nC])
        first | refine lQ rfl ?_ | refine lP rfl ?_ | fail
        (try simp only [Act.put, nA, nB, nC])
        refine lP rfl ?_
        (try simp only [Act.put, nA, nB, nC])
        refine lZ ?_
        go_wp2_with (fail)
        go_roundw
        case measure => simp [intOf]; omega
        refine ⟨i + 1, by omega, by go_num, Lib.hid (fun a ha => ?_), hS.re⟩
        rw [HT.out, List.mem_append, List.mem_singleton] at ha
        rcases ha with ha | rfl
        · exact HI.out a ha
        · exact fun h => absurd h H1.out
    · go_wp2_with (((refine oL ?_; ((refine sL1 hS rfl rfl rfl ?_)))))
      go_ret
      have h := HI.out
      rw [List.take_of_length_le (by omega)] at h
      exact ⟨-1, .inl ⟨rfl, h⟩, rfl, hS.toExt⟩
end Go.Proofs.Ytmjmdncdmmcmaaa
