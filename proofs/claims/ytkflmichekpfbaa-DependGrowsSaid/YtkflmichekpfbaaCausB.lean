/- causal.newHistory: a history with no clocks yet. Conditions: the messages lie in memory. -/
import Derived.Test.YtkflmichekpfbaaCausA
namespace Go.Proofs.Ytkflmichekpfbaa
open Go.RowKit
set_option linter.unusedVariables false
set_option linter.unusedSimpArgs false

/-- the map of sources -/
def srcM (az : List Arc) : Int × Int → Option Value := fun l => (srcF az l).map fun a => .agg #[.int .i64 (a.1 : Int), .int .i64 a.2]
theorem srcF_nil (l : Int × Int) : srcF [] l = none := rfl
theorem srcF_snoc (az : List Arc) (a : Arc) (l : Int × Int) : srcF (az ++ [a]) l = if a.at_ ≠ 0 ∧ ((a.to : Int), a.at_) = l then some (a.fr, a.ix) else srcF az l := by
  unfold srcF
  rw [List.reverse_append]
  simp only [List.reverse_cons, List.reverse_nil, List.nil_append, List.singleton_append, List.find?_cons]
  by_cases h : a.at_ ≠ 0 ∧ ((a.to : Int), a.at_) = l
  · rw [if_pos h]
    have : (decide (a.at_ ≠ 0) && decide (((a.to : Int), a.at_) = l)) = true := by simp [h.1, h.2]
    rw [this]; rfl
  · rw [if_neg h]
    have : (decide (a.at_ ≠ 0) && decide (((a.to : Int), a.at_) = l)) = false := by
      rw [← Bool.not_eq_true]; intro hh; apply h; simpa using hh
    rw [this]
theorem srcM_put {az : List Arc} {a : Arc} (h : a.at_ ≠ 0) : mput (srcM az) ((a.to : Int), a.at_) (.agg #[.int .i64 (a.fr : Int), .int .i64 a.ix]) = srcM (az ++ [a]) := by
  funext l
  simp only [mput, srcM, srcF_snoc]
  by_cases e : l = ((a.to : Int), a.at_)
  · rw [if_pos e, if_pos ⟨h, e.symm⟩]; rfl
  · rw [if_neg e, if_neg (fun hh => e hh.2.symm)]
theorem srcM_skip {az : List Arc} {a : Arc} (h : a.at_ = 0) : srcM (az ++ [a]) = srcM az := by
  funext l
  simp only [srcM, srcF_snoc]
  rw [if_neg (fun hh => hh.1 h)]

/-- a history: lengths, sources, clocks -/
structure HistB (w : World) (gh gs gc : Nat) (A1 : Option Addr) (n c1 : Nat) (sm cm : Int × Int → Option Value) : Prop where
  blk : w.heap[gh]? = some (.cells #[.slice A1 n c1, .map (some gs), .map (some gc)] 75 (0, 0))
  src : MapAt w gs sm
  clk : MapAt w gc cm
  d1 : gh ≠ gs
  d2 : gh ≠ gc
  d3 : gs ≠ gc
set_option maxHeartbeats 1600000 in
theorem newHist_any {S : Nat → Prop} (A1 A2 A3 : Option Addr) (c1 c2 c3 n1 n2 : Nat) (az : List Arc) (w0 : World) (ha : RA S w0 A3 az) (hn : az.length ≤ 1000) :
    Calls Try.prog 63 #[.agg #[.slice A1 n1 c1, .slice A2 n2 c2, .slice A3 az.length c3]] w0 fun e w' => ∃ gh gs gc, e = .returned (.pointer (some ⟨gh, 0, none⟩)) ∧ HistB w' gh gs gc A1 n1 c1 (srcM az) (fun _ => none) ∧ w0.heap.size ≤ gh ∧ w0.heap.size ≤ gs ∧ w0.heap.size ≤ gc ∧ Ext w0 w' := by
  have hS := St.start w0 NoM
  go_enter Try.func63, Try.ntmps63
  go_wp2_with (first | (refine oL ?_; (first | refine sL1 hS rfl rfl rfl ?_ | refine sL2 hS rfl rfl rfl ?_ | refine sL3 hS rfl rfl ?_ | refine sL4 hS rfl rfl ?_ | refine sL5 hS rfl rfl ?_ | refine sL6 hS rfl rfl ?_ | refine sL7 hS rfl rfl ?_)) | (refine oS ?_; ((first | refine sS1 hS rfl rfl rfl ?_ | refine sS2 hS rfl rfl rfl ?_ | refine sS3 hS rfl rfl rfl ?_ | refine sS4 hS rfl rfl rfl ?_ | refine sS5 hS rfl rfl rfl ?_); clear hS; intro w hS)) | (skip; (refine sW1 hS rfl ?_; clear hS; first | ((fail_if_success guard_hyp g1); intro g1 w hS) | ((fail_if_success guard_hyp g2); intro g2 w hS) | ((fail_if_success guard_hyp g3); intro g3 w hS) | ((fail_if_success guard_hyp g4); intro g4 w hS) | ((fail_if_success guard_hyp g5); intro g5 w hS) | ((fail_if_success guard_hyp g6); intro g6 w hS) | fail)) | ((first | (refine oB ?_; first | refine sB1 hS rfl rfl ?_ | refine sB2 hS rfl rfl ?_) | refine sN1 hS rfl ?_); clear hS; first | ((fail_if_success guard_hyp g1); intro g1 w hS) | ((fail_if_success guard_hyp g2); intro g2 w hS) | ((fail_if_success guard_hyp g3); intro g3 w hS) | ((fail_if_success guard_hyp g4); intro g4 w hS) | ((fail_if_success guard_hyp g5); intro g5 w hS) | ((fail_if_success guard_hyp g6); intro g6 w hS) | fail) | fail)
  go_loopw [15] (fun s15 wr => ∃ (k : Nat) (m : Int × Int → Option Value), k ≤ az.length ∧ s15 = .int .i64 k ∧ Hid (m = srcM (az.take k)) ∧ St w0 NoM [blk g4 [.slice A1 n1 c1, .map (some g2), .map (some g3)] 75, mpc g2 m, mpc g3 (fun _ => none), blk g1 [.slice A1 n1 c1, .slice A2 n2 c2, .slice A3 az.length c3] 28] wr) (fun s15 _ => az.length - (intOf s15).toNat)
  case atStart => exact ⟨0, fun _ => none, by omega, rfl, Lib.hid (by rw [List.take_zero]; rfl), hS.re⟩
  case round =>
    obtain ⟨k, m, hk, rfl, HM, hS⟩ := hrel
    by_cases hlt : k < az.length
    · obtain ⟨b3, o3, rfl, _, hcs⟩ := ha.cells hlt
      have HT := Lib.hid (List.take_succ_eq_append_getElem hlt)
      generalize az[k] = ar at *
      simp only [arcCells] at hcs
      by_cases h0 : ar.at_ = 0
      · go_wp2_with (first | (refine oL ?_; (first | refine sL1 hS rfl rfl rfl ?_ | refine sL2 hS rfl rfl rfl ?_ | refine sL3 hS rfl rfl ?_ | refine sL4 hS rfl rfl ?_ | refine sL5 hS rfl rfl ?_ | refine sL6 hS rfl rfl ?_ | refine sL7 hS rfl rfl ?_)) | (refine oS ?_; ((first | refine sS1 hS rfl rfl rfl ?_ | refine sS2 hS rfl rfl rfl ?_ | refine sS3 hS rfl rfl rfl ?_ | refine sS4 hS rfl rfl rfl ?_ | refine sS5 hS rfl rfl rfl ?_); clear hS; intro w hS)) | (skip; (refine sW1 hS rfl ?_; clear hS; first | ((fail_if_success guard_hyp g1); intro g1 w hS) | ((fail_if_success guard_hyp g2); intro g2 w hS) | ((fail_if_success guard_hyp g3); intro g3 w hS) | ((fail_if_success guard_hyp g4); intro g4 w hS) | ((fail_if_success guard_hyp g5); intro g5 w hS) | ((fail_if_success guard_hyp g6); intro g6 w hS) | fail)) | ((first | (refine oB ?_; first | refine sB1 hS rfl rfl ?_ | refine sB2 hS rfl rfl ?_) | refine sN1 hS rfl ?_); clear hS; first | ((fail_if_success guard_hyp g1); intro g1 w hS) | ((fail_if_success guard_hyp g2); intro g2 w hS) | ((fail_if_success guard_hyp g3); intro g3 w hS) | ((fail_if_success guard_hyp g4); intro g4 w hS) | ((fail_if_success guard_hyp g5); intro g5 w hS) | ((fail_if_success guard_hyp g6); intro g6 w hS) | fail) | fail)
        go_roundw
        case measure => simp [intOf]; omega
        exact ⟨k + 1, m, by omega, by go_num, Lib.hid (by rw [HT.out, srcM_skip h0, HM.out]), hS.re⟩
      · have d0 : (ar.at_ != 0) = true := by simp [h0]
        go_wp2_with (first | (refine oL ?_; (first | refine sL1 hS rfl rfl rfl ?_ | refine sL2 hS rfl rfl rfl ?_ | refine sL3 hS rfl rfl ?_ | refine sL4 hS rfl rfl ?_ | refine sL5 hS rfl rfl ?_ | refine sL6 hS rfl rfl ?_ | refine sL7 hS rfl rfl ?_)) | (refine oS ?_; ((first | refine sS1 hS rfl rfl rfl ?_ | refine sS2 hS rfl rfl rfl ?_ | refine sS3 hS rfl rfl rfl ?_ | refine sS4 hS rfl rfl rfl ?_ | refine sS5 hS rfl rfl rfl ?_); clear hS; intro w hS)) | (skip; (refine sW1 hS rfl ?_; clear hS; first | ((fail_if_success guard_hyp g1); intro g1 w hS) | ((fail_if_success guard_hyp g2); intro g2 w hS) | ((fail_if_success guard_hyp g3); intro g3 w hS) | ((fail_if_success guard_hyp g4); intro g4 w hS) | ((fail_if_success guard_hyp g5); intro g5 w hS) | ((fail_if_success guard_hyp g6); intro g6 w hS) | fail)) | ((first | (refine oB ?_; first | refine sB1 hS rfl rfl ?_ | refine sB2 hS rfl rfl ?_) | refine sN1 hS rfl ?_); clear hS; first | ((fail_if_success guard_hyp g1); intro g1 w hS) | ((fail_if_success guard_hyp g2); intro g2 w hS) | ((fail_if_success guard_hyp g3); intro g3 w hS) | ((fail_if_success guard_hyp g4); intro g4 w hS) | ((fail_if_success guard_hyp g5); intro g5 w hS) | ((fail_if_success guard_hyp g6); intro g6 w hS) | fail) | fail)
        refine dr_start1 [] 2 hS (by kernel_rfl) rfl ?_; clear hS; intro w hS
        refine dM hS 0 rfl rfl rfl ?_
        (try simp only [Act.put, nA, nB, nC])
        refine dP hS 1 rfl rfl ?_
        (try simp only [Act.put, nA, nB, nC])
        refine dP hS 2 rfl rfl ?_
        (try simp only [Act.put, nA, nB, nC])
        first | refine dL1 hS 3 rfl rfl rfl rfl ?_ | refine dL2 hS 3 rfl rfl rfl rfl ?_ | refine dL3 hS 3 rfl rfl rfl ?_ | refine dL4 hS 3 rfl rfl rfl ?_ | refine dL5 hS 3 rfl rfl rfl ?_ | refine dL6 hS 3 rfl rfl rfl ?_ | refine dL7 hS 3 rfl rfl rfl ?_
        (try simp only [Act.put, nA, nB, nC])
        refine dP hS 4 rfl rfl ?_
        (try simp only [Act.put, nA, nB, nC])
        first | refine dL1 hS 5 rfl rfl rfl rfl ?_ | refine dL2 hS 5 rfl rfl rfl rfl ?_ | refine dL3 hS 5 rfl rfl rfl ?_ | refine dL4 hS 5 rfl rfl rfl ?_ | refine dL5 hS 5 rfl rfl rfl ?_ | refine dL6 hS 5 rfl rfl rfl ?_ | refine dL7 hS 5 rfl rfl rfl ?_
        (try simp only [Act.put, nA, nB, nC])
        refine dP hS 6 rfl rfl ?_
        (try simp only [Act.put, nA, nB, nC])
        first | refine dL1 hS 7 rfl rfl rfl rfl ?_ | refine dL2 hS 7 rfl rfl rfl rfl ?_ | refine dL3 hS 7 rfl rfl rfl ?_ | refine dL4 hS 7 rfl rfl rfl ?_ | refine dL5 hS 7 rfl rfl rfl ?_ | refine dL6 hS 7 rfl rfl rfl ?_ | refine dL7 hS 7 rfl rfl rfl ?_
        (try simp only [Act.put, nA, nB, nC])
        refine dP hS 8 rfl rfl ?_
        (try simp only [Act.put, nA, nB, nC])
        refine dP hS 9 rfl rfl ?_
        (try simp only [Act.put, nA, nB, nC])
        first | refine dL1 hS 10 rfl rfl rfl rfl ?_ | refine dL2 hS 10 rfl rfl rfl rfl ?_ | refine dL3 hS 10 rfl rfl rfl ?_ | refine dL4 hS 10 rfl rfl rfl ?_ | refine dL5 hS 10 rfl rfl rfl ?_ | refine dL6 hS 10 rfl rfl rfl ?_ | refine dL7 hS 10 rfl rfl rfl ?_
        (try simp only [Act.put, nA, nB, nC])
        refine dP hS 11 rfl rfl ?_
        (try simp only [Act.put, nA, nB, nC])
        first | refine dL1 hS 12 rfl rfl rfl rfl ?_ | refine dL2 hS 12 rfl rfl rfl rfl ?_ | refine dL3 hS 12 rfl rfl rfl ?_ | refine dL4 hS 12 rfl rfl rfl ?_ | refine dL5 hS 12 rfl rfl rfl ?_ | refine dL6 hS 12 rfl rfl rfl ?_ | refine dL7 hS 12 rfl rfl rfl ?_
        (try simp only [Act.put, nA, nB, nC])
        refine dP hS 13 rfl rfl ?_
        (try simp only [Act.put, nA, nB, nC])
        refine dr_one 14 (by kernel_rfl) rfl ?_
        (refine sU1 hS rfl rfl rfl rfl ?_; clear hS; intro w hS)
        (try simp only [Act.put, nA, nB, nC])
        refine dr_end hS ?_
        refine dr_done (by kernel_rfl) ?_
        go_wp2_with (first | (refine oL ?_; (first | refine sL1 hS rfl rfl rfl ?_ | refine sL2 hS rfl rfl rfl ?_ | refine sL3 hS rfl rfl ?_ | refine sL4 hS rfl rfl ?_ | refine sL5 hS rfl rfl ?_ | refine sL6 hS rfl rfl ?_ | refine sL7 hS rfl rfl ?_)) | (refine oS ?_; ((first | refine sS1 hS rfl rfl rfl ?_ | refine sS2 hS rfl rfl rfl ?_ | refine sS3 hS rfl rfl rfl ?_ | refine sS4 hS rfl rfl rfl ?_ | refine sS5 hS rfl rfl rfl ?_); clear hS; intro w hS)) | (skip; (refine sW1 hS rfl ?_; clear hS; first | ((fail_if_success guard_hyp g1); intro g1 w hS) | ((fail_if_success guard_hyp g2); intro g2 w hS) | ((fail_if_success guard_hyp g3); intro g3 w hS) | ((fail_if_success guard_hyp g4); intro g4 w hS) | ((fail_if_success guard_hyp g5); intro g5 w hS) | ((fail_if_success guard_hyp g6); intro g6 w hS) | fail)) | ((first | (refine oB ?_; first | refine sB1 hS rfl rfl ?_ | refine sB2 hS rfl rfl ?_) | refine sN1 hS rfl ?_); clear hS; first | ((fail_if_success guard_hyp g1); intro g1 w hS) | ((fail_if_success guard_hyp g2); intro g2 w hS) | ((fail_if_success guard_hyp g3); intro g3 w hS) | ((fail_if_success guard_hyp g4); intro g4 w hS) | ((fail_if_success guard_hyp g5); intro g5 w hS) | ((fail_if_success guard_hyp g6); intro g6 w hS) | fail) | fail)
        go_roundw
        case measure => simp [intOf]; omega
        exact ⟨k + 1, mput m ((ar.to : Int), ar.at_) (.agg #[.int .i64 (ar.fr : Int), .int .i64 ar.ix]), by omega, by go_num, Lib.hid (by rw [HT.out, ← srcM_put h0, HM.out]), hS.re⟩
    · go_wp2_with (first | (refine oL ?_; (first | refine sL1 hS rfl rfl rfl ?_ | refine sL2 hS rfl rfl rfl ?_ | refine sL3 hS rfl rfl ?_ | refine sL4 hS rfl rfl ?_ | refine sL5 hS rfl rfl ?_ | refine sL6 hS rfl rfl ?_ | refine sL7 hS rfl rfl ?_)) | (refine oS ?_; ((first | refine sS1 hS rfl rfl rfl ?_ | refine sS2 hS rfl rfl rfl ?_ | refine sS3 hS rfl rfl rfl ?_ | refine sS4 hS rfl rfl rfl ?_ | refine sS5 hS rfl rfl rfl ?_); clear hS; intro w hS)) | (skip; (refine sW1 hS rfl ?_; clear hS; first | ((fail_if_success guard_hyp g1); intro g1 w hS) | ((fail_if_success guard_hyp g2); intro g2 w hS) | ((fail_if_success guard_hyp g3); intro g3 w hS) | ((fail_if_success guard_hyp g4); intro g4 w hS) | ((fail_if_success guard_hyp g5); intro g5 w hS) | ((fail_if_success guard_hyp g6); intro g6 w hS) | fail)) | ((first | (refine oB ?_; first | refine sB1 hS rfl rfl ?_ | refine sB2 hS rfl rfl ?_) | refine sN1 hS rfl ?_); clear hS; first | ((fail_if_success guard_hyp g1); intro g1 w hS) | ((fail_if_success guard_hyp g2); intro g2 w hS) | ((fail_if_success guard_hyp g3); intro g3 w hS) | ((fail_if_success guard_hyp g4); intro g4 w hS) | ((fail_if_success guard_hyp g5); intro g5 w hS) | ((fail_if_success guard_hyp g6); intro g6 w hS) | fail) | fail)
      go_ret
      have hm := HM.out
      rw [List.take_of_length_le (by omega)] at hm
      subst hm
      have hap := hS.apart
      simp only [List.pairwise_cons] at hap
      have e1 := hS.all (blk g4 [.slice A1 n1 c1, .map (some g2), .map (some g3)] 75) (by simp)
      have e2 := hap.1 (mpc g2 (srcM az)) (by simp) g4 rfl
      have e3 := hap.1 (mpc g3 (fun _ => none)) (by simp) g4 rfl
      have e4 := hap.2.1 (mpc g3 (fun _ => none)) (by simp) g2 rfl
      have e5 := hS.new (blk g4 [.slice A1 n1 c1, .map (some g2), .map (some g3)] 75) (by simp) g4 rfl
      have e6 := hS.new (mpc g2 (srcM az)) (by simp) g2 rfl
      have e7 := hS.new (mpc g3 (fun _ => none)) (by simp) g3 rfl
      exact ⟨g4, g2, g3, rfl, ⟨e1, hS.mapAt, hS.mapAt, fun e => e2 e, fun e => e3 e, fun e => e4 e⟩, e5.resolve_right id, e6.resolve_right id, e7.resolve_right id, hS.toExt⟩
end Go.Proofs.Ytkflmichekpfbaa
