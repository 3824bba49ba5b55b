/- Patterns: process, Interval, Same, of the program and of the reference. Conditions: the lists lie in memory; lengths within range. -/
import Derived.Test.YtkflmichekpfbaaCds
import Derived.Test.YtkflmichekpfbaaPatMem
import Derived.IntWalk
namespace Go.Proofs.Ytkflmichekpfbaa
open Go.RowKit
set_option linter.unusedVariables false
set_option linter.unusedSimpArgs false

theorem RA.cells {S : Nat → Prop} {w : World} {A : Option Addr} {az : List Arc} (h : RA S w A az) {j : Nat} (hj : j < az.length) : ∃ b o, A = some ⟨b, o, none⟩ ∧ S b ∧ Cells w b (o + j * 4) (arcCells az[j]) := by
  obtain ⟨vs, h1, h2⟩ := h
  obtain ⟨b, o, cs, e1, _, hr, hc⟩ := RL.at_ ⟨vs, h1, h2⟩ hj (by omega)
  have hv : j * 4 < vs.length := by rw [h2.length]; omega
  obtain ⟨b', o', e2, hs⟩ := h1.at_block hv
  rw [e1] at e2
  injection e2 with e2; injection e2 with e2 e3; subst e2; subst e3
  have e : cs = arcCells az[j] := hr
  subst e
  refine ⟨b, o, e1, hs, fun i u hu => ?_⟩
  have hi : i < 4 := by
    rcases Nat.lt_or_ge i 4 with h1 | h1
    · exact h1
    · rw [List.getElem?_eq_none (by simpa [arcCells] using h1)] at hu; cases hu
  rw [hc i hi]; exact hu
theorem RR.atS {S : Nat → Prop} {w : World} {A : Option Addr} {ls : List (List Int)} (h : RR S w A ls) {j : Nat} (hj : j < ls.length) :
    ∃ b o B c, A = some ⟨b, o, none⟩ ∧ S b ∧ w.cell? ⟨b, o + j, none⟩ = some (.slice B ls[j].length c) ∧ ls[j].length ≤ c ∧ c ≤ 9223372036854775807 ∧ RI S w B ls[j] := by
  obtain ⟨b, o, B, c, e1, h1, h2, h3, h4⟩ := h.at_ hj
  obtain ⟨vs, h5, h6⟩ := h
  have hv : j < vs.length := by rw [h6.length]; omega
  obtain ⟨b', o', e2, hs⟩ := h5.at_block hv
  rw [e1] at e2
  injection e2 with e2; injection e2 with e2 e3; subst e2; subst e3
  rw [rowOf_eq hj] at h1 h2 h4
  exact ⟨b, o, B, c, e1, hs, h1, h2, h3, h4⟩

theorem arcCells_one (a : Arc) : ∀ u ∈ arcCells a, u.oneCell' = true := by simp [arcCells, Value.oneCell']
set_option maxHeartbeats 800000 in
theorem process_any (A1 A2 A3 : Option Addr) (c1 c2 c3 n1 n2 n3 : Nat) (q : Int) (w0 : World) :
    Calls Try.prog 90 #[.agg #[.slice A1 n1 c1, .slice A2 n2 c2, .slice A3 n3 c3], .int .i64 q] w0 fun e w' => e = .returned (.bool (decide (0 ≤ q ∧ q < n1))) ∧ Ext w0 w' := by
  have hS := St.start w0 NoM
  by_cases h0 : 0 ≤ q
  · have d0 : decide (0 ≤ q) = true := by simp [h0]
    go_enter Try.func90, Try.ntmps90
    go_wp2_with (first | (refine oL ?_; (first | refine sL1 hS rfl rfl rfl ?_ | refine sL2 hS rfl rfl rfl ?_ | refine sL3 hS rfl rfl ?_ | refine sL4 hS rfl rfl ?_ | refine sL5 hS rfl rfl ?_ | refine sL6 hS rfl rfl ?_ | refine sL7 hS rfl rfl ?_)) | ((first | (refine oB ?_; first | refine sB1 hS rfl rfl ?_ | refine sB2 hS rfl rfl ?_)); clear hS; first | ((fail_if_success guard_hyp g1); intro g1 w hS) | ((fail_if_success guard_hyp g2); intro g2 w hS) | fail) | fail)
    go_ret
    exact ⟨ret_bool (by simp [h0]), hS.toExt⟩
  · have d0 : decide (0 ≤ q) = false := by simp [h0]
    go_enter Try.func90, Try.ntmps90
    go_wp2_with (first | (refine oL ?_; (first | refine sL1 hS rfl rfl rfl ?_ | refine sL2 hS rfl rfl rfl ?_ | refine sL3 hS rfl rfl ?_ | refine sL4 hS rfl rfl ?_ | refine sL5 hS rfl rfl ?_ | refine sL6 hS rfl rfl ?_ | refine sL7 hS rfl rfl ?_)) | ((first | (refine oB ?_; first | refine sB1 hS rfl rfl ?_ | refine sB2 hS rfl rfl ?_)); clear hS; first | ((fail_if_success guard_hyp g1); intro g1 w hS) | ((fail_if_success guard_hyp g2); intro g2 w hS) | fail) | fail)
    go_ret
    exact ⟨ret_bool (by first | (simp; omega) | simp), hS.toExt⟩
set_option maxHeartbeats 800000 in
theorem proc_any (A1 A2 A3 : Option Addr) (c1 c2 c3 n1 n2 n3 : Nat) (q : Int) (w0 : World) :
    Calls Try.prog 70 #[.agg #[.slice A1 n1 c1, .slice A2 n2 c2, .slice A3 n3 c3], .int .i64 q] w0 fun e w' => e = .returned (.bool (decide (0 ≤ q ∧ q < n1))) ∧ Ext w0 w' := by
  have hS := St.start w0 NoM
  by_cases h0 : 0 ≤ q
  · have d0 : decide (0 ≤ q) = true := by simp [h0]
    go_enter Try.func70, Try.ntmps70
    go_wp2_with (first | (refine oL ?_; (first | refine sL1 hS rfl rfl rfl ?_ | refine sL2 hS rfl rfl rfl ?_ | refine sL3 hS rfl rfl ?_ | refine sL4 hS rfl rfl ?_ | refine sL5 hS rfl rfl ?_ | refine sL6 hS rfl rfl ?_ | refine sL7 hS rfl rfl ?_)) | ((first | (refine oB ?_; first | refine sB1 hS rfl rfl ?_ | refine sB2 hS rfl rfl ?_)); clear hS; first | ((fail_if_success guard_hyp g1); intro g1 w hS) | ((fail_if_success guard_hyp g2); intro g2 w hS) | fail) | fail)
    go_ret
    exact ⟨ret_bool (by simp [h0]), hS.toExt⟩
  · have d0 : decide (0 ≤ q) = false := by simp [h0]
    go_enter Try.func70, Try.ntmps70
    go_wp2_with (first | (refine oL ?_; (first | refine sL1 hS rfl rfl rfl ?_ | refine sL2 hS rfl rfl rfl ?_ | refine sL3 hS rfl rfl ?_ | refine sL4 hS rfl rfl ?_ | refine sL5 hS rfl rfl ?_ | refine sL6 hS rfl rfl ?_ | refine sL7 hS rfl rfl ?_)) | ((first | (refine oB ?_; first | refine sB1 hS rfl rfl ?_ | refine sB2 hS rfl rfl ?_)); clear hS; first | ((fail_if_success guard_hyp g1); intro g1 w hS) | ((fail_if_success guard_hyp g2); intro g2 w hS) | fail) | fail)
    go_ret
    exact ⟨ret_bool (by first | (simp; omega) | simp), hS.toExt⟩

/-- how many elements of the first k are below a number -/
def below (l : List Int) (x : Int) : Nat := (l.filter (fun y => decide (y < x))).length
theorem below_le (l : List Int) (x : Int) : below l x ≤ l.length := List.length_filter_le _ _
theorem below_step {l : List Int} {k : Nat} (hk : k < l.length) (x : Int) : below (l.take (k + 1)) x = below (l.take k) x + if l[k] < x then 1 else 0 := by
  rw [List.take_succ_eq_append_getElem hk]
  simp only [below, List.filter_append, List.length_append, List.filter_cons, List.filter_nil]
  by_cases h : l[k] < x <;> simp [h]

set_option maxHeartbeats 1600000 in
theorem rinterval_any {S : Nat → Prop} (A1 A2 A3 : Option Addr) (c1 c2 c3 n1 n3 : Nat) (ck : List (List Int)) (q : Nat) (x : Int) (w0 : World) (h2 : RR S w0 A2 ck) (hq : q < ck.length) (hck : ck.length ≤ 5) (hl : ck[q].length ≤ 100) :
    Calls Try.prog 53 #[.agg #[.slice A1 n1 c1, .slice A2 ck.length c2, .slice A3 n3 c3], .int .i64 (q : Int), .int .i64 x] w0 fun e w' => e = .returned (.int .i64 (below ck[q] x : Int)) ∧ Ext w0 w' := by
  have hS := St.start w0 NoM
  obtain ⟨b2, o2, B, c, rfl, _, hc2, hc, hc', hr⟩ := h2.atS hq
  have hq' : (q : Int) < ck.length := by omega
  generalize ck[q] = l at *
  clear h2
  go_enter Try.func53, Try.ntmps53
  go_wp2_with (first | (refine oL ?_; (first | refine sL1 hS rfl rfl rfl ?_ | refine sL2 hS rfl rfl rfl ?_ | refine sL3 hS rfl rfl ?_ | refine sL4 hS rfl rfl ?_ | refine sL5 hS rfl rfl ?_ | refine sL6 hS rfl rfl ?_ | refine sL7 hS rfl rfl ?_)) | ((first | (refine oB ?_; first | refine sB1 hS rfl rfl ?_ | refine sB2 hS rfl rfl ?_)); clear hS; first | ((fail_if_success guard_hyp g1); intro g1 w hS) | ((fail_if_success guard_hyp g2); intro g2 w hS) | fail) | fail)
  go_loopw [7, 8] (fun s7 s8 wr => ∃ (k m : Nat), k ≤ l.length ∧ m ≤ k ∧ Hid (m = below (l.take k) x) ∧ s7 = .int .i64 m ∧ s8 = .int .i64 k ∧ St w0 NoM [blk g1 [.slice A1 n1 c1, .slice (some ⟨b2, o2, none⟩) ck.length c2, .slice A3 n3 c3] 28] wr) (fun _ s8 _ => l.length - (intOf s8).toNat)
  case atStart => exact ⟨0, 0, by omega, by omega, Lib.hid rfl, rfl, rfl, hS⟩
  case round =>
    obtain ⟨k, m, hk, hm, HM, rfl, rfl, hS⟩ := hrel
    by_cases hlt : k < l.length
    · obtain ⟨b, o, rfl, _, hcb⟩ := hr.atS hlt
      have HB := Lib.hid (below_step hlt x)
      generalize l[k] = y at *
      by_cases hy : y < x
      all_goals
        go_wp2_with (first | (refine oL ?_; (first | refine sL1 hS rfl rfl rfl ?_ | refine sL2 hS rfl rfl rfl ?_ | refine sL3 hS rfl rfl ?_ | refine sL4 hS rfl rfl ?_ | refine sL5 hS rfl rfl ?_ | refine sL6 hS rfl rfl ?_ | refine sL7 hS rfl rfl ?_)) | ((first | (refine oB ?_; first | refine sB1 hS rfl rfl ?_ | refine sB2 hS rfl rfl ?_)); clear hS; first | ((fail_if_success guard_hyp g1); intro g1 w hS) | ((fail_if_success guard_hyp g2); intro g2 w hS) | fail) | fail)
        go_roundw
        case measure => simp [intOf]; omega
        have hb := HB.out
        have hm' := HM.out
        first
        | (rw [if_pos hy] at hb; exact ⟨k + 1, m + 1, by omega, by omega, Lib.hid (by omega), by go_num, by go_num, hS⟩)
        | (rw [if_neg hy] at hb; exact ⟨k + 1, m, by omega, by omega, Lib.hid (by omega), by go_num, by go_num, hS⟩)
    · go_wp2_with (first | (refine oL ?_; (first | refine sL1 hS rfl rfl rfl ?_ | refine sL2 hS rfl rfl rfl ?_ | refine sL3 hS rfl rfl ?_ | refine sL4 hS rfl rfl ?_ | refine sL5 hS rfl rfl ?_ | refine sL6 hS rfl rfl ?_ | refine sL7 hS rfl rfl ?_)) | ((first | (refine oB ?_; first | refine sB1 hS rfl rfl ?_ | refine sB2 hS rfl rfl ?_)); clear hS; first | ((fail_if_success guard_hyp g1); intro g1 w hS) | ((fail_if_success guard_hyp g2); intro g2 w hS) | fail) | fail)
      go_ret
      have : l.take k = l := List.take_of_length_le (by omega)
      have hm' := HM.out
      rw [this] at hm'
      exact ⟨by rw [hm']; rfl, hS.toExt⟩

set_option maxHeartbeats 1600000 in
theorem interval_any {S : Nat → Prop} (A1 A2 A3 : Option Addr) (c1 c2 c3 n1 n3 : Nat) (ck : List (List Int)) (q : Nat) (x : Int) (w0 : World) (h2 : RR S w0 A2 ck) (hq : q < ck.length) (hck : ck.length ≤ 5) (hl : ck[q].length ≤ 100) :
    Calls Try.prog 86 #[.agg #[.slice A1 n1 c1, .slice A2 ck.length c2, .slice A3 n3 c3], .int .i64 (q : Int), .int .i64 x] w0 fun e w' => e = .returned (.int .i64 (below ck[q] x : Int)) ∧ Ext w0 w' := by
  have hS := St.start w0 NoM
  obtain ⟨b2, o2, B, c, rfl, _, hc2, hc, hc', hr⟩ := h2.atS hq
  have hq' : (q : Int) < ck.length := by omega
  generalize ck[q] = l at *
  clear h2
  go_enter Try.func86, Try.ntmps86
  go_wp2_with (first | (refine oL ?_; (first | refine sL1 hS rfl rfl rfl ?_ | refine sL2 hS rfl rfl rfl ?_ | refine sL3 hS rfl rfl ?_ | refine sL4 hS rfl rfl ?_ | refine sL5 hS rfl rfl ?_ | refine sL6 hS rfl rfl ?_ | refine sL7 hS rfl rfl ?_)) | ((first | (refine oB ?_; first | refine sB1 hS rfl rfl ?_ | refine sB2 hS rfl rfl ?_)); clear hS; first | ((fail_if_success guard_hyp g1); intro g1 w hS) | ((fail_if_success guard_hyp g2); intro g2 w hS) | fail) | fail)
  go_loopw [7, 25] (fun s7 s8 wr => ∃ (k m : Nat), k ≤ l.length ∧ m ≤ k ∧ Hid (m = below (l.take k) x) ∧ s7 = .int .i64 m ∧ s8 = .int .i64 k ∧ St w0 NoM [blk g1 [.slice A1 n1 c1, .slice (some ⟨b2, o2, none⟩) ck.length c2, .slice A3 n3 c3] 28] wr) (fun _ s8 _ => l.length - (intOf s8).toNat)
  case atStart => exact ⟨0, 0, by omega, by omega, Lib.hid rfl, rfl, rfl, hS⟩
  case round =>
    obtain ⟨k, m, hk, hm, HM, rfl, rfl, hS⟩ := hrel
    by_cases hlt : k < l.length
    · obtain ⟨b, o, rfl, _, hcb⟩ := hr.atS hlt
      have HB := Lib.hid (below_step hlt x)
      generalize l[k] = y at *
      by_cases hy : y < x
      all_goals
        go_wp2_with (first | (refine oL ?_; (first | refine sL1 hS rfl rfl rfl ?_ | refine sL2 hS rfl rfl rfl ?_ | refine sL3 hS rfl rfl ?_ | refine sL4 hS rfl rfl ?_ | refine sL5 hS rfl rfl ?_ | refine sL6 hS rfl rfl ?_ | refine sL7 hS rfl rfl ?_)) | ((first | (refine oB ?_; first | refine sB1 hS rfl rfl ?_ | refine sB2 hS rfl rfl ?_)); clear hS; first | ((fail_if_success guard_hyp g1); intro g1 w hS) | ((fail_if_success guard_hyp g2); intro g2 w hS) | fail) | fail)
        go_roundw
        case measure => simp [intOf]; omega
        have hb := HB.out
        have hm' := HM.out
        first
        | (rw [if_pos hy] at hb; exact ⟨k + 1, m + 1, by omega, by omega, Lib.hid (by omega), by go_num, by go_num, hS⟩)
        | (rw [if_neg hy] at hb; exact ⟨k + 1, m, by omega, by omega, Lib.hid (by omega), by go_num, by go_num, hS⟩)
    · go_wp2_with (first | (refine oL ?_; (first | refine sL1 hS rfl rfl rfl ?_ | refine sL2 hS rfl rfl rfl ?_ | refine sL3 hS rfl rfl ?_ | refine sL4 hS rfl rfl ?_ | refine sL5 hS rfl rfl ?_ | refine sL6 hS rfl rfl ?_ | refine sL7 hS rfl rfl ?_)) | ((first | (refine oB ?_; first | refine sB1 hS rfl rfl ?_ | refine sB2 hS rfl rfl ?_)); clear hS; first | ((fail_if_success guard_hyp g1); intro g1 w hS) | ((fail_if_success guard_hyp g2); intro g2 w hS) | fail) | fail)
      go_ret
      have : l.take k = l := List.take_of_length_le (by omega)
      have hm' := HM.out
      rw [this] at hm'
      exact ⟨by rw [hm']; rfl, hS.toExt⟩

end Go.Proofs.Ytkflmichekpfbaa
