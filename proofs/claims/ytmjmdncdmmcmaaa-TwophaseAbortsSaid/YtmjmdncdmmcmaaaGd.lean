/- Patterns: process, Interval, Same, of the program and of the reference. Conditions: the lists lie in memory; lengths within range. -/
import Derived.Test.YtmjmdncdmmcmaaaGc
import Derived.Test.YtmjmdncdmmcmaaaGa
import Derived.IntWalk
import Derived.Test.YtmjmdncdmmcmaaaOwnQ
import Derived.Lib.SliceRun
import Derived.WalkMore
namespace Go.Proofs.Ytmjmdncdmmcmaaa
open Go.RowKit
set_option linter.unusedVariables false
set_option linter.unusedSimpArgs false

theorem RA.cells {S : Nat → Prop} {w : World} {A : Option Addr} {az : List Arc} (h : RA S w A az) {j : Nat} (hj : j < az.length) : ∃ b o, A = some ⟨b, o, none⟩ ∧ S b ∧ Cells w b (o + j * 4) (arcCells az[j]) := by
  obtain ⟨vs, h1, h2⟩ := h
  obtain ⟨b, o, cs, e1, _, hr, hc⟩ := RL.at_ ⟨vs, h1, h2⟩ hj (by omega)
  have hv : j * 4 < vs.length := by rw [h2.length]; omega
  obtain ⟨b', o', e2, hs⟩ := h1.at_block hv
  rw [e1] at e2
  injection e2 with e2; injection e2 with e2 e3; subst e2; subst e3
  have e : cs = arcCells az[j] := hr
  subst e
  refine ⟨b, o, e1, hs, fun i u hu => ?_⟩
  have hi : i < 4 := by
    rcases Nat.lt_or_ge i 4 with h1 | h1
    · exact h1
    · rw [List.getElem?_eq_none (by simpa [arcCells] using h1)] at hu; cases hu
  rw [hc i hi]; exact hu
theorem RR.atS {S : Nat → Prop} {w : World} {A : Option Addr} {ls : List (List Int)} (h : RR S w A ls) {j : Nat} (hj : j < ls.length) :
    ∃ b o B c, A = some ⟨b, o, none⟩ ∧ S b ∧ w.cell? ⟨b, o + j, none⟩ = some (.slice B ls[j].length c) ∧ ls[j].length ≤ c ∧ c ≤ 9223372036854775807 ∧ RI S w B ls[j] := by
  obtain ⟨b, o, B, c, e1, h1, h2, h3, h4⟩ := h.at_ hj
  obtain ⟨vs, h5, h6⟩ := h
  have hv : j < vs.length := by rw [h6.length]; omega
  obtain ⟨b', o', e2, hs⟩ := h5.at_block hv
  rw [e1] at e2
  injection e2 with e2; injection e2 with e2 e3; subst e2; subst e3
  rw [rowOf_eq hj] at h1 h2 h4
  exact ⟨b, o, B, c, e1, hs, h1, h2, h3, h4⟩

theorem arcCells_one (a : Arc) : ∀ u ∈ arcCells a, u.oneCell' = true := by simp [arcCells, Value.oneCell']
set_option maxHeartbeats 800000 in
theorem process_any (A1 A2 A3 : Option Addr) (c1 c2 c3 n1 n2 n3 : Nat) (q : Int) (w0 : World) :
    Calls Try.prog 101 #[.agg #[.slice A1 n1 c1, .slice A2 n2 c2, .slice A3 n3 c3], .int .i64 q] w0 fun e w' => e = .returned (.bool (decide (0 ≤ q ∧ q < n1))) ∧ Ext w0 w' := by
  have hS := St.start w0 NoM
  by_cases h0 : 0 ≤ q
  · have d0 : decide (0 ≤ q) = true := by simp [h0]
    go_enter Try.func101, Try.ntmps101
    go_wp2_with (first | (refine oL ?_; (first | refine sL1 hS rfl rfl rfl ?_ | refine sL2 hS rfl rfl rfl ?_ | refine sL3 hS rfl rfl ?_ | refine sL4 hS rfl rfl ?_ | refine sL5 hS rfl rfl ?_ | refine sL6 hS rfl rfl ?_ | refine sL7 hS rfl rfl ?_)) | ((first | (refine oB ?_; first | refine sB1 hS rfl rfl ?_ | refine sB2 hS rfl rfl ?_)); clear hS; first | ((fail_if_success guard_hyp g1); intro g1 w hS) | ((fail_if_success guard_hyp g2); intro g2 w hS) | fail) | fail)
    go_ret
    exact ⟨ret_bool (by simp [h0]), hS.toExt⟩
  · have d0 : decide (0 ≤ q) = false := by simp [h0]
    go_enter Try.func101, Try.ntmps101
    go_wp2_with (first | (refine oL ?_; (first | refine sL1 hS rfl rfl rfl ?_ | refine sL2 hS rfl rfl rfl ?_ | refine sL3 hS rfl rfl ?_ | refine sL4 hS rfl rfl ?_ | refine sL5 hS rfl rfl ?_ | refine sL6 hS rfl rfl ?_ | refine sL7 hS rfl rfl ?_)) | ((first | (refine oB ?_; first | refine sB1 hS rfl rfl ?_ | refine sB2 hS rfl rfl ?_)); clear hS; first | ((fail_if_success guard_hyp g1); intro g1 w hS) | ((fail_if_success guard_hyp g2); intro g2 w hS) | fail) | fail)
    go_ret
    exact ⟨ret_bool (by first | (simp; omega) | simp), hS.toExt⟩
set_option maxHeartbeats 800000 in
theorem proc_any (A1 A2 A3 : Option Addr) (c1 c2 c3 n1 n2 n3 : Nat) (q : Int) (w0 : World) :
    Calls Try.prog 103 #[.agg #[.slice A1 n1 c1, .slice A2 n2 c2, .slice A3 n3 c3], .int .i64 q] w0 fun e w' => e = .returned (.bool (decide (0 ≤ q ∧ q < n1))) ∧ Ext w0 w' := by
  have hS := St.start w0 NoM
  by_cases h0 : 0 ≤ q
  · have d0 : decide (0 ≤ q) = true := by simp [h0]
    go_enter Try.func103, Try.ntmps103
    go_wp2_with (first | (refine oL ?_; (first | refine sL1 hS rfl rfl rfl ?_ | refine sL2 hS rfl rfl rfl ?_ | refine sL3 hS rfl rfl ?_ | refine sL4 hS rfl rfl ?_ | refine sL5 hS rfl rfl ?_ | refine sL6 hS rfl rfl ?_ | refine sL7 hS rfl rfl ?_)) | ((first | (refine oB ?_; first | refine sB1 hS rfl rfl ?_ | refine sB2 hS rfl rfl ?_)); clear hS; first | ((fail_if_success guard_hyp g1); intro g1 w hS) | ((fail_if_success guard_hyp g2); intro g2 w hS) | fail) | fail)
    go_ret
    exact ⟨ret_bool (by simp [h0]), hS.toExt⟩
  · have d0 : decide (0 ≤ q) = false := by simp [h0]
    go_enter Try.func103, Try.ntmps103
    go_wp2_with (first | (refine oL ?_; (first | refine sL1 hS rfl rfl rfl ?_ | refine sL2 hS rfl rfl rfl ?_ | refine sL3 hS rfl rfl ?_ | refine sL4 hS rfl rfl ?_ | refine sL5 hS rfl rfl ?_ | refine sL6 hS rfl rfl ?_ | refine sL7 hS rfl rfl ?_)) | ((first | (refine oB ?_; first | refine sB1 hS rfl rfl ?_ | refine sB2 hS rfl rfl ?_)); clear hS; first | ((fail_if_success guard_hyp g1); intro g1 w hS) | ((fail_if_success guard_hyp g2); intro g2 w hS) | fail) | fail)
    go_ret
    exact ⟨ret_bool (by first | (simp; omega) | simp), hS.toExt⟩

/-- how many elements of the first k are below a number -/
def below (l : List Int) (x : Int) : Nat := (l.filter (fun y => decide (y < x))).length
theorem below_le (l : List Int) (x : Int) : below l x ≤ l.length := List.length_filter_le _ _
theorem below_step {l : List Int} {k : Nat} (hk : k < l.length) (x : Int) : below (l.take (k + 1)) x = below (l.take k) x + if l[k] < x then 1 else 0 := by
  rw [List.take_succ_eq_append_getElem hk]
  simp only [below, List.filter_append, List.length_append, List.filter_cons, List.filter_nil]
  by_cases h : l[k] < x <;> simp [h]

set_option maxHeartbeats 400000 in
theorem rsameInts_eq {S T : Nat → Prop} (A B : Option Addr) (c d : Nat) (xs : List Int) (w0 : World) (ha : RI S w0 A xs) (hb : RI T w0 B xs) (hx : xs.length ≤ 1000000) :
    Calls Try.prog 77 #[.slice A xs.length c, .slice B xs.length d] w0 fun e w' => e = .returned (.bool true) ∧ Ext w0 w' := by
  have hS := St.start w0 NoM
  have hl1 : ((xs.length : Int) != (xs.length : Int)) = false := by simp
  go_enter Try.func77, Try.ntmps77
  go_wp2_with (fail)
  clear hl1
  go_loopw [5] (fun i wr => ∃ k : Nat, k ≤ xs.length ∧ i = .int .i64 k ∧ St w0 NoM [] wr) (fun i _ => xs.length - (intOf i).toNat)
  case atStart => exact ⟨0, Nat.zero_le _, rfl, hS⟩
  case round =>
    obtain ⟨k, hk, rfl, hS⟩ := hrel
    by_cases hlt : k < xs.length
    · obtain ⟨b1, o1, rfl, _, hca⟩ := ha.atS hlt
      obtain ⟨b2, o2, rfl, _, hcb⟩ := hb.atS hlt
      have he1 : (xs[k] != xs[k]) = false := by simp
      go_wp2_with (fail)
      refine dr_start0 []  hS (by kernel_rfl) rfl ?_; clear hS; intro w hS
      refine dM hS 0 rfl rfl rfl ?_
      (try simp only [Act.put, nA, nB, nC])
      refine dM hS 1 rfl rfl rfl ?_
      (try simp only [Act.put, nA, nB, nC])
      refine dP hS 2 rfl rfl ?_
      (try simp only [Act.put, nA, nB, nC])
      first | refine dL1 hS 3 rfl rfl rfl rfl ?_ | refine dL2 hS 3 rfl rfl rfl rfl ?_ | refine dL3 hS 3 rfl rfl rfl ?_ | refine dL4 hS 3 rfl rfl rfl ?_ | refine dL5 hS 3 rfl rfl rfl ?_ | refine dL6 hS 3 rfl rfl rfl ?_ | refine dL7 hS 3 rfl rfl rfl ?_
      (try simp only [Act.put, nA, nB, nC])
      refine dM hS 4 rfl rfl rfl ?_
      (try simp only [Act.put, nA, nB, nC])
      refine dM hS 5 rfl rfl rfl ?_
      (try simp only [Act.put, nA, nB, nC])
      refine dP hS 6 rfl rfl ?_
      (try simp only [Act.put, nA, nB, nC])
      first | refine dL1 hS 7 rfl rfl rfl rfl ?_ | refine dL2 hS 7 rfl rfl rfl rfl ?_ | refine dL3 hS 7 rfl rfl rfl ?_ | refine dL4 hS 7 rfl rfl rfl ?_ | refine dL5 hS 7 rfl rfl rfl ?_ | refine dL6 hS 7 rfl rfl rfl ?_ | refine dL7 hS 7 rfl rfl rfl ?_
      (try simp only [Act.put, nA, nB, nC])
      refine dP hS 8 rfl rfl ?_
      (try simp only [Act.put, nA, nB, nC])
      refine dr_done (by kernel_rfl) ?_
      go_wp2_with (fail)
      go_roundw
      case rel => exact ⟨k + 1, by omega, by go_num, hS⟩
      case measure => simp [intOf]; omega
    · go_wp2_with (fail)
      go_ret
      exact ⟨rfl, hS.toExt⟩

set_option maxHeartbeats 1600000 in
/-- two equal patterns are found the same -/
theorem same_eq {S T : Nat → Prop} (A1 A2 A3 B1 B2 B3 : Option Addr) (c1 c2 c3 d1 d2 d3 : Nat) (p : Pat) (w0 : World) (h1 : RI S w0 A1 p.len) (h2 : RR S w0 A2 p.ck) (h3 : RA S w0 A3 p.arcs) (k1 : RI T w0 B1 p.len) (k2 : RR T w0 B2 p.ck) (k3 : RA T w0 B3 p.arcs)
    (hl : p.len.length ≤ 1000000) (hc : p.ck.length ≤ 1000000) (hr : ∀ l ∈ p.ck, l.length ≤ 1000000) (ha : p.arcs.length ≤ 1000000) :
    Calls Try.prog 39 #[.agg #[.slice A1 p.len.length c1, .slice A2 p.ck.length c2, .slice A3 p.arcs.length c3], .agg #[.slice B1 p.len.length d1, .slice B2 p.ck.length d2, .slice B3 p.arcs.length d3]] w0 fun e w' => e = .returned (.bool true) ∧ Ext w0 w' := by
  have hS := St.start w0 NoM
  have HR := Lib.hid hr
  clear hr
  have e2 : ((p.ck.length : Int) != (p.ck.length : Int)) = false := by simp
  have e3 : ((p.arcs.length : Int) != (p.arcs.length : Int)) = false := by simp
  go_enter Try.func39, Try.ntmps39
  go_wp2_with (first | (go_at_call 77; refine (rsameInts_eq _ _ _ _ p.len _ (h1.ext hS.toExt) (k1.ext hS.toExt) hl).mono ?_; rintro e w ⟨rfl, hx1⟩; have hS := hS.ext hx1) | (refine oL ?_; (first | refine sL1 hS rfl rfl rfl ?_ | refine sL2 hS rfl rfl rfl ?_ | refine sL3 hS rfl rfl ?_ | refine sL4 hS rfl rfl ?_ | refine sL5 hS rfl rfl ?_ | refine sL6 hS rfl rfl ?_ | refine sL7 hS rfl rfl ?_)) | ((first | (refine oB ?_; first | refine sB1 hS rfl rfl ?_ | refine sB2 hS rfl rfl ?_)); clear hS; first | ((fail_if_success guard_hyp g1); intro g1 w hS) | ((fail_if_success guard_hyp g2); intro g2 w hS) | ((fail_if_success guard_hyp g3); intro g3 w hS) | fail) | fail)
  clear e2 e3
  go_loopw [5] (fun i wr => ∃ k : Nat, k ≤ p.ck.length ∧ i = .int .i64 k ∧ St w0 NoM [blk g2 [.slice B1 p.len.length d1, .slice B2 p.ck.length d2, .slice B3 p.arcs.length d3] 44, blk g1 [.slice A1 p.len.length c1, .slice A2 p.ck.length c2, .slice A3 p.arcs.length c3] 44] wr) (fun i _ => p.ck.length - (intOf i).toNat)
  case atStart => exact ⟨0, Nat.zero_le _, rfl, hS⟩
  case round =>
    obtain ⟨k, hk, rfl, hS⟩ := hrel
    by_cases hlt : k < p.ck.length
    · obtain ⟨b1, o1, B, cB, rfl, _, hca, _, _, hra⟩ := h2.atS hlt
      obtain ⟨b2, o2, C, cC, rfl, _, hcb, _, _, hrb⟩ := k2.atS hlt
      have hrl := HR.out _ (List.getElem_mem hlt)
      go_wp2_with (first | (refine oL ?_; (first | refine sL1 hS rfl rfl rfl ?_ | refine sL2 hS rfl rfl rfl ?_ | refine sL3 hS rfl rfl ?_ | refine sL4 hS rfl rfl ?_ | refine sL5 hS rfl rfl ?_ | refine sL6 hS rfl rfl ?_ | refine sL7 hS rfl rfl ?_)) | ((first | (refine oB ?_; first | refine sB1 hS rfl rfl ?_ | refine sB2 hS rfl rfl ?_)); clear hS; first | ((fail_if_success guard_hyp g1); intro g1 w hS) | ((fail_if_success guard_hyp g2); intro g2 w hS) | ((fail_if_success guard_hyp g3); intro g3 w hS) | fail) | fail)
      refine dr_start0 []  hS (by kernel_rfl) rfl ?_; clear hS; intro w hS
      refine dP hS 0 rfl rfl ?_
      (try simp only [Act.put, nA, nB, nC])
      first | refine dL1 hS 1 rfl rfl rfl rfl ?_ | refine dL2 hS 1 rfl rfl rfl rfl ?_ | refine dL3 hS 1 rfl rfl rfl ?_ | refine dL4 hS 1 rfl rfl rfl ?_ | refine dL5 hS 1 rfl rfl rfl ?_ | refine dL6 hS 1 rfl rfl rfl ?_ | refine dL7 hS 1 rfl rfl rfl ?_
      (try simp only [Act.put, nA, nB, nC])
      refine dM hS 2 rfl rfl rfl ?_
      (try simp only [Act.put, nA, nB, nC])
      refine dP hS 3 rfl rfl ?_
      (try simp only [Act.put, nA, nB, nC])
      first | refine dL1 hS 4 rfl rfl rfl rfl ?_ | refine dL2 hS 4 rfl rfl rfl rfl ?_ | refine dL3 hS 4 rfl rfl rfl ?_ | refine dL4 hS 4 rfl rfl rfl ?_ | refine dL5 hS 4 rfl rfl rfl ?_ | refine dL6 hS 4 rfl rfl rfl ?_ | refine dL7 hS 4 rfl rfl rfl ?_
      (try simp only [Act.put, nA, nB, nC])
      refine dP hS 5 rfl rfl ?_
      (try simp only [Act.put, nA, nB, nC])
      first | refine dL1 hS 6 rfl rfl rfl rfl ?_ | refine dL2 hS 6 rfl rfl rfl rfl ?_ | refine dL3 hS 6 rfl rfl rfl ?_ | refine dL4 hS 6 rfl rfl rfl ?_ | refine dL5 hS 6 rfl rfl rfl ?_ | refine dL6 hS 6 rfl rfl rfl ?_ | refine dL7 hS 6 rfl rfl rfl ?_
      (try simp only [Act.put, nA, nB, nC])
      refine dM hS 7 rfl rfl rfl ?_
      (try simp only [Act.put, nA, nB, nC])
      refine dP hS 8 rfl rfl ?_
      (try simp only [Act.put, nA, nB, nC])
      first | refine dL1 hS 9 rfl rfl rfl rfl ?_ | refine dL2 hS 9 rfl rfl rfl rfl ?_ | refine dL3 hS 9 rfl rfl rfl ?_ | refine dL4 hS 9 rfl rfl rfl ?_ | refine dL5 hS 9 rfl rfl rfl ?_ | refine dL6 hS 9 rfl rfl rfl ?_ | refine dL7 hS 9 rfl rfl rfl ?_
      (try simp only [Act.put, nA, nB, nC])
      refine dr_one 10 (by kernel_rfl) rfl ?_
      (refine st_call rfl (by kernel_rfl) rfl ?_; refine (rsameInts_eq _ _ _ _ p.ck[k] _ (hra.ext hS.toExt) (hrb.ext hS.toExt) hrl).mono ?_; rintro e w ⟨rfl, hx1⟩; have hS := hS.ext hx1)
      (try simp only [Act.put, nA, nB, nC])
      refine dr_end hS ?_
      refine dP hS 11 rfl rfl ?_
      (try simp only [Act.put, nA, nB, nC])
      refine dr_done (by kernel_rfl) ?_
      go_wp2_with (first | (refine oL ?_; (first | refine sL1 hS rfl rfl rfl ?_ | refine sL2 hS rfl rfl rfl ?_ | refine sL3 hS rfl rfl ?_ | refine sL4 hS rfl rfl ?_ | refine sL5 hS rfl rfl ?_ | refine sL6 hS rfl rfl ?_ | refine sL7 hS rfl rfl ?_)) | ((first | (refine oB ?_; first | refine sB1 hS rfl rfl ?_ | refine sB2 hS rfl rfl ?_)); clear hS; first | ((fail_if_success guard_hyp g1); intro g1 w hS) | ((fail_if_success guard_hyp g2); intro g2 w hS) | ((fail_if_success guard_hyp g3); intro g3 w hS) | fail) | fail)
      go_roundw
      case rel => exact ⟨k + 1, by omega, by go_num, hS⟩
      case measure => simp [intOf]; omega
    · go_wp2_with (first | (refine oL ?_; (first | refine sL1 hS rfl rfl rfl ?_ | refine sL2 hS rfl rfl rfl ?_ | refine sL3 hS rfl rfl ?_ | refine sL4 hS rfl rfl ?_ | refine sL5 hS rfl rfl ?_ | refine sL6 hS rfl rfl ?_ | refine sL7 hS rfl rfl ?_)) | ((first | (refine oB ?_; first | refine sB1 hS rfl rfl ?_ | refine sB2 hS rfl rfl ?_)); clear hS; first | ((fail_if_success guard_hyp g1); intro g1 w hS) | ((fail_if_success guard_hyp g2); intro g2 w hS) | ((fail_if_success guard_hyp g3); intro g3 w hS) | fail) | fail)
      go_loopw [6] (fun i wr => ∃ k : Nat, k ≤ p.arcs.length ∧ i = .int .i64 k ∧ St w0 NoM [blk g2 [.slice B1 p.len.length d1, .slice B2 p.ck.length d2, .slice B3 p.arcs.length d3] 44, blk g1 [.slice A1 p.len.length c1, .slice A2 p.ck.length c2, .slice A3 p.arcs.length c3] 44] wr) (fun i _ => p.arcs.length - (intOf i).toNat)
      case atStart => exact ⟨0, Nat.zero_le _, rfl, hS⟩
      case round =>
        obtain ⟨k, hk, rfl, hS⟩ := hrel
        by_cases hlt : k < p.arcs.length
        · obtain ⟨b1, o1, rfl, _, hca⟩ := h3.cells hlt
          obtain ⟨b2, o2, rfl, _, hcb⟩ := k3.cells hlt
          generalize p.arcs[k] = ar at *
          simp only [arcCells] at hca hcb
          go_wp2_with (first | (refine oL ?_; (first | refine sL1 hS rfl rfl rfl ?_ | refine sL2 hS rfl rfl rfl ?_ | refine sL3 hS rfl rfl ?_ | refine sL4 hS rfl rfl ?_ | refine sL5 hS rfl rfl ?_ | refine sL6 hS rfl rfl ?_ | refine sL7 hS rfl rfl ?_)) | ((first | (refine oB ?_; first | refine sB1 hS rfl rfl ?_ | refine sB2 hS rfl rfl ?_)); clear hS; first | ((fail_if_success guard_hyp g1); intro g1 w hS) | ((fail_if_success guard_hyp g2); intro g2 w hS) | ((fail_if_success guard_hyp g3); intro g3 w hS) | fail) | fail)
          refine dr_start0 []  hS (by kernel_rfl) rfl ?_; clear hS; intro w hS
          refine dP hS 0 rfl rfl ?_
          (try simp only [Act.put, nA, nB, nC])
          first | refine dL1 hS 1 rfl rfl rfl rfl ?_ | refine dL2 hS 1 rfl rfl rfl rfl ?_ | refine dL3 hS 1 rfl rfl rfl ?_ | refine dL4 hS 1 rfl rfl rfl ?_ | refine dL5 hS 1 rfl rfl rfl ?_ | refine dL6 hS 1 rfl rfl rfl ?_ | refine dL7 hS 1 rfl rfl rfl ?_
          (try simp only [Act.put, nA, nB, nC])
          refine dM hS 2 rfl rfl rfl ?_
          (try simp only [Act.put, nA, nB, nC])
          refine dP hS 3 rfl rfl ?_
          (try simp only [Act.put, nA, nB, nC])
          first | refine dL1 hS 4 rfl rfl rfl rfl ?_ | refine dL2 hS 4 rfl rfl rfl rfl ?_ | refine dL3 hS 4 rfl rfl rfl ?_ | refine dL4 hS 4 rfl rfl rfl ?_ | refine dL5 hS 4 rfl rfl rfl ?_ | refine dL6 hS 4 rfl rfl rfl ?_ | refine dL7 hS 4 rfl rfl rfl ?_
          (try simp only [Act.put, nA, nB, nC])
          refine dP hS 5 rfl rfl ?_
          (try simp only [Act.put, nA, nB, nC])
          first | refine dL1 hS 6 rfl rfl rfl rfl ?_ | refine dL2 hS 6 rfl rfl rfl rfl ?_ | refine dL3 hS 6 rfl rfl rfl ?_ | refine dL4 hS 6 rfl rfl rfl ?_ | refine dL5 hS 6 rfl rfl rfl ?_ | refine dL6 hS 6 rfl rfl rfl ?_ | refine dL7 hS 6 rfl rfl rfl ?_
          (try simp only [Act.put, nA, nB, nC])
          refine dM hS 7 rfl rfl rfl ?_
          (try simp only [Act.put, nA, nB, nC])
          refine dP hS 8 rfl rfl ?_
          (try simp only [Act.put, nA, nB, nC])
          first | refine dL1 hS 9 rfl rfl rfl rfl ?_ | refine dL2 hS 9 rfl rfl rfl rfl ?_ | refine dL3 hS 9 rfl rfl rfl ?_ | refine dL4 hS 9 rfl rfl rfl ?_ | refine dL5 hS 9 rfl rfl rfl ?_ | refine dL6 hS 9 rfl rfl rfl ?_ | refine dL7 hS 9 rfl rfl rfl ?_
          (try simp only [Act.put, nA, nB, nC])
          refine dP hS 10 rfl rfl ?_
          (try simp only [Act.put, nA, nB, nC])
          refine dr_done (by kernel_rfl) ?_
          go_wp2_with (first | (refine oL ?_; (first | refine sL1 hS rfl rfl rfl ?_ | refine sL2 hS rfl rfl rfl ?_ | refine sL3 hS rfl rfl ?_ | refine sL4 hS rfl rfl ?_ | refine sL5 hS rfl rfl ?_ | refine sL6 hS rfl rfl ?_ | refine sL7 hS rfl rfl ?_)) | ((first | (refine oB ?_; first | refine sB1 hS rfl rfl ?_ | refine sB2 hS rfl rfl ?_)); clear hS; first | ((fail_if_success guard_hyp g1); intro g1 w hS) | ((fail_if_success guard_hyp g2); intro g2 w hS) | ((fail_if_success guard_hyp g3); intro g3 w hS) | fail) | fail)
          go_roundw
          case rel => exact ⟨k + 1, by omega, by go_num, hS⟩
          case measure => simp [intOf]; omega
        · go_wp2_with (first | (refine oL ?_; (first | refine sL1 hS rfl rfl rfl ?_ | refine sL2 hS rfl rfl rfl ?_ | refine sL3 hS rfl rfl ?_ | refine sL4 hS rfl rfl ?_ | refine sL5 hS rfl rfl ?_ | refine sL6 hS rfl rfl ?_ | refine sL7 hS rfl rfl ?_)) | ((first | (refine oB ?_; first | refine sB1 hS rfl rfl ?_ | refine sB2 hS rfl rfl ?_)); clear hS; first | ((fail_if_success guard_hyp g1); intro g1 w hS) | ((fail_if_success guard_hyp g2); intro g2 w hS) | ((fail_if_success guard_hyp g3); intro g3 w hS) | fail) | fail)
          go_ret
          exact ⟨rfl, hS.toExt⟩
end Go.Proofs.Ytmjmdncdmmcmaaa

/- Cuts: orphans of a cut, by the program and by the reference. Conditions: the pattern and the list lie in memory, arcs in range. -/
namespace Go.Proofs.Ytmjmdncdmmcmaaa
open Go.RowKit
set_option linter.unusedVariables false
set_option linter.unusedSimpArgs false

/-- is an arc received up to a cut and sent behind it -/
def orph (a : Arc) (x : List Int) : Bool := decide (0 < a.at_) && decide (a.at_ ≤ nth x a.to) && decide (nth x a.fr < a.ix)

set_option maxHeartbeats 800000 in
theorem rorphan_any {S : Nat → Prop} (X : Option Addr) (c : Nat) (ar : Arc) (xs : List Int) (w : World) (hx : RI S w X xs) (hf : ar.fr < xs.length) (ht : ar.to < xs.length) (h0 : 0 ≤ ar.at_) :
    Calls Try.prog 89 #[.agg (arcCells ar).toArray, .slice X xs.length c] w fun e w' => e = .returned (.bool (orph ar xs)) ∧ Ext w w' := by
  have hE := (Ext.refl' w).alloc' (.cells (arcCells ar).toArray 84)
  obtain ⟨b, o, rfl, hc1⟩ := hx.atN hf
  obtain ⟨_, _, e9, hc2⟩ := hx.atN ht
  injection e9 with e9; injection e9 with e9 e10; subst e9; subst e10
  have f1 := hE.cell hc1
  have f2 := hE.cell hc2
  have hf' : (ar.fr : Int) < xs.length := by omega
  have ht' : (ar.to : Int) < xs.length := by omega
  have HE := Lib.hid hE
  have horph : orph ar xs = (decide (0 < ar.at_) && decide (ar.at_ ≤ nth xs ar.to) && decide (nth xs ar.fr < ar.ix)) := rfl
  rw [horph]
  clear horph hE hc1 hc2 hx h0
  generalize nth xs ar.to = y1 at *
  generalize nth xs ar.fr = y2 at *
  simp only [arcCells] at *
  obtain ⟨fr, ix, to, at_⟩ := ar
  simp only at *
  by_cases h1 : 0 < at_
  · by_cases h2 : at_ ≤ y1
    · have d1 : decide (0 < at_) = true := by simp [h1]
      have d2 : decide (at_ ≤ y1) = true := by simp [h2]
      go_enter Try.func89, Try.ntmps89
      go_wp2
      go_quiet (fail)
      go_wp2
      go_ret
      exact ⟨ret_bool (by rw [d1, d2]; simp), HE.out.drewN' _⟩
    · have d1 : decide (0 < at_) = true := by simp [h1]
      have d2 : decide (at_ ≤ y1) = false := by simp [h2]
      go_enter Try.func89, Try.ntmps89
      go_wp2
      go_quiet (fail)
      go_wp2
      go_ret
      exact ⟨ret_bool (by rw [d1, d2]; simp), HE.out.drewN' _⟩
  · have d1 : decide (0 < at_) = false := by simp [h1]
    go_enter Try.func89, Try.ntmps89
    go_wp2
    go_quiet (fail)
    go_wp2
    go_ret
    exact ⟨ret_bool (by rw [d1]; simp), HE.out.drewN' _⟩

set_option maxHeartbeats 800000 in
theorem orphan_any {S : Nat → Prop} (X : Option Addr) (c : Nat) (ar : Arc) (xs : List Int) (w : World) (hx : RI S w X xs) (hf : ar.fr < xs.length) (ht : ar.to < xs.length) (h0 : 0 ≤ ar.at_) :
    Calls Try.prog 91 #[.agg (arcCells ar).toArray, .slice X xs.length c] w fun e w' => e = .returned (.bool (orph ar xs)) ∧ Ext w w' := by
  have hE := (Ext.refl' w).alloc' (.cells (arcCells ar).toArray 84)
  obtain ⟨b, o, rfl, hc1⟩ := hx.atN hf
  obtain ⟨_, _, e9, hc2⟩ := hx.atN ht
  injection e9 with e9; injection e9 with e9 e10; subst e9; subst e10
  have f1 := hE.cell hc1
  have f2 := hE.cell hc2
  have hf' : (ar.fr : Int) < xs.length := by omega
  have ht' : (ar.to : Int) < xs.length := by omega
  have HE := Lib.hid hE
  have horph : orph ar xs = (decide (0 < ar.at_) && decide (ar.at_ ≤ nth xs ar.to) && decide (nth xs ar.fr < ar.ix)) := rfl
  rw [horph]
  clear horph hE hc1 hc2 hx
  generalize nth xs ar.to = y1 at *
  generalize nth xs ar.fr = y2 at *
  simp only [arcCells] at *
  obtain ⟨fr, ix, to, at_⟩ := ar
  simp only at *
  by_cases h1 : 0 < at_
  · by_cases h2 : at_ ≤ y1
    · have d0 : (at_ != 0) = true := by simp; omega
      have d1 : decide (0 < at_) = true := by simp [h1]
      have d2 : decide (at_ ≤ y1) = true := by simp [h2]
      go_enter Try.func91, Try.ntmps91
      go_wp2
      go_quiet (fail)
      go_wp2
      go_ret
      exact ⟨ret_bool (by rw [d1, d2]; simp), HE.out.drewN' _⟩
    · have d0 : (at_ != 0) = true := by simp; omega
      have d1 : decide (0 < at_) = true := by simp [h1]
      have d2 : decide (at_ ≤ y1) = false := by simp [h2]
      go_enter Try.func91, Try.ntmps91
      go_wp2
      go_quiet (fail)
      go_wp2
      go_ret
      exact ⟨ret_bool (by rw [d1, d2]; simp), HE.out.drewN' _⟩
  · have d0 : (at_ != 0) = false := by simp; omega
    have d1 : decide (0 < at_) = false := by simp [h1]
    go_enter Try.func91, Try.ntmps91
    go_wp2
    go_quiet (fail)
    go_wp2
    go_ret
    exact ⟨ret_bool (by rw [d1]; simp), HE.out.drewN' _⟩

/-- the places of the arcs that a test takes -/
def idxs (f : Arc → Bool) (l : List Arc) (k : Nat) : List Int := ((List.range k).filter (fun i => (l[i]?).any f)).map (fun (i : Nat) => (i : Int))
theorem idxs_succ (f : Arc → Bool) (l : List Arc) {k : Nat} (hk : k < l.length) : idxs f l (k + 1) = if f l[k] then idxs f l k ++ [(k : Int)] else idxs f l k := by
  simp only [idxs, List.range_succ, List.filter_append, List.map_append, List.filter_cons, List.getElem?_eq_getElem hk, Option.any_some, List.filter_nil]
  split <;> simp
theorem idxs_le (f : Arc → Bool) (l : List Arc) (k : Nat) : (idxs f l k).length ≤ k := by
  have := List.length_filter_le (fun i => (l[i]?).any f) (List.range k)
  simp [idxs] at this ⊢; exact this


set_option maxHeartbeats 800000 in
theorem rorphans {S T : Nat → Prop} (A1 A2 A3 X : Option Addr) (c1 c2 c3 c n1 n2 : Nat) (arcs : List Arc) (xs : List Int) (w0 : World) (hx : RI S w0 X xs) (ha : RA T w0 A3 arcs) (hok : ∀ ar ∈ arcs, ar.fr < xs.length ∧ ar.to < xs.length ∧ 0 ≤ ar.at_) (hlen : arcs.length ≤ 1000) :
    Calls Try.prog 58 #[.agg #[.slice A1 n1 c1, .slice A2 n2 c2, .slice A3 arcs.length c3], .slice X xs.length c] w0 (RetRow w0 3 1 (idxs (orph · xs) arcs arcs.length).length (ints (idxs (orph · xs) arcs arcs.length))) := by
  have hS := St.start w0 NoM
  have HOK := Lib.hid hok
  clear hok
  go_enter Try.func58, Try.ntmps58
  go_wp2_with (first | (refine oL ?_; (first | refine sL1 hS rfl rfl rfl ?_ | refine sL2 hS rfl rfl rfl ?_ | refine sL3 hS rfl rfl ?_ | refine sL4 hS rfl rfl ?_ | refine sL5 hS rfl rfl ?_ | refine sL6 hS rfl rfl ?_ | refine sL7 hS rfl rfl ?_)) | (refine oP ?_; ((first | refine sP1 hS rfl rfl rfl ?_ | refine sP2 hS rfl rfl rfl ?_ | refine sP3 hS rfl rfl rfl ?_); clear hS; first | ((fail_if_success guard_hyp L1); intro L1 cl1 w hL1 hM1 hS) | ((fail_if_success guard_hyp L2); intro L2 cl2 w hL2 hM2 hS) | fail)) | ((first | (refine oB ?_; first | refine sB1 hS rfl rfl ?_ | refine sB2 hS rfl rfl ?_) | (refine oC ?_; first | refine sC0 hS rfl ?_ | refine sC1 hS rfl rfl ?_ | refine sC2 hS rfl rfl ?_ | refine sC3 hS rfl rfl rfl ?_ | refine sC4 hS rfl rfl rfl ?_)); clear hS; first | ((fail_if_success guard_hyp g1); intro g1 w hS) | ((fail_if_success guard_hyp g2); intro g2 w hS) | ((fail_if_success guard_hyp g3); intro g3 w hS) | fail) | fail)
  go_loopw [5, 6] (fun s5 s6 wr => ∃ (k : Nat) (L : Option Addr) (cl : Nat) (ys : List Int), k ≤ arcs.length ∧ Hid (ys = idxs (orph · xs) arcs k) ∧ ys.length ≤ k ∧ s6 = .int .i64 k ∧ s5 = .slice L ys.length cl ∧
     St w0 NoM [irow 3 L cl ys, blk g1 [.slice A1 n1 c1, .slice A2 n2 c2, .slice A3 arcs.length c3] 44] wr) (fun _ s6 _ => arcs.length - (intOf s6).toNat)
  case atStart => exact ⟨0, none, 0, [], by omega, Lib.hid rfl, by simp, rfl, rfl, hS.addNil _ _⟩
  case round =>
    obtain ⟨k, L, cl, ys, hk, HY, hyk, rfl, rfl, hS⟩ := hrel
    by_cases hlt : k < arcs.length
    · obtain ⟨b3, o3, rfl, _, hcs⟩ := ha.cells hlt
      have ho := HOK.out _ (List.getElem_mem hlt)
      have HSUC := Lib.hid (idxs_succ (orph · xs) arcs hlt)
      cases hb : orph arcs[k] xs
      all_goals
        go_wp2_with (first | (go_at_call 89; refine (rorphan_any _ _ _ _ _ (hx.ext hS.toExt) ho.1 ho.2.1 ho.2.2).mono ?_; rintro e w ⟨rfl, hx1⟩; have hS := hS.ext hx1; rw [hb]) | (refine oL ?_; (first | refine sL1 hS rfl rfl rfl ?_ | refine sL2 hS rfl rfl rfl ?_ | refine sL3 hS rfl rfl ?_ | refine sL4 hS rfl rfl ?_ | refine sL5 hS rfl rfl ?_ | refine sL6 hS rfl rfl ?_ | refine sL7 hS rfl rfl ?_)) | (refine oP ?_; ((first | refine sP1 hS rfl rfl rfl ?_ | refine sP2 hS rfl rfl rfl ?_ | refine sP3 hS rfl rfl rfl ?_); clear hS; first | ((fail_if_success guard_hyp L1); intro L1 cl1 w hL1 hM1 hS) | ((fail_if_success guard_hyp L2); intro L2 cl2 w hL2 hM2 hS) | fail)) | ((first | (refine oB ?_; first | refine sB1 hS rfl rfl ?_ | refine sB2 hS rfl rfl ?_) | (refine oC ?_; first | refine sC0 hS rfl ?_ | refine sC1 hS rfl rfl ?_ | refine sC2 hS rfl rfl ?_ | refine sC3 hS rfl rfl rfl ?_ | refine sC4 hS rfl rfl rfl ?_)); clear hS; first | ((fail_if_success guard_hyp g1); intro g1 w hS) | ((fail_if_success guard_hyp g2); intro g2 w hS) | ((fail_if_success guard_hyp g3); intro g3 w hS) | fail) | fail)
        go_roundw
        case measure => simp [intOf]; omega
        exact ⟨k + 1, _, _, _, by omega, Lib.hid (by rw [HSUC.out, hb, HY.out]; rfl), by first | omega | (simp; omega), by go_num, by first | rfl | simp, hS⟩
    · go_wp2_with (first | (refine oL ?_; (first | refine sL1 hS rfl rfl rfl ?_ | refine sL2 hS rfl rfl rfl ?_ | refine sL3 hS rfl rfl ?_ | refine sL4 hS rfl rfl ?_ | refine sL5 hS rfl rfl ?_ | refine sL6 hS rfl rfl ?_ | refine sL7 hS rfl rfl ?_)) | (refine oP ?_; ((first | refine sP1 hS rfl rfl rfl ?_ | refine sP2 hS rfl rfl rfl ?_ | refine sP3 hS rfl rfl rfl ?_); clear hS; first | ((fail_if_success guard_hyp L1); intro L1 cl1 w hL1 hM1 hS) | ((fail_if_success guard_hyp L2); intro L2 cl2 w hL2 hM2 hS) | fail)) | ((first | (refine oB ?_; first | refine sB1 hS rfl rfl ?_ | refine sB2 hS rfl rfl ?_) | (refine oC ?_; first | refine sC0 hS rfl ?_ | refine sC1 hS rfl rfl ?_ | refine sC2 hS rfl rfl ?_ | refine sC3 hS rfl rfl rfl ?_ | refine sC4 hS rfl rfl rfl ?_)); clear hS; first | ((fail_if_success guard_hyp g1); intro g1 w hS) | ((fail_if_success guard_hyp g2); intro g2 w hS) | ((fail_if_success guard_hyp g3); intro g3 w hS) | fail) | fail)
      go_ret
      have : k = arcs.length := by omega
      subst this
      have hy := HY.out
      subst hy
      exact hS.ret rfl

end Go.Proofs.Ytmjmdncdmmcmaaa

/- Cuts: Valid, Most, Clone, fits, Orphans, Consistent, of the program and of the reference. Conditions: the pattern is good, the lists lie in memory. -/
namespace Go.Proofs.Ytmjmdncdmmcmaaa
open Go.RowKit
set_option linter.unusedVariables false
set_option linter.unusedSimpArgs false

theorem nth_getElem {xs : List Int} {k : Nat} (h : k < xs.length) : xs[k] = nth xs k := (nth_eq h).symm
/-- the first k elements are within the lengths -/
def within (len xs : List Int) (k : Nat) : Bool := (List.range k).all fun i => decide (0 ≤ nth xs i) && decide (nth xs i ≤ nth len i)
theorem within_succ (len xs : List Int) (k : Nat) : within len xs (k + 1) = (within len xs k && (decide (0 ≤ nth xs k) && decide (nth xs k ≤ nth len k))) := by
  simp [within, List.range_succ, List.all_append]
/-- is a list a cut -/
def validB (len xs : List Int) : Bool := decide (xs.length = len.length) && within len xs xs.length
theorem within_at {len xs : List Int} {n : Nat} (h : within len xs n = true) {k : Nat} (hk : k < n) : 0 ≤ nth xs k ∧ nth xs k ≤ nth len k := by
  have := List.all_eq_true.1 h k (List.mem_range.2 hk)
  simpa using this
theorem within_mono {len xs : List Int} {n k : Nat} (h : within len xs n = true) (hk : k ≤ n) : within len xs k = true :=
  List.all_eq_true.2 fun i hi => List.all_eq_true.1 h i (List.mem_range.2 (by have := List.mem_range.1 hi; omega))
theorem within_false {len xs : List Int} {n k : Nat} (hk : k < n) (h : within len xs (k + 1) = false) : within len xs n = false := by
  cases hb : within len xs n with
  | false => rfl
  | true => rw [within_mono hb hk] at h; cases h

set_option maxHeartbeats 1600000 in
theorem valid_any {S T : Nat → Prop} (A1 A2 A3 X : Option Addr) (c1 c2 c3 c n2 n3 : Nat) (len xs : List Int) (w0 : World) (h1 : RI S w0 A1 len) (hx : RI T w0 X xs) (hl : len.length ≤ 5) (hxl : xs.length ≤ 9223372036854775807) :
    Calls Try.prog 90 #[.agg #[.slice A1 len.length c1, .slice A2 n2 c2, .slice A3 n3 c3], .slice X xs.length c] w0 fun e w' => e = .returned (.bool (validB len xs)) ∧ Ext w0 w' := by
  have hS := St.start w0 NoM
  by_cases hlen : xs.length = len.length
  · have hne : ((xs.length : Int) != (len.length : Int)) = false := by simp [hlen]
    have hxl5 : xs.length ≤ 5 := by omega
    have HL := Lib.hid hlen
    clear hlen
    go_enter Try.func90, Try.ntmps90
    go_wp2_with (first | (refine oL ?_; (first | refine sL1 hS rfl rfl rfl ?_ | refine sL2 hS rfl rfl rfl ?_ | refine sL3 hS rfl rfl ?_ | refine sL4 hS rfl rfl ?_ | refine sL5 hS rfl rfl ?_ | refine sL6 hS rfl rfl ?_ | refine sL7 hS rfl rfl ?_)) | ((first | (refine oB ?_; first | refine sB1 hS rfl rfl ?_ | refine sB2 hS rfl rfl ?_)); clear hS; first | ((fail_if_success guard_hyp g1); intro g1 w hS) | ((fail_if_success guard_hyp g2); intro g2 w hS) | fail) | fail)
    clear hne
    go_loopw [15] (fun i wr => ∃ k : Nat, k ≤ xs.length ∧ i = .int .i64 k ∧ Hid (within len xs k = true) ∧ St w0 NoM [blk g1 [.slice A1 len.length c1, .slice A2 n2 c2, .slice A3 n3 c3] 44] wr) (fun i _ => xs.length - (intOf i).toNat)
    case atStart => exact ⟨0, Nat.zero_le _, rfl, Lib.hid rfl, hS⟩
    case round =>
      obtain ⟨k, hk, rfl, HW, hS⟩ := hrel
      by_cases hlt : k < xs.length
      · have hlt2 : k < len.length := by have := HL.out; omega
        have hlt' : (k : Int) < len.length := by omega
        obtain ⟨b1, o1, rfl, _, hca⟩ := h1.atNS hlt2
        obtain ⟨b2, o2, rfl, _, hcb⟩ := hx.atNS hlt
        have HS := Lib.hid (within_succ len xs k)
        generalize nth xs k = y at *
        generalize nth len k = m at *
        by_cases h0 : y < 0
        · have d0 : decide (y < 0) = true := by simp [h0]
          go_wp2_with (first | (refine oL ?_; (first | refine sL1 hS rfl rfl rfl ?_ | refine sL2 hS rfl rfl rfl ?_ | refine sL3 hS rfl rfl ?_ | refine sL4 hS rfl rfl ?_ | refine sL5 hS rfl rfl ?_ | refine sL6 hS rfl rfl ?_ | refine sL7 hS rfl rfl ?_)) | ((first | (refine oB ?_; first | refine sB1 hS rfl rfl ?_ | refine sB2 hS rfl rfl ?_)); clear hS; first | ((fail_if_success guard_hyp g1); intro g1 w hS) | ((fail_if_success guard_hyp g2); intro g2 w hS) | fail) | fail)
          
          go_wp2_with (first | (refine oL ?_; (first | refine sL1 hS rfl rfl rfl ?_ | refine sL2 hS rfl rfl rfl ?_ | refine sL3 hS rfl rfl ?_ | refine sL4 hS rfl rfl ?_ | refine sL5 hS rfl rfl ?_ | refine sL6 hS rfl rfl ?_ | refine sL7 hS rfl rfl ?_)) | ((first | (refine oB ?_; first | refine sB1 hS rfl rfl ?_ | refine sB2 hS rfl rfl ?_)); clear hS; first | ((fail_if_success guard_hyp g1); intro g1 w hS) | ((fail_if_success guard_hyp g2); intro g2 w hS) | fail) | fail)
          go_ret
          refine ⟨ret_bool ?_, hS.toExt⟩
          have hs := HS.out
          rw [show decide (0 ≤ y) = false by simp; omega] at hs
          rw [validB, within_false hlt (by rw [hs]; simp)]; simp
        · have d0 : decide (y < 0) = false := by simp [h0]
          by_cases h1 : m < y
          · have d1 : decide (m < y) = true := by simp [h1]
            go_wp2_with (first | (refine oL ?_; (first | refine sL1 hS rfl rfl rfl ?_ | refine sL2 hS rfl rfl rfl ?_ | refine sL3 hS rfl rfl ?_ | refine sL4 hS rfl rfl ?_ | refine sL5 hS rfl rfl ?_ | refine sL6 hS rfl rfl ?_ | refine sL7 hS rfl rfl ?_)) | ((first | (refine oB ?_; first | refine sB1 hS rfl rfl ?_ | refine sB2 hS rfl rfl ?_)); clear hS; first | ((fail_if_success guard_hyp g1); intro g1 w hS) | ((fail_if_success guard_hyp g2); intro g2 w hS) | fail) | fail)
            
            go_wp2_with (first | (refine oL ?_; (first | refine sL1 hS rfl rfl rfl ?_ | refine sL2 hS rfl rfl rfl ?_ | refine sL3 hS rfl rfl ?_ | refine sL4 hS rfl rfl ?_ | refine sL5 hS rfl rfl ?_ | refine sL6 hS rfl rfl ?_ | refine sL7 hS rfl rfl ?_)) | ((first | (refine oB ?_; first | refine sB1 hS rfl rfl ?_ | refine sB2 hS rfl rfl ?_)); clear hS; first | ((fail_if_success guard_hyp g1); intro g1 w hS) | ((fail_if_success guard_hyp g2); intro g2 w hS) | fail) | fail)
            go_ret
            refine ⟨ret_bool ?_, hS.toExt⟩
            have hs := HS.out
            rw [show decide (y ≤ m) = false by simp; omega] at hs
            rw [validB, within_false hlt (by rw [hs]; simp)]; simp
          · have d1 : decide (m < y) = false := by simp [h1]
            go_wp2_with (first | (refine oL ?_; (first | refine sL1 hS rfl rfl rfl ?_ | refine sL2 hS rfl rfl rfl ?_ | refine sL3 hS rfl rfl ?_ | refine sL4 hS rfl rfl ?_ | refine sL5 hS rfl rfl ?_ | refine sL6 hS rfl rfl ?_ | refine sL7 hS rfl rfl ?_)) | ((first | (refine oB ?_; first | refine sB1 hS rfl rfl ?_ | refine sB2 hS rfl rfl ?_)); clear hS; first | ((fail_if_success guard_hyp g1); intro g1 w hS) | ((fail_if_success guard_hyp g2); intro g2 w hS) | fail) | fail)
            
            go_wp2_with (first | (refine oL ?_; (first | refine sL1 hS rfl rfl rfl ?_ | refine sL2 hS rfl rfl rfl ?_ | refine sL3 hS rfl rfl ?_ | refine sL4 hS rfl rfl ?_ | refine sL5 hS rfl rfl ?_ | refine sL6 hS rfl rfl ?_ | refine sL7 hS rfl rfl ?_)) | ((first | (refine oB ?_; first | refine sB1 hS rfl rfl ?_ | refine sB2 hS rfl rfl ?_)); clear hS; first | ((fail_if_success guard_hyp g1); intro g1 w hS) | ((fail_if_success guard_hyp g2); intro g2 w hS) | fail) | fail)
            go_roundw
            case measure => simp [intOf]; omega
            refine ⟨k + 1, by omega, by go_num, Lib.hid ?_, hS⟩
            have hs := HS.out
            rw [hs, HW.out]
            simp; omega
      · go_wp2_with (first | (refine oL ?_; (first | refine sL1 hS rfl rfl rfl ?_ | refine sL2 hS rfl rfl rfl ?_ | refine sL3 hS rfl rfl ?_ | refine sL4 hS rfl rfl ?_ | refine sL5 hS rfl rfl ?_ | refine sL6 hS rfl rfl ?_ | refine sL7 hS rfl rfl ?_)) | ((first | (refine oB ?_; first | refine sB1 hS rfl rfl ?_ | refine sB2 hS rfl rfl ?_)); clear hS; first | ((fail_if_success guard_hyp g1); intro g1 w hS) | ((fail_if_success guard_hyp g2); intro g2 w hS) | fail) | fail)
        go_ret
        refine ⟨ret_bool ?_, hS.toExt⟩
        have e : k = xs.length := by omega
        have hw := HW.out
        rw [e] at hw
        rw [validB, hw, HL.out]; simp
  · have hne : ((xs.length : Int) != (len.length : Int)) = true := by simp; omega
    go_enter Try.func90, Try.ntmps90
    go_wp2_with (first | (refine oL ?_; (first | refine sL1 hS rfl rfl rfl ?_ | refine sL2 hS rfl rfl rfl ?_ | refine sL3 hS rfl rfl ?_ | refine sL4 hS rfl rfl ?_ | refine sL5 hS rfl rfl ?_ | refine sL6 hS rfl rfl ?_ | refine sL7 hS rfl rfl ?_)) | ((first | (refine oB ?_; first | refine sB1 hS rfl rfl ?_ | refine sB2 hS rfl rfl ?_)); clear hS; first | ((fail_if_success guard_hyp g1); intro g1 w hS) | ((fail_if_success guard_hyp g2); intro g2 w hS) | fail) | fail)
    go_ret
    exact ⟨ret_bool (by simp [validB, hlen]), hS.toExt⟩
set_option maxHeartbeats 1600000 in
theorem rvalid_any {S T : Nat → Prop} (A1 A2 A3 X : Option Addr) (c1 c2 c3 c n2 n3 : Nat) (len xs : List Int) (w0 : World) (h1 : RI S w0 A1 len) (hx : RI T w0 X xs) (hl : len.length ≤ 5) (hxl : xs.length ≤ 9223372036854775807) :
    Calls Try.prog 42 #[.agg #[.slice A1 len.length c1, .slice A2 n2 c2, .slice A3 n3 c3], .slice X xs.length c] w0 fun e w' => e = .returned (.bool (validB len xs)) ∧ Ext w0 w' := by
  have hS := St.start w0 NoM
  by_cases hlen : xs.length = len.length
  · have hne : ((xs.length : Int) != (len.length : Int)) = false := by simp [hlen]
    have hxl5 : xs.length ≤ 5 := by omega
    have HL := Lib.hid hlen
    clear hlen
    go_enter Try.func42, Try.ntmps42
    go_wp2_with (first | (refine oL ?_; (first | refine sL1 hS rfl rfl rfl ?_ | refine sL2 hS rfl rfl rfl ?_ | refine sL3 hS rfl rfl ?_ | refine sL4 hS rfl rfl ?_ | refine sL5 hS rfl rfl ?_ | refine sL6 hS rfl rfl ?_ | refine sL7 hS rfl rfl ?_)) | ((first | (refine oB ?_; first | refine sB1 hS rfl rfl ?_ | refine sB2 hS rfl rfl ?_)); clear hS; first | ((fail_if_success guard_hyp g1); intro g1 w hS) | ((fail_if_success guard_hyp g2); intro g2 w hS) | fail) | fail)
    clear hne
    go_loopw [5] (fun i wr => ∃ k : Nat, k ≤ xs.length ∧ i = .int .i64 k ∧ Hid (within len xs k = true) ∧ St w0 NoM [blk g1 [.slice A1 len.length c1, .slice A2 n2 c2, .slice A3 n3 c3] 44] wr) (fun i _ => xs.length - (intOf i).toNat)
    case atStart => exact ⟨0, Nat.zero_le _, rfl, Lib.hid rfl, hS⟩
    case round =>
      obtain ⟨k, hk, rfl, HW, hS⟩ := hrel
      by_cases hlt : k < xs.length
      · have hlt2 : k < len.length := by have := HL.out; omega
        have hlt' : (k : Int) < len.length := by omega
        obtain ⟨b1, o1, rfl, _, hca⟩ := h1.atNS hlt2
        obtain ⟨b2, o2, rfl, _, hcb⟩ := hx.atNS hlt
        have HS := Lib.hid (within_succ len xs k)
        generalize nth xs k = y at *
        generalize nth len k = m at *
        by_cases h0 : y < 0
        · have d0 : decide (y < 0) = true := by simp [h0]
          go_wp2_with (first | (refine oL ?_; (first | refine sL1 hS rfl rfl rfl ?_ | refine sL2 hS rfl rfl rfl ?_ | refine sL3 hS rfl rfl ?_ | refine sL4 hS rfl rfl ?_ | refine sL5 hS rfl rfl ?_ | refine sL6 hS rfl rfl ?_ | refine sL7 hS rfl rfl ?_)) | ((first | (refine oB ?_; first | refine sB1 hS rfl rfl ?_ | refine sB2 hS rfl rfl ?_)); clear hS; first | ((fail_if_success guard_hyp g1); intro g1 w hS) | ((fail_if_success guard_hyp g2); intro g2 w hS) | fail) | fail)
          refine dr_start0 []  hS (by kernel_rfl) rfl ?_; clear hS; intro w hS
          refine dM hS 0 rfl rfl rfl ?_
          (try simp only [Act.put, nA, nB, nC])
          refine dM hS 1 rfl rfl rfl ?_
          (try simp only [Act.put, nA, nB, nC])
          refine dP hS 2 rfl rfl ?_
          (try simp only [Act.put, nA, nB, nC])
          first | refine dL1 hS 3 rfl rfl rfl rfl ?_ | refine dL2 hS 3 rfl rfl rfl rfl ?_ | refine dL3 hS 3 rfl rfl rfl ?_ | refine dL4 hS 3 rfl rfl rfl ?_ | refine dL5 hS 3 rfl rfl rfl ?_ | refine dL6 hS 3 rfl rfl rfl ?_ | refine dL7 hS 3 rfl rfl rfl ?_
          (try simp only [Act.put, nA, nB, nC])
          refine dP hS 4 rfl rfl ?_
          (try simp only [Act.put, nA, nB, nC])
          refine dM hS 5 rfl rfl rfl ?_
          (try simp only [Act.put, nA, nB, nC])
          first | refine dM hS 6 rfl rfl rfl ?_ | refine dQ hS 6 rfl rfl ?_
          (try simp only [Act.put, nA, nB, nC])
          first | refine dM hS 7 rfl rfl rfl ?_ | refine dQ hS 7 rfl rfl ?_
          (try simp only [Act.put, nA, nB, nC])
          first | refine dP hS 8 rfl rfl ?_ | refine dQ hS 8 rfl rfl ?_
          (try simp only [Act.put, nA, nB, nC])
          first | refine dL1 hS 9 rfl rfl rfl rfl ?_ | refine dL2 hS 9 rfl rfl rfl rfl ?_ | refine dL3 hS 9 rfl rfl rfl ?_ | refine dL4 hS 9 rfl rfl rfl ?_ | refine dL5 hS 9 rfl rfl rfl ?_ | refine dL6 hS 9 rfl rfl rfl ?_ | refine dL7 hS 9 rfl rfl rfl ?_ | refine dQ hS 9 rfl rfl ?_
          (try simp only [Act.put, nA, nB, nC])
          first | refine dP hS 10 rfl rfl ?_ | refine dQ hS 10 rfl rfl ?_
          (try simp only [Act.put, nA, nB, nC])
          first | refine dL1 hS 11 rfl rfl rfl rfl ?_ | refine dL2 hS 11 rfl rfl rfl rfl ?_ | refine dL3 hS 11 rfl rfl rfl ?_ | refine dL4 hS 11 rfl rfl rfl ?_ | refine dL5 hS 11 rfl rfl rfl ?_ | refine dL6 hS 11 rfl rfl rfl ?_ | refine dL7 hS 11 rfl rfl rfl ?_ | refine dQ hS 11 rfl rfl ?_
          (try simp only [Act.put, nA, nB, nC])
          first | refine dM hS 12 rfl rfl rfl ?_ | refine dQ hS 12 rfl rfl ?_
          (try simp only [Act.put, nA, nB, nC])
          first | refine dP hS 13 rfl rfl ?_ | refine dQ hS 13 rfl rfl ?_
          (try simp only [Act.put, nA, nB, nC])
          first | refine dL1 hS 14 rfl rfl rfl rfl ?_ | refine dL2 hS 14 rfl rfl rfl rfl ?_ | refine dL3 hS 14 rfl rfl rfl ?_ | refine dL4 hS 14 rfl rfl rfl ?_ | refine dL5 hS 14 rfl rfl rfl ?_ | refine dL6 hS 14 rfl rfl rfl ?_ | refine dL7 hS 14 rfl rfl rfl ?_ | refine dQ hS 14 rfl rfl ?_
          (try simp only [Act.put, nA, nB, nC])
          first | refine dP hS 15 rfl rfl ?_ | refine dQ hS 15 rfl rfl ?_
          (try simp only [Act.put, nA, nB, nC])
          refine dP hS 16 rfl rfl ?_
          (try simp only [Act.put, nA, nB, nC])
          refine dr_done (by kernel_rfl) ?_
          go_wp2_with (first | (refine oL ?_; (first | refine sL1 hS rfl rfl rfl ?_ | refine sL2 hS rfl rfl rfl ?_ | refine sL3 hS rfl rfl ?_ | refine sL4 hS rfl rfl ?_ | refine sL5 hS rfl rfl ?_ | refine sL6 hS rfl rfl ?_ | refine sL7 hS rfl rfl ?_)) | ((first | (refine oB ?_; first | refine sB1 hS rfl rfl ?_ | refine sB2 hS rfl rfl ?_)); clear hS; first | ((fail_if_success guard_hyp g1); intro g1 w hS) | ((fail_if_success guard_hyp g2); intro g2 w hS) | fail) | fail)
          go_ret
          refine ⟨ret_bool ?_, hS.toExt⟩
          have hs := HS.out
          rw [show decide (0 ≤ y) = false by simp; omega] at hs
          rw [validB, within_false hlt (by rw [hs]; simp)]; simp
        · have d0 : decide (y < 0) = false := by simp [h0]
          by_cases h1 : m < y
          · have d1 : decide (m < y) = true := by simp [h1]
            go_wp2_with (first | (refine oL ?_; (first | refine sL1 hS rfl rfl rfl ?_ | refine sL2 hS rfl rfl rfl ?_ | refine sL3 hS rfl rfl ?_ | refine sL4 hS rfl rfl ?_ | refine sL5 hS rfl rfl ?_ | refine sL6 hS rfl rfl ?_ | refine sL7 hS rfl rfl ?_)) | ((first | (refine oB ?_; first | refine sB1 hS rfl rfl ?_ | refine sB2 hS rfl rfl ?_)); clear hS; first | ((fail_if_success guard_hyp g1); intro g1 w hS) | ((fail_if_success guard_hyp g2); intro g2 w hS) | fail) | fail)
            refine dr_start0 []  hS (by kernel_rfl) rfl ?_; clear hS; intro w hS
            refine dM hS 0 rfl rfl rfl ?_
            (try simp only [Act.put, nA, nB, nC])
            refine dM hS 1 rfl rfl rfl ?_
            (try simp only [Act.put, nA, nB, nC])
            refine dP hS 2 rfl rfl ?_
            (try simp only [Act.put, nA, nB, nC])
            first | refine dL1 hS 3 rfl rfl rfl rfl ?_ | refine dL2 hS 3 rfl rfl rfl rfl ?_ | refine dL3 hS 3 rfl rfl rfl ?_ | refine dL4 hS 3 rfl rfl rfl ?_ | refine dL5 hS 3 rfl rfl rfl ?_ | refine dL6 hS 3 rfl rfl rfl ?_ | refine dL7 hS 3 rfl rfl rfl ?_
            (try simp only [Act.put, nA, nB, nC])
            refine dP hS 4 rfl rfl ?_
            (try simp only [Act.put, nA, nB, nC])
            refine dM hS 5 rfl rfl rfl ?_
            (try simp only [Act.put, nA, nB, nC])
            first | refine dM hS 6 rfl rfl rfl ?_ | refine dQ hS 6 rfl rfl ?_
            (try simp only [Act.put, nA, nB, nC])
            first | refine dM hS 7 rfl rfl rfl ?_ | refine dQ hS 7 rfl rfl ?_
            (try simp only [Act.put, nA, nB, nC])
            first | refine dP hS 8 rfl rfl ?_ | refine dQ hS 8 rfl rfl ?_
            (try simp only [Act.put, nA, nB, nC])
            first | refine dL1 hS 9 rfl rfl rfl rfl ?_ | refine dL2 hS 9 rfl rfl rfl rfl ?_ | refine dL3 hS 9 rfl rfl rfl ?_ | refine dL4 hS 9 rfl rfl rfl ?_ | refine dL5 hS 9 rfl rfl rfl ?_ | refine dL6 hS 9 rfl rfl rfl ?_ | refine dL7 hS 9 rfl rfl rfl ?_ | refine dQ hS 9 rfl rfl ?_
            (try simp only [Act.put, nA, nB, nC])
            first | refine dP hS 10 rfl rfl ?_ | refine dQ hS 10 rfl rfl ?_
            (try simp only [Act.put, nA, nB, nC])
            first | refine dL1 hS 11 rfl rfl rfl rfl ?_ | refine dL2 hS 11 rfl rfl rfl rfl ?_ | refine dL3 hS 11 rfl rfl rfl ?_ | refine dL4 hS 11 rfl rfl rfl ?_ | refine dL5 hS 11 rfl rfl rfl ?_ | refine dL6 hS 11 rfl rfl rfl ?_ | refine dL7 hS 11 rfl rfl rfl ?_ | refine dQ hS 11 rfl rfl ?_
            (try simp only [Act.put, nA, nB, nC])
            first | refine dM hS 12 rfl rfl rfl ?_ | refine dQ hS 12 rfl rfl ?_
            (try simp only [Act.put, nA, nB, nC])
            first | refine dP hS 13 rfl rfl ?_ | refine dQ hS 13 rfl rfl ?_
            (try simp only [Act.put, nA, nB, nC])
            first | refine dL1 hS 14 rfl rfl rfl rfl ?_ | refine dL2 hS 14 rfl rfl rfl rfl ?_ | refine dL3 hS 14 rfl rfl rfl ?_ | refine dL4 hS 14 rfl rfl rfl ?_ | refine dL5 hS 14 rfl rfl rfl ?_ | refine dL6 hS 14 rfl rfl rfl ?_ | refine dL7 hS 14 rfl rfl rfl ?_ | refine dQ hS 14 rfl rfl ?_
            (try simp only [Act.put, nA, nB, nC])
            first | refine dP hS 15 rfl rfl ?_ | refine dQ hS 15 rfl rfl ?_
            (try simp only [Act.put, nA, nB, nC])
            refine dP hS 16 rfl rfl ?_
            (try simp only [Act.put, nA, nB, nC])
            refine dr_done (by kernel_rfl) ?_
            go_wp2_with (first | (refine oL ?_; (first | refine sL1 hS rfl rfl rfl ?_ | refine sL2 hS rfl rfl rfl ?_ | refine sL3 hS rfl rfl ?_ | refine sL4 hS rfl rfl ?_ | refine sL5 hS rfl rfl ?_ | refine sL6 hS rfl rfl ?_ | refine sL7 hS rfl rfl ?_)) | ((first | (refine oB ?_; first | refine sB1 hS rfl rfl ?_ | refine sB2 hS rfl rfl ?_)); clear hS; first | ((fail_if_success guard_hyp g1); intro g1 w hS) | ((fail_if_success guard_hyp g2); intro g2 w hS) | fail) | fail)
            go_ret
            refine ⟨ret_bool ?_, hS.toExt⟩
            have hs := HS.out
            rw [show decide (y ≤ m) = false by simp; omega] at hs
            rw [validB, within_false hlt (by rw [hs]; simp)]; simp
          · have d1 : decide (m < y) = false := by simp [h1]
            go_wp2_with (first | (refine oL ?_; (first | refine sL1 hS rfl rfl rfl ?_ | refine sL2 hS rfl rfl rfl ?_ | refine sL3 hS rfl rfl ?_ | refine sL4 hS rfl rfl ?_ | refine sL5 hS rfl rfl ?_ | refine sL6 hS rfl rfl ?_ | refine sL7 hS rfl rfl ?_)) | ((first | (refine oB ?_; first | refine sB1 hS rfl rfl ?_ | refine sB2 hS rfl rfl ?_)); clear hS; first | ((fail_if_success guard_hyp g1); intro g1 w hS) | ((fail_if_success guard_hyp g2); intro g2 w hS) | fail) | fail)
            refine dr_start0 []  hS (by kernel_rfl) rfl ?_; clear hS; intro w hS
            refine dM hS 0 rfl rfl rfl ?_
            (try simp only [Act.put, nA, nB, nC])
            refine dM hS 1 rfl rfl rfl ?_
            (try simp only [Act.put, nA, nB, nC])
            refine dP hS 2 rfl rfl ?_
            (try simp only [Act.put, nA, nB, nC])
            first | refine dL1 hS 3 rfl rfl rfl rfl ?_ | refine dL2 hS 3 rfl rfl rfl rfl ?_ | refine dL3 hS 3 rfl rfl rfl ?_ | refine dL4 hS 3 rfl rfl rfl ?_ | refine dL5 hS 3 rfl rfl rfl ?_ | refine dL6 hS 3 rfl rfl rfl ?_ | refine dL7 hS 3 rfl rfl rfl ?_
            (try simp only [Act.put, nA, nB, nC])
            refine dP hS 4 rfl rfl ?_
            (try simp only [Act.put, nA, nB, nC])
            refine dM hS 5 rfl rfl rfl ?_
            (try simp only [Act.put, nA, nB, nC])
            first | refine dM hS 6 rfl rfl rfl ?_ | refine dQ hS 6 rfl rfl ?_
            (try simp only [Act.put, nA, nB, nC])
            first | refine dM hS 7 rfl rfl rfl ?_ | refine dQ hS 7 rfl rfl ?_
            (try simp only [Act.put, nA, nB, nC])
            first | refine dP hS 8 rfl rfl ?_ | refine dQ hS 8 rfl rfl ?_
            (try simp only [Act.put, nA, nB, nC])
            first | refine dL1 hS 9 rfl rfl rfl rfl ?_ | refine dL2 hS 9 rfl rfl rfl rfl ?_ | refine dL3 hS 9 rfl rfl rfl ?_ | refine dL4 hS 9 rfl rfl rfl ?_ | refine dL5 hS 9 rfl rfl rfl ?_ | refine dL6 hS 9 rfl rfl rfl ?_ | refine dL7 hS 9 rfl rfl rfl ?_ | refine dQ hS 9 rfl rfl ?_
            (try simp only [Act.put, nA, nB, nC])
            first | refine dP hS 10 rfl rfl ?_ | refine dQ hS 10 rfl rfl ?_
            (try simp only [Act.put, nA, nB, nC])
            first | refine dL1 hS 11 rfl rfl rfl rfl ?_ | refine dL2 hS 11 rfl rfl rfl rfl ?_ | refine dL3 hS 11 rfl rfl rfl ?_ | refine dL4 hS 11 rfl rfl rfl ?_ | refine dL5 hS 11 rfl rfl rfl ?_ | refine dL6 hS 11 rfl rfl rfl ?_ | refine dL7 hS 11 rfl rfl rfl ?_ | refine dQ hS 11 rfl rfl ?_
            (try simp only [Act.put, nA, nB, nC])
            first | refine dM hS 12 rfl rfl rfl ?_ | refine dQ hS 12 rfl rfl ?_
            (try simp only [Act.put, nA, nB, nC])
            first | refine dP hS 13 rfl rfl ?_ | refine dQ hS 13 rfl rfl ?_
            (try simp only [Act.put, nA, nB, nC])
            first | refine dL1 hS 14 rfl rfl rfl rfl ?_ | refine dL2 hS 14 rfl rfl rfl rfl ?_ | refine dL3 hS 14 rfl rfl rfl ?_ | refine dL4 hS 14 rfl rfl rfl ?_ | refine dL5 hS 14 rfl rfl rfl ?_ | refine dL6 hS 14 rfl rfl rfl ?_ | refine dL7 hS 14 rfl rfl rfl ?_ | refine dQ hS 14 rfl rfl ?_
            (try simp only [Act.put, nA, nB, nC])
            first | refine dP hS 15 rfl rfl ?_ | refine dQ hS 15 rfl rfl ?_
            (try simp only [Act.put, nA, nB, nC])
            refine dP hS 16 rfl rfl ?_
            (try simp only [Act.put, nA, nB, nC])
            refine dr_done (by kernel_rfl) ?_
            go_wp2_with (first | (refine oL ?_; (first | refine sL1 hS rfl rfl rfl ?_ | refine sL2 hS rfl rfl rfl ?_ | refine sL3 hS rfl rfl ?_ | refine sL4 hS rfl rfl ?_ | refine sL5 hS rfl rfl ?_ | refine sL6 hS rfl rfl ?_ | refine sL7 hS rfl rfl ?_)) | ((first | (refine oB ?_; first | refine sB1 hS rfl rfl ?_ | refine sB2 hS rfl rfl ?_)); clear hS; first | ((fail_if_success guard_hyp g1); intro g1 w hS) | ((fail_if_success guard_hyp g2); intro g2 w hS) | fail) | fail)
            go_roundw
            case measure => simp [intOf]; omega
            refine ⟨k + 1, by omega, by go_num, Lib.hid ?_, hS⟩
            have hs := HS.out
            rw [hs, HW.out]
            simp; omega
      · go_wp2_with (first | (refine oL ?_; (first | refine sL1 hS rfl rfl rfl ?_ | refine sL2 hS rfl rfl rfl ?_ | refine sL3 hS rfl rfl ?_ | refine sL4 hS rfl rfl ?_ | refine sL5 hS rfl rfl ?_ | refine sL6 hS rfl rfl ?_ | refine sL7 hS rfl rfl ?_)) | ((first | (refine oB ?_; first | refine sB1 hS rfl rfl ?_ | refine sB2 hS rfl rfl ?_)); clear hS; first | ((fail_if_success guard_hyp g1); intro g1 w hS) | ((fail_if_success guard_hyp g2); intro g2 w hS) | fail) | fail)
        go_ret
        refine ⟨ret_bool ?_, hS.toExt⟩
        have e : k = xs.length := by omega
        have hw := HW.out
        rw [e] at hw
        rw [validB, hw, HL.out]; simp
  · have hne : ((xs.length : Int) != (len.length : Int)) = true := by simp; omega
    go_enter Try.func42, Try.ntmps42
    go_wp2_with (first | (refine oL ?_; (first | refine sL1 hS rfl rfl rfl ?_ | refine sL2 hS rfl rfl rfl ?_ | refine sL3 hS rfl rfl ?_ | refine sL4 hS rfl rfl ?_ | refine sL5 hS rfl rfl ?_ | refine sL6 hS rfl rfl ?_ | refine sL7 hS rfl rfl ?_)) | ((first | (refine oB ?_; first | refine sB1 hS rfl rfl ?_ | refine sB2 hS rfl rfl ?_)); clear hS; first | ((fail_if_success guard_hyp g1); intro g1 w hS) | ((fail_if_success guard_hyp g2); intro g2 w hS) | fail) | fail)
    go_ret
    exact ⟨ret_bool (by simp [validB, hlen]), hS.toExt⟩

/-- is no element of the first k greater -/
def mostTo (xs ys : List Int) (k : Nat) : Bool := (List.range k).all fun i => decide (nth xs i ≤ nth ys i)
theorem mostTo_succ (xs ys : List Int) (k : Nat) : mostTo xs ys (k + 1) = (mostTo xs ys k && decide (nth xs k ≤ nth ys k)) := by
  simp [mostTo, List.range_succ, List.all_append]
def mostB (xs ys : List Int) : Bool := decide (xs.length = ys.length) && mostTo xs ys xs.length
theorem mostTo_mono {xs ys : List Int} {n k : Nat} (h : mostTo xs ys n = true) (hk : k ≤ n) : mostTo xs ys k = true :=
  List.all_eq_true.2 fun i hi => List.all_eq_true.1 h i (List.mem_range.2 (by have := List.mem_range.1 hi; omega))
theorem mostTo_false {xs ys : List Int} {n k : Nat} (hk : k < n) (h : mostTo xs ys (k + 1) = false) : mostTo xs ys n = false := by
  cases hb : mostTo xs ys n with
  | false => rfl
  | true => rw [mostTo_mono hb hk] at h; cases h

end Go.Proofs.Ytmjmdncdmmcmaaa

/- Cuts: Clone, fits, Orphans, Consistent, Meet, Join, of the program and of the reference. Conditions: the pattern is good, the lists lie in memory. -/
namespace Go.Proofs.Ytmjmdncdmmcmaaa
open Go.RowKit
set_option linter.unusedVariables false
set_option linter.unusedSimpArgs false

set_option maxHeartbeats 800000 in
theorem clone_any {S : Nat → Prop} (A : Option Addr) (c : Nat) (xs : List Int) (w0 : World) (hx : RI S w0 A xs) (hl : xs.length ≤ 1000000) :
    Calls Try.prog 51 #[.slice A xs.length c] w0 (RetRow w0 3 1 xs.length (ints xs)) := by
  have hS := St.start w0 NoM
  have qT : ∀ (w : World) (a : Option Addr) (n c n' c' : Nat), (binOp .eql 25 (.slice a n c) (.slice none n' c')).run Try.prog w = .ok (.bool a.isNone) w := fun w a n c n' c' => Lib.run_eql_slice_nil w _ _ a n c n' c' Try.underlying25
  cases A with
  | none =>
    have h0 : xs = [] := by
      cases xs with
      | nil => rfl
      | cons y ys => obtain ⟨b, o, e, _⟩ := hx.atS (k := 0) (by simp); cases e
    subst h0
    go_enter Try.func51, Try.ntmps51
    go_wp2_with (first | (refine oP ?_; ((first | refine sP1 hS rfl rfl rfl ?_ | refine sP2 hS rfl rfl rfl ?_ | refine sP3 hS rfl rfl rfl ?_); clear hS; first | ((fail_if_success guard_hyp L1); intro L1 cl1 w hL1 hM1 hS) | ((fail_if_success guard_hyp L2); intro L2 cl2 w hL2 hM2 hS) | fail)) | ((first | (refine oC ?_; first | refine sC0 hS rfl ?_ | refine sC1 hS rfl rfl ?_ | refine sC2 hS rfl rfl ?_ | refine sC3 hS rfl rfl rfl ?_ | refine sC4 hS rfl rfl rfl ?_)); clear hS; first | ((fail_if_success guard_hyp g1); intro g1 w hS) | ((fail_if_success guard_hyp g2); intro g2 w hS) | fail) | fail)
    go_ret
    exact ⟨none, 0, rfl, ownsRow_nil _ _ _ _, hS.toExt⟩
  | some ad =>
    go_enter Try.func51, Try.ntmps51
    go_wp2_with (first | (refine st_appO (ys := []) hS rfl rfl rfl (hx.ext hS.toExt) rfl (by simp; omega) ?_; clear hS; intro L cl w hL hM hS; rw [List.nil_append] at hS) | (refine oP ?_; ((first | refine sP1 hS rfl rfl rfl ?_ | refine sP2 hS rfl rfl rfl ?_ | refine sP3 hS rfl rfl rfl ?_); clear hS; first | ((fail_if_success guard_hyp L1); intro L1 cl1 w hL1 hM1 hS) | ((fail_if_success guard_hyp L2); intro L2 cl2 w hL2 hM2 hS) | fail)) | ((first | (refine oC ?_; first | refine sC0 hS rfl ?_ | refine sC1 hS rfl rfl ?_ | refine sC2 hS rfl rfl ?_ | refine sC3 hS rfl rfl rfl ?_ | refine sC4 hS rfl rfl rfl ?_)); clear hS; first | ((fail_if_success guard_hyp g1); intro g1 w hS) | ((fail_if_success guard_hyp g2); intro g2 w hS) | fail) | fail)
    go_ret
    exact hS.ret (by simp)

set_option maxHeartbeats 800000 in
theorem fits_any {S T : Nat → Prop} (v : PV) (X : Option Addr) (c : Nat) (p : Pat) (xs : List Int) (w0 : World) (hp : PatAt S w0 v p) (hg : Good p) (hx : RI T w0 X xs) (hxl : xs.length ≤ 9223372036854775807) :
    Calls Try.prog 59 #[v.val p, .slice X xs.length c] w0 fun e w' => e = .returned (.bool (validB p.len xs)) ∧ Ext w0 w' := by
  have hS := St.start w0 NoM
  have HG := Lib.hid hg
  have HP := Lib.hid hp
  have hn5 := hg.n5
  clear hg hp
  obtain ⟨A1, c1, A2, c2, A3, c3⟩ := v
  simp only [PV.val]
  go_enter Try.func59, Try.ntmps59
  go_wp2_with (first | (go_at_call 61; refine (check_good ⟨A1, c1, A2, c2, A3, c3⟩ p _ (HP.out.ext hS.toExt) HG.out).mono ?_; rintro e w ⟨rfl, hx1⟩; have hS := hS.ext hx1) | (go_at_call 90; refine (valid_any _ _ _ _ _ _ _ _ _ _ p.len xs _ (HP.out.len.ext hS.toExt) (hx.ext hS.toExt) hn5 hxl).mono ?_; rintro e w ⟨rfl, hx1⟩; have hS := hS.ext hx1) | (refine oL ?_; (first | refine sL1 hS rfl rfl rfl ?_ | refine sL2 hS rfl rfl rfl ?_ | refine sL3 hS rfl rfl ?_ | refine sL4 hS rfl rfl ?_ | refine sL5 hS rfl rfl ?_ | refine sL6 hS rfl rfl ?_ | refine sL7 hS rfl rfl ?_)) | ((first | (refine oB ?_; first | refine sB1 hS rfl rfl ?_ | refine sB2 hS rfl rfl ?_)); clear hS; first | ((fail_if_success guard_hyp g1); intro g1 w hS) | ((fail_if_success guard_hyp g2); intro g2 w hS) | fail) | fail)
  go_ret
  exact ⟨rfl, hS.toExt⟩

/-- good arcs lie within a cut of their pattern -/
theorem Good.arcs_in {p : Pat} (h : Good p) {xs : List Int} (hx : xs.length = p.len.length) : ∀ ar ∈ p.arcs, ar.fr < xs.length ∧ ar.to < xs.length ∧ 0 ≤ ar.at_ := fun ar ha =>
  have h1 := h.arc ar ha
  ⟨by rw [hx]; exact h1.fr, by rw [hx]; exact h1.to, h1.at0⟩

set_option maxHeartbeats 1600000 in
theorem orphans_any {S T : Nat → Prop} (v : PV) (X : Option Addr) (c : Nat) (p : Pat) (xs : List Int) (w0 : World) (hp : PatAt S w0 v p) (hg : Good p) (hx : RI T w0 X xs) (hv : validB p.len xs = true) :
    Calls Try.prog 60 #[v.val p, .slice X xs.length c] w0 (RetRow w0 3 1 (idxs (orph · xs) p.arcs p.arcs.length).length (ints (idxs (orph · xs) p.arcs p.arcs.length))) := by
  have hS := St.start w0 NoM
  have hxl : xs.length = p.len.length := by simp [validB] at hv; exact hv.1
  have HOK := Lib.hid (hg.arcs_in hxl)
  have HG := Lib.hid hg
  have HP := Lib.hid hp
  have hn5 := hg.n5
  have hfew := hg.few
  have ha := hp.arcs
  have HV := Lib.hid hv
  have hx5 : xs.length ≤ 5 := by omega
  clear hg hp hv hxl
  obtain ⟨A1, c1, A2, c2, A3, c3⟩ := v
  simp only [PV.val] at *
  go_enter Try.func60, Try.ntmps60
  go_wp2_with (first | (go_at_call 59; refine (fits_any ⟨A1, c1, A2, c2, A3, c3⟩ _ _ p xs _ (HP.out.ext hS.toExt) HG.out (hx.ext hS.toExt) (by omega)).mono ?_; rintro e w ⟨rfl, hx1⟩; have hS := hS.ext hx1; rw [HV.out]) | (refine oL ?_; (first | refine sL1 hS rfl rfl rfl ?_ | refine sL2 hS rfl rfl rfl ?_ | refine sL3 hS rfl rfl ?_ | refine sL4 hS rfl rfl ?_ | refine sL5 hS rfl rfl ?_ | refine sL6 hS rfl rfl ?_ | refine sL7 hS rfl rfl ?_)) | (refine oS ?_; ((first | refine sS1 hS rfl rfl rfl ?_ | refine sS2 hS rfl rfl rfl ?_ | refine sS3 hS rfl rfl rfl ?_ | refine sS4 hS rfl rfl rfl ?_ | refine sS5 hS rfl rfl rfl ?_); clear hS; intro w hS)) | (refine oP ?_; ((first | refine sP1 hS rfl rfl rfl ?_ | refine sP2 hS rfl rfl rfl ?_ | refine sP3 hS rfl rfl rfl ?_); clear hS; first | ((fail_if_success guard_hyp L1); intro L1 cl1 w hL1 hM1 hS) | ((fail_if_success guard_hyp L2); intro L2 cl2 w hL2 hM2 hS) | fail)) | ((first | (refine oB ?_; first | refine sB1 hS rfl rfl ?_ | refine sB2 hS rfl rfl ?_) | refine sN1 hS rfl ?_ | (refine oC ?_; first | refine sC0 hS rfl ?_ | refine sC1 hS rfl rfl ?_ | refine sC2 hS rfl rfl ?_ | refine sC3 hS rfl rfl rfl ?_ | refine sC4 hS rfl rfl rfl ?_)); clear hS; first | ((fail_if_success guard_hyp g1); intro g1 w hS) | ((fail_if_success guard_hyp g2); intro g2 w hS) | ((fail_if_success guard_hyp g3); intro g3 w hS) | ((fail_if_success guard_hyp g4); intro g4 w hS) | fail) | fail)
  go_loopw [5, 15] (fun s5 s6 wr => ∃ (k : Nat) (L : Option Addr) (cl : Nat) (ys : List Int), k ≤ p.arcs.length ∧ Hid (ys = idxs (orph · xs) p.arcs k) ∧ ys.length ≤ k ∧ s6 = .int .i64 k ∧ s5 = .slice L ys.length cl ∧
     St w0 NoM [irow 3 L cl ys, blk g1 [.slice A1 p.len.length c1, .slice A2 p.ck.length c2, .slice A3 p.arcs.length c3] 44] wr) (fun _ s6 _ => p.arcs.length - (intOf s6).toNat)
  case atStart => exact ⟨0, none, 0, [], by omega, Lib.hid rfl, by simp, rfl, rfl, hS.addNil _ _⟩
  case round =>
    obtain ⟨k, L, cl, ys, hk, HY, hyk, rfl, rfl, hS⟩ := hrel
    by_cases hlt : k < p.arcs.length
    · obtain ⟨b3, o3, rfl, _, hcs⟩ := ha.cells hlt
      have ho := HOK.out _ (List.getElem_mem hlt)
      have HSUC := Lib.hid (idxs_succ (orph · xs) p.arcs hlt)
      generalize p.arcs[k] = ar at *
      simp only [arcCells] at hcs
      cases hb : orph ar xs
      all_goals
        go_wp2_with (first | (go_at_call 91; refine (orphan_any _ _ _ _ _ (hx.ext hS.toExt) ho.1 ho.2.1 ho.2.2).mono ?_; rintro e w ⟨rfl, hx1⟩; have hS := hS.ext hx1; rw [hb]) | (refine oL ?_; (first | refine sL1 hS rfl rfl rfl ?_ | refine sL2 hS rfl rfl rfl ?_ | refine sL3 hS rfl rfl ?_ | refine sL4 hS rfl rfl ?_ | refine sL5 hS rfl rfl ?_ | refine sL6 hS rfl rfl ?_ | refine sL7 hS rfl rfl ?_)) | (refine oS ?_; ((first | refine sS1 hS rfl rfl rfl ?_ | refine sS2 hS rfl rfl rfl ?_ | refine sS3 hS rfl rfl rfl ?_ | refine sS4 hS rfl rfl rfl ?_ | refine sS5 hS rfl rfl rfl ?_); clear hS; intro w hS)) | (refine oP ?_; ((first | refine sP1 hS rfl rfl rfl ?_ | refine sP2 hS rfl rfl rfl ?_ | refine sP3 hS rfl rfl rfl ?_); clear hS; first | ((fail_if_success guard_hyp L1); intro L1 cl1 w hL1 hM1 hS) | ((fail_if_success guard_hyp L2); intro L2 cl2 w hL2 hM2 hS) | fail)) | ((first | (refine oB ?_; first | refine sB1 hS rfl rfl ?_ | refine sB2 hS rfl rfl ?_) | refine sN1 hS rfl ?_ | (refine oC ?_; first | refine sC0 hS rfl ?_ | refine sC1 hS rfl rfl ?_ | refine sC2 hS rfl rfl ?_ | refine sC3 hS rfl rfl rfl ?_ | refine sC4 hS rfl rfl rfl ?_)); clear hS; first | ((fail_if_success guard_hyp g1); intro g1 w hS) | ((fail_if_success guard_hyp g2); intro g2 w hS) | ((fail_if_success guard_hyp g3); intro g3 w hS) | ((fail_if_success guard_hyp g4); intro g4 w hS) | fail) | fail)
        go_roundw
        case measure => simp [intOf]; omega
        have hS := hS.drop
        exact ⟨k + 1, _, _, _, by omega, Lib.hid (by rw [HSUC.out, hb, HY.out]; rfl), by first | omega | (simp; omega), by go_num, by first | rfl | simp, hS⟩
    · go_wp2_with (first | (refine oL ?_; (first | refine sL1 hS rfl rfl rfl ?_ | refine sL2 hS rfl rfl rfl ?_ | refine sL3 hS rfl rfl ?_ | refine sL4 hS rfl rfl ?_ | refine sL5 hS rfl rfl ?_ | refine sL6 hS rfl rfl ?_ | refine sL7 hS rfl rfl ?_)) | (refine oS ?_; ((first | refine sS1 hS rfl rfl rfl ?_ | refine sS2 hS rfl rfl rfl ?_ | refine sS3 hS rfl rfl rfl ?_ | refine sS4 hS rfl rfl rfl ?_ | refine sS5 hS rfl rfl rfl ?_); clear hS; intro w hS)) | (refine oP ?_; ((first | refine sP1 hS rfl rfl rfl ?_ | refine sP2 hS rfl rfl rfl ?_ | refine sP3 hS rfl rfl rfl ?_); clear hS; first | ((fail_if_success guard_hyp L1); intro L1 cl1 w hL1 hM1 hS) | ((fail_if_success guard_hyp L2); intro L2 cl2 w hL2 hM2 hS) | fail)) | ((first | (refine oB ?_; first | refine sB1 hS rfl rfl ?_ | refine sB2 hS rfl rfl ?_) | refine sN1 hS rfl ?_ | (refine oC ?_; first | refine sC0 hS rfl ?_ | refine sC1 hS rfl rfl ?_ | refine sC2 hS rfl rfl ?_ | refine sC3 hS rfl rfl rfl ?_ | refine sC4 hS rfl rfl rfl ?_)); clear hS; first | ((fail_if_success guard_hyp g1); intro g1 w hS) | ((fail_if_success guard_hyp g2); intro g2 w hS) | ((fail_if_success guard_hyp g3); intro g3 w hS) | ((fail_if_success guard_hyp g4); intro g4 w hS) | fail) | fail)
      go_ret
      have : k = p.arcs.length := by omega
      subst this
      have hy := HY.out
      subst hy
      exact hS.ret rfl

/-- has a cut no orphans -/
def consB (arcs : List Arc) (xs : List Int) : Bool := arcs.all fun a => !orph a xs
theorem idxs_nil (f : Arc → Bool) (l : List Arc) : ∀ k, k ≤ l.length → ((idxs f l k).length = 0 ↔ ∀ a ∈ l.take k, f a = false)
  | 0, _ => by simp [idxs]
  | k + 1, hk => by
    have hk' : k < l.length := by omega
    rw [idxs_succ f l hk', List.take_succ_eq_append_getElem hk']
    have ih := idxs_nil f l k (by omega)
    constructor
    · intro h a ha
      split at h
      · simp at h
      · rename_i hf
        rcases List.mem_append.1 ha with ha | ha
        · exact ih.1 h a ha
        · rw [List.mem_singleton.1 ha]; simpa using hf
    · intro h
      rw [if_neg (by rw [h l[k] (List.mem_append_right _ (List.mem_singleton.2 rfl))]; simp)]
      exact ih.2 (fun a ha => h a (List.mem_append_left _ ha))
theorem consB_iff (arcs : List Arc) (xs : List Int) : decide ((idxs (orph · xs) arcs arcs.length).length = 0) = consB arcs xs := by
  rw [Bool.eq_iff_iff, decide_eq_true_iff, idxs_nil _ _ _ (Nat.le_refl _), List.take_length, consB, List.all_eq_true]
  simp

set_option maxHeartbeats 800000 in
theorem rconsistent_any {S T : Nat → Prop} (A1 A2 A3 X : Option Addr) (c1 c2 c3 c n1 n2 : Nat) (arcs : List Arc) (xs : List Int) (w0 : World) (hx : RI S w0 X xs) (ha : RA T w0 A3 arcs) (hok : ∀ ar ∈ arcs, ar.fr < xs.length ∧ ar.to < xs.length ∧ 0 ≤ ar.at_) (hlen : arcs.length ≤ 1000) :
    Calls Try.prog 28 #[.agg #[.slice A1 n1 c1, .slice A2 n2 c2, .slice A3 arcs.length c3], .slice X xs.length c] w0 fun e w' => e = .returned (.bool (consB arcs xs)) ∧ Ext w0 w' := by
  have hS := St.start w0 NoM
  have HOK := Lib.hid hok
  have hB := Lib.hid (consB_iff arcs xs)
  have hle := idxs_le (orph · xs) arcs arcs.length
  clear hok
  go_enter Try.func28, Try.ntmps28
  go_wp2_with (first | (go_at_call 58; refine (rorphans _ _ _ _ _ _ _ _ _ _ arcs xs _ (hx.ext hS.toExt) (ha.into (Into.ofExt hS.toExt)) HOK.out hlen).mono ?_; rintro e w ⟨L, cl, rfl, ho, hx1⟩; have hS := hS.addRow ho hx1) | (refine oL ?_; (first | refine sL1 hS rfl rfl rfl ?_ | refine sL2 hS rfl rfl rfl ?_ | refine sL3 hS rfl rfl ?_ | refine sL4 hS rfl rfl ?_ | refine sL5 hS rfl rfl ?_ | refine sL6 hS rfl rfl ?_ | refine sL7 hS rfl rfl ?_)) | ((first | (refine oB ?_; first | refine sB1 hS rfl rfl ?_ | refine sB2 hS rfl rfl ?_)); clear hS; first | ((fail_if_success guard_hyp g1); intro g1 w hS) | ((fail_if_success guard_hyp g2); intro g2 w hS) | fail) | fail)
  go_ret
  refine ⟨ret_bool ?_, hS.toExt⟩
  rw [← hB.out]
  rw [Bool.eq_iff_iff]; simp

set_option maxHeartbeats 1600000 in
theorem consistent_any {S T : Nat → Prop} (v : PV) (X : Option Addr) (c : Nat) (p : Pat) (xs : List Int) (w0 : World) (hp : PatAt S w0 v p) (hg : Good p) (hx : RI T w0 X xs) (hv : validB p.len xs = true) :
    Calls Try.prog 29 #[v.val p, .slice X xs.length c] w0 fun e w' => e = .returned (.bool (consB p.arcs xs)) ∧ Ext w0 w' := by
  have hS := St.start w0 NoM
  have hxl : xs.length = p.len.length := by simp [validB] at hv; exact hv.1
  have HG := Lib.hid hg
  have HP := Lib.hid hp
  have hn5 := hg.n5
  have HV := Lib.hid hv
  have hx5 : xs.length ≤ 5 := by omega
  have hB := Lib.hid (consB_iff p.arcs xs)
  have hle := idxs_le (orph · xs) p.arcs p.arcs.length
  have hfew := hg.few
  clear hg hp hv hxl
  obtain ⟨A1, c1, A2, c2, A3, c3⟩ := v
  simp only [PV.val] at *
  go_enter Try.func29, Try.ntmps29
  go_wp2_with (first | (go_at_call 59; refine (fits_any ⟨A1, c1, A2, c2, A3, c3⟩ _ _ p xs _ (HP.out.ext hS.toExt) HG.out (hx.ext hS.toExt) (by omega)).mono ?_; rintro e w ⟨rfl, hx1⟩; have hS := hS.ext hx1; rw [HV.out]) | (go_at_call 60; refine (orphans_any ⟨A1, c1, A2, c2, A3, c3⟩ _ _ p xs _ (HP.out.ext hS.toExt) HG.out (hx.ext hS.toExt) HV.out).mono ?_; rintro e w ⟨L, cl, rfl, ho, hx1⟩; have hS := hS.addRow ho hx1) | (refine oL ?_; (first | refine sL1 hS rfl rfl rfl ?_ | refine sL2 hS rfl rfl rfl ?_ | refine sL3 hS rfl rfl ?_ | refine sL4 hS rfl rfl ?_ | refine sL5 hS rfl rfl ?_ | refine sL6 hS rfl rfl ?_ | refine sL7 hS rfl rfl ?_)) | ((first | (refine oB ?_; first | refine sB1 hS rfl rfl ?_ | refine sB2 hS rfl rfl ?_)); clear hS; first | ((fail_if_success guard_hyp g1); intro g1 w hS) | ((fail_if_success guard_hyp g2); intro g2 w hS) | fail) | fail)
  go_ret
  refine ⟨ret_bool ?_, hS.toExt⟩
  rw [← hB.out]
  rw [Bool.eq_iff_iff]; simp

/-- element by element -/
def zipI (f : Int → Int → Int) (xs ys : List Int) : List Int := if xs.length = ys.length then List.zipWith f xs ys else []
theorem zipWith_take_succ (f : Int → Int → Int) {xs ys : List Int} {k : Nat} (hx : k < xs.length) (hy : k < ys.length) : (List.zipWith f xs ys).take (k + 1) = (List.zipWith f xs ys).take k ++ [f (nth xs k) (nth ys k)] := by
  rw [List.take_succ_eq_append_getElem (by simp; omega)]
  simp [nth_eq hx, nth_eq hy]

end Go.Proofs.Ytmjmdncdmmcmaaa

/- Cuts: Meet, Join, Lower, Raise, of the program and of the reference. Conditions: the pattern is good, the cut is one. -/
namespace Go.Proofs.Ytmjmdncdmmcmaaa
open Go.RowKit
set_option linter.unusedVariables false
set_option linter.unusedSimpArgs false

theorem zip_fill (f : Int → Int → Int) {xs ys : List Int} (hl : xs.length = ys.length) {k : Nat} (hk : k < xs.length) :
    ((List.zipWith f xs ys).take k ++ List.replicate (xs.length - k) 0).set k (f (nth xs k) (nth ys k)) = (List.zipWith f xs ys).take (k + 1) ++ List.replicate (xs.length - (k + 1)) 0 := by
  have hlt : ((List.zipWith f xs ys).take k).length = k := by simp; omega
  rw [zipWith_take_succ f hk (by omega), List.append_assoc, List.set_append_right _ _ (by omega), hlt, Nat.sub_self, show xs.length - k = (xs.length - (k + 1)) + 1 by omega, List.replicate_succ]
  rfl

end Go.Proofs.Ytmjmdncdmmcmaaa

/- Lowering and raising cuts as plain functions. No condition. -/
namespace Go.Proofs.Ytmjmdncdmmcmaaa
set_option linter.unusedVariables false

def lowStep (a : Arc) (x : List Int) : List Int := x.set a.to (a.at_ - 1)
def raiStep (a : Arc) (x : List Int) : List Int := x.set a.fr a.ix
/-- one step: the first orphan is mended -/
def mend (step : Arc → List Int → List Int) (arcs : List Arc) (x : List Int) : List Int := match arcs.find? (orph · x) with | none => x | some a => step a x
def iter (f : List Int → List Int) : Nat → List Int → List Int
  | 0, x => x
  | n + 1, x => iter f n (f x)
theorem iter_succ' (f : List Int → List Int) : ∀ (n : Nat) (x : List Int), iter f (n + 1) x = f (iter f n x)
  | 0, _ => rfl
  | n + 1, x => by rw [iter, iter_succ' f n (f x), iter]
theorem iter_add (f : List Int → List Int) : ∀ (n m : Nat) (x : List Int), iter f (n + m) x = iter f m (iter f n x)
  | 0, m, x => by rw [Nat.zero_add]; rfl
  | n + 1, m, x => by rw [show n + 1 + m = (n + m) + 1 by omega, iter, iter_add f n m, iter]
theorem iter_fix {f : List Int → List Int} {x : List Int} (h : f x = x) : ∀ n, iter f n x = x
  | 0 => rfl
  | n + 1 => by rw [iter, h, iter_fix h n]
/-- from x mending leads to y -/
def Run (step : Arc → List Int → List Int) (arcs : List Arc) (x y : List Int) : Prop := ∃ n, iter (mend step arcs) n x = y
/-- and ends there -/
def Fin (step : Arc → List Int → List Int) (arcs : List Arc) (x y : List Int) : Prop := Run step arcs x y ∧ consB arcs y = true
theorem find_none {arcs : List Arc} {x : List Int} : arcs.find? (orph · x) = none ↔ consB arcs x = true := by
  simp [consB, List.all_eq_true]
theorem mend_fix {step : Arc → List Int → List Int} {arcs : List Arc} {x : List Int} (h : consB arcs x = true) : mend step arcs x = x := by
  rw [mend, find_none.2 h]
theorem Fin.unique {step : Arc → List Int → List Int} {arcs : List Arc} {x y z : List Int} (h : Fin step arcs x y) (k : Fin step arcs x z) : y = z := by
  obtain ⟨⟨n, rfl⟩, h1⟩ := h
  obtain ⟨⟨m, rfl⟩, h2⟩ := k
  rcases Nat.le_total n m with hl | hl
  · obtain ⟨d, rfl⟩ := Nat.exists_eq_add_of_le hl
    rw [iter_add, iter_fix (mend_fix h1)]
  · obtain ⟨d, rfl⟩ := Nat.exists_eq_add_of_le hl
    rw [iter_add, iter_fix (mend_fix h2)]
theorem Run.refl (step : Arc → List Int → List Int) (arcs : List Arc) (x : List Int) : Run step arcs x x := ⟨0, rfl⟩
theorem Run.snoc {step : Arc → List Int → List Int} {arcs : List Arc} {x y : List Int} {a : Arc} (h : Run step arcs x y) (hf : arcs.find? (orph · y) = some a) : Run step arcs x (step a y) := by
  obtain ⟨n, rfl⟩ := h
  exact ⟨n + 1, by rw [iter_succ', mend, hf]⟩
theorem find_at {f : Arc → Bool} : ∀ {l : List Arc} {k : Nat} (hk : k < l.length), (∀ a ∈ l.take k, f a = false) → f l[k] = true → l.find? f = some l[k]
  | [], k, hk, _, _ => by simp at hk
  | b :: l, 0, _, _, h => by simp at h ⊢; exact .inl h
  | b :: l, k + 1, hk, hb, h => by
    have h0 := hb b (by simp)
    rw [List.find?_cons, h0]
    simp only [List.getElem_cons_succ] at h ⊢
    exact find_at (by simpa using hk) (fun a ha => hb a (by simp [ha])) h
theorem find_idxs {f : Arc → Bool} {l : List Arc} : ∀ (n : Nat), n ≤ l.length → ∀ {i : Int} {r : List Int}, idxs f l n = i :: r → ∃ k : Nat, i = k ∧ k < n ∧ ∃ h : k < l.length, l.find? f = some l[k] ∧ f l[k] = true
  | 0, _, i, r, h => by simp [idxs] at h
  | n + 1, hn, i, r, h => by
    have hn' : n < l.length := by omega
    rw [idxs_succ f l hn'] at h
    cases hc : idxs f l n with
    | nil =>
      rw [hc] at h
      split at h
      · rename_i hf
        injection h with h1 h2
        refine ⟨n, h1.symm, by omega, hn', find_at hn' ((idxs_nil f l n (by omega)).1 (by rw [hc]; rfl)) hf, hf⟩
      · cases h
    | cons j s =>
      rw [hc] at h
      have hj : j = i := by split at h <;> (injection h)
      obtain ⟨k, h1, h2, h3⟩ := find_idxs n (by omega) hc
      exact ⟨k, by rw [← hj]; exact h1, by omega, h3⟩

/-- the sum of a cut -/
def sumN : List Int → Nat
  | [] => 0
  | x :: l => x.toNat + sumN l
theorem sumN_set : ∀ {l : List Int} {k : Nat} (hk : k < l.length) {v : Int}, v.toNat < (nth l k).toNat → sumN (l.set k v) < sumN l
  | [], k, hk, _, _ => by simp at hk
  | x :: l, 0, _, v, h => by simp [nth] at h; simp [sumN]; omega
  | x :: l, k + 1, hk, v, h => by
    have := sumN_set (l := l) (k := k) (by simpa using hk) (v := v) (by simpa [nth] using h)
    simp [sumN]; omega
/-- what is missing of a cut to the lengths -/
def lackN : List Int → List Int → Nat
  | m :: len, x :: l => (m - x).toNat + lackN len l
  | _, _ => 0
theorem lackN_set : ∀ {len l : List Int} {k : Nat} (hk : k < l.length) (hk' : k < len.length) {v : Int}, nth l k < v → v ≤ nth len k → lackN len (l.set k v) < lackN len l
  | [], _, k, _, hk', _, _, _ => by simp at hk'
  | _ :: _, [], k, hk, _, _, _, _ => by simp at hk
  | m :: len, x :: l, 0, _, _, v, h, h' => by simp [nth] at h h'; simp [lackN]; omega
  | m :: len, x :: l, k + 1, hk, hk', v, h, h' => by
    have := lackN_set (len := len) (l := l) (k := k) (by simpa using hk) (by simpa using hk') (v := v) (by simpa [nth] using h) (by simpa [nth] using h')
    simp [lackN]; omega
theorem orph_iff {a : Arc} {x : List Int} : orph a x = true ↔ 0 < a.at_ ∧ a.at_ ≤ nth x a.to ∧ nth x a.fr < a.ix := by
  simp [orph, and_assoc]
theorem valid_iff {len xs : List Int} : validB len xs = true ↔ xs.length = len.length ∧ ∀ k, k < len.length → 0 ≤ nth xs k ∧ nth xs k ≤ nth len k := by
  constructor
  · intro h
    simp only [validB, Bool.and_eq_true, decide_eq_true_eq] at h
    exact ⟨h.1, fun k hk => within_at h.2 (by omega)⟩
  · rintro ⟨h1, h2⟩
    simp only [validB, Bool.and_eq_true, decide_eq_true_eq]
    refine ⟨h1, List.all_eq_true.2 fun i hi => ?_⟩
    have := h2 i (by have := List.mem_range.1 hi; omega)
    simp [this.1, this.2]
section
variable {p : Pat} {a : Arc} {x : List Int}
theorem low_valid (hg : Good p) (ha : a ∈ p.arcs) (hv : validB p.len x = true) (ho : orph a x = true) : validB p.len (lowStep a x) = true ∧ sumN (lowStep a x) < sumN x := by
  obtain ⟨h1, h2⟩ := valid_iff.1 hv
  have hok := hg.arc a ha
  obtain ⟨o1, o2, o3⟩ := orph_iff.1 ho
  have ht := hok.to
  refine ⟨valid_iff.2 ⟨by simp [lowStep, h1], fun k hk => ?_⟩, sumN_set (by rw [h1]; exact ht) (by have := h2 _ ht; omega)⟩
  rw [lowStep, nth_set (by rw [h1]; exact ht)]
  split
  · rename_i e
    subst e
    have := h2 _ hk; omega
  · exact h2 k hk
theorem rai_valid (hg : Good p) (ha : a ∈ p.arcs) (hv : validB p.len x = true) (ho : orph a x = true) : validB p.len (raiStep a x) = true ∧ lackN p.len (raiStep a x) < lackN p.len x := by
  obtain ⟨h1, h2⟩ := valid_iff.1 hv
  have hok := hg.arc a ha
  obtain ⟨o1, o2, o3⟩ := orph_iff.1 ho
  have ht := hok.fr
  refine ⟨valid_iff.2 ⟨by simp [raiStep, h1], fun k hk => ?_⟩, lackN_set (by rw [h1]; exact ht) ht o3 hok.ix1⟩
  rw [raiStep, nth_set (by rw [h1]; exact ht)]
  split
  · rename_i e
    subst e
    exact ⟨hok.ix0, hok.ix1⟩
  · exact h2 k hk
end
end Go.Proofs.Ytmjmdncdmmcmaaa

/- Cuts: Lower and Raise, of the program and of the reference. Conditions: the pattern is good, the cut is one. -/
namespace Go.Proofs.Ytmjmdncdmmcmaaa
open Go.RowKit
set_option linter.unusedVariables false
set_option linter.unusedSimpArgs false

/-- a new cut is returned that mending ends in -/
def RetFin (step : Arc → List Int → List Int) (arcs : List Arc) (x : List Int) (w : World) (e : Ending) (w' : World) : Prop :=
  ∃ y, Fin step arcs x y ∧ y.length = x.length ∧ RetRow w 3 1 y.length (ints y) e w'

theorem rorphans_n {S T : Nat → Prop} {A1 A2 A3 X : Option Addr} {c1 c2 c3 c n1 n2 n : Nat} {arcs : List Arc} {xs : List Int} {w0 : World} (hn : xs.length = n) (hx : RI S w0 X xs) (ha : RA T w0 A3 arcs) (hok : ∀ ar ∈ arcs, ar.fr < xs.length ∧ ar.to < xs.length ∧ 0 ≤ ar.at_) (hlen : arcs.length ≤ 1000) :
    Calls Try.prog 58 #[.agg #[.slice A1 n1 c1, .slice A2 n2 c2, .slice A3 arcs.length c3], .slice X n c] w0 (RetRow w0 3 1 (idxs (orph · xs) arcs arcs.length).length (ints (idxs (orph · xs) arcs arcs.length))) := by
  subst hn; exact rorphans _ _ _ _ _ _ _ _ _ _ arcs xs w0 hx ha hok hlen
theorem orphan_n {S : Nat → Prop} {X : Option Addr} {c n : Nat} {ar : Arc} {xs : List Int} {w : World} (hn : xs.length = n) (hx : RI S w X xs) (hf : ar.fr < xs.length) (ht : ar.to < xs.length) (h0 : 0 ≤ ar.at_) :
    Calls Try.prog 91 #[.agg (arcCells ar).toArray, .slice X n c] w fun e w' => e = .returned (.bool (orph ar xs)) ∧ Ext w w' := by
  subst hn; exact orphan_any _ _ _ _ _ hx hf ht h0

end Go.Proofs.Ytmjmdncdmmcmaaa

/- A cut by choices (rollbacknetmake.Codes.Cut). Conditions: the choices and the lengths lie in memory, at most five processes of at most 64 events. -/
namespace Go.Proofs.Ytmjmdncdmmcmaaa
open Go.RowKit
set_option linter.unusedVariables false
/-- a cut by choices: process by process -/
def cutL : List Int → List Int → List Int
  | _, [] => []
  | r, m :: l => (m - (nxt r (m.toNat + 1) : Nat)) :: cutL r.tail l
def cutR (r : List Int) (l : List Int) : List Int := r.drop l.length

end Go.Proofs.Ytmjmdncdmmcmaaa

