/- Patterns: process, Interval, Same, of the program and of the reference. Conditions: the lists lie in memory; lengths within range. -/
import Derived.Test.YtmjmdncdmmcmaaaGc
import Derived.Test.YtmjmdncdmmcmaaaGa
import Derived.IntWalk
import Derived.Test.YtmjmdncdmmcmaaaOwnQ
import Derived.Lib.SliceRun
import Derived.WalkMore
namespace Go.Proofs.Ytmjmdncdmmcmaaa
open Go.RowKit
set_option linter.unusedVariables false
set_option linter.unusedSimpArgs false

theorem RA.cells {S : Nat → Prop} {w : World} {A : Option Addr} {az : List Arc} (h : RA S w A az) {j : Nat} (hj : j < az.length) : ∃ b o, A = some ⟨b, o, none⟩ ∧ S b ∧ Cells w b (o + j * 4) (arcCells az[j]) := by
  obtain ⟨vs, h1, h2⟩ := h
  obtain ⟨b, o, cs, e1, _, hr, hc⟩ := RL.at_ ⟨vs, h1, h2⟩ hj (by omega)
  have hv : j * 4 < vs.length := by rw [h2.length]; omega
  obtain ⟨b', o', e2, hs⟩ := h1.at_block hv
  rw [e1] at e2
  injection e2 with e2; injection e2 with e2 e3; subst e2; subst e3
  have e : cs = arcCells az[j] := hr
  subst e
  refine ⟨b, o, e1, hs, fun i u hu => ?_⟩
  have hi : i < 4 := by
    rcases Nat.lt_or_ge i 4 with h1 | h1
    · exact h1
    · rw [List.getElem?_eq_none (by simpa [arcCells] using h1)] at hu; cases hu
  rw [hc i hi]; exact hu
theorem RR.atS {S : Nat → Prop} {w : World} {A : Option Addr} {ls : List (List Int)} (h : RR S w A ls) {j : Nat} (hj : j < ls.length) :
    ∃ b o B c, A = some ⟨b, o, none⟩ ∧ S b ∧ w.cell? ⟨b, o + j, none⟩ = some (.slice B ls[j].length c) ∧ ls[j].length ≤ c ∧ c ≤ 9223372036854775807 ∧ RI S w B ls[j] := by
  obtain ⟨b, o, B, c, e1, h1, h2, h3, h4⟩ := h.at_ hj
  obtain ⟨vs, h5, h6⟩ := h
  have hv : j < vs.length := by rw [h6.length]; omega
  obtain ⟨b', o', e2, hs⟩ := h5.at_block hv
  rw [e1] at e2
  injection e2 with e2; injection e2 with e2 e3; subst e2; subst e3
  rw [rowOf_eq hj] at h1 h2 h4
  exact ⟨b, o, B, c, e1, hs, h1, h2, h3, h4⟩

theorem arcCells_one (a : Arc) : ∀ u ∈ arcCells a, u.oneCell' = true := by simp [arcCells, Value.oneCell']
set_option maxHeartbeats 800000 in
theorem process_any (A1 A2 A3 : Option Addr) (c1 c2 c3 n1 n2 n3 : Nat) (q : Int) (w0 : World) :
    Calls Try.prog 101 #[.agg #[.slice A1 n1 c1, .slice A2 n2 c2, .slice A3 n3 c3], .int .i64 q] w0 fun e w' => e = .returned (.bool (decide (0 ≤ q ∧ q < n1))) ∧ Ext w0 w' := by
  have hS := St.start w0 NoM
  by_cases h0 : 0 ≤ q
  · have d0 : decide (0 ≤ q) = true := by simp [h0]
    go_enter Try.func101, Try.ntmps101
    go_wp2_with (first | (refine oL ?_; ((refine sL1 hS rfl rfl rfl ?_))) | ((((refine oB ?_; (refine sB1 hS rfl rfl ?_)))); clear hS; (((fail_if_success guard_hyp g1); intro g1 w hS))))
    go_ret
    exact ⟨ret_bool (by simp [h0]), hS.toExt⟩
  · have d0 : decide (0 ≤ q) = false := by simp [h0]
    go_enter Try.func101, Try.ntmps101
    go_wp2_with ((((((refine oB ?_; (refine sB1 hS rfl rfl ?_)))); clear hS; (((fail_if_success guard_hyp g1); intro g1 w hS)))))
    go_ret
    exact ⟨ret_bool (by first | (simp; omega) | simp), hS.toExt⟩
set_option maxHeartbeats 800000 in
theorem proc_any (A1 A2 A3 : Option Addr) (c1 c2 c3 n1 n2 n3 : Nat) (q : Int) (w0 : World) :
    Calls Try.prog 103 #[.agg #[.slice A1 n1 c1, .slice A2 n2 c2, .slice A3 n3 c3], .int .i64 q] w0 fun e w' => e = .returned (.bool (decide (0 ≤ q ∧ q < n1))) ∧ Ext w0 w' := by
  have hS := St.start w0 NoM
  by_cases h0 : 0 ≤ q
  · have d0 : decide (0 ≤ q) = true := by simp [h0]
    go_enter Try.func103, Try.ntmps103
    go_wp2_with (first | (refine oL ?_; ((refine sL1 hS rfl rfl rfl ?_))) | ((((refine oB ?_; (refine sB1 hS rfl rfl ?_)))); clear hS; (((fail_if_success guard_hyp g1); intro g1 w hS))))
    go_ret
    exact ⟨ret_bool (by simp [h0]), hS.toExt⟩
  · have d0 : decide (0 ≤ q) = false := by simp [h0]
    go_enter Try.func103, Try.ntmps103
    go_wp2_with ((((((refine oB ?_; (refine sB1 hS rfl rfl ?_)))); clear hS; (((fail_if_success guard_hyp g1); intro g1 w hS)))))
    go_ret
    exact ⟨ret_bool (by first | (simp; omega) | simp), hS.toExt⟩

set_option maxHeartbeats 400000 in
theorem rsameInts_eq {S T : Nat → Prop} (A B : Option Addr) (c d : Nat) (xs : List Int) (w0 : World) (ha : RI S w0 A xs) (hb : RI T w0 B xs) (hx : xs.length ≤ 1000000) :
    Calls Try.prog 77 #[.slice A xs.length c, .slice B xs.length d] w0 fun e w' => e = .returned (.bool true) ∧ Ext w0 w' := by
  have hS := St.start w0 NoM
  have hl1 : ((xs.length : Int) != (xs.length : Int)) = false := by simp
  go_enter Try.func77, Try.ntmps77
  go_wp2_with (fail)
  clear hl1
  go_loopw [5] (fun i wr => ∃ k : Nat, k ≤ xs.length ∧ i = .int .i64 k ∧ St w0 NoM [] wr) (fun i _ => xs.length - (intOf i).toNat)
  case atStart => exact ⟨0, Nat.zero_le _, rfl, hS⟩
  case round =>
    obtain ⟨k, hk, rfl, hS⟩ := hrel
    by_cases hlt : k < xs.length
    · obtain ⟨b1, o1, rfl, _, hca⟩ := ha.atS hlt
      obtain ⟨b2, o2, rfl, _, hcb⟩ := hb.atS hlt
      have he1 : (xs[k] != xs[k]) = false := by simp
      go_wp2_with (fail)
      refine dr_start0 []  hS (by kernel_rfl) rfl ?_; clear hS; intro w hS
      refine dM hS 0 rfl rfl rfl ?_
      (try simp only [Act.put, nA, nB, nC])
      refine dM hS 1 rfl rfl rfl ?_
      (try simp only [Act.put, nA, nB, nC])
      refine dP hS 2 rfl rfl ?_
      (try simp only [Act.put, nA, nB, nC])
      (refine dL4 hS 3 rfl rfl rfl ?_)
      (try simp only [Act.put, nA, nB, nC])
      refine dM hS 4 rfl rfl rfl ?_
      (try simp only [Act.put, nA, nB, nC])
      refine dM hS 5 rfl rfl rfl ?_
      (try simp only [Act.put, nA, nB, nC])
      refine dP hS 6 rfl rfl ?_
      (try simp only [Act.put, nA, nB, nC])
      (refine dL4 hS 7 rfl rfl rfl ?_)
      (try simp only [Act.put, nA, nB, nC])
      refine dP hS 8 rfl rfl ?_
      (try simp only [Act.put, nA, nB, nC])
      refine dr_done (by kernel_rfl) ?_
      go_wp2_with (fail)
      go_roundw
      case rel => exact ⟨k + 1, by omega, by go_num, hS⟩
      case measure => simp [intOf]; omega
    · go_wp2_with (fail)
      go_ret
      exact ⟨rfl, hS.toExt⟩

set_option maxHeartbeats 1600000 in
/-- two equal patterns are found the same -/
theorem same_eq {S T : Nat → Prop} (A1 A2 A3 B1 B2 B3 : Option Addr) (c1 c2 c3 d1 d2 d3 : Nat) (p : Pat) (w0 : World) (h1 : RI S w0 A1 p.len) (h2 : RR S w0 A2 p.ck) (h3 : RA S w0 A3 p.arcs) (k1 : RI T w0 B1 p.len) (k2 : RR T w0 B2 p.ck) (k3 : RA T w0 B3 p.arcs)
    (hl : p.len.length ≤ 1000000) (hc : p.ck.length ≤ 1000000) (hr : ∀ l ∈ p.ck, l.length ≤ 1000000) (ha : p.arcs.length ≤ 1000000) :
    Calls Try.prog 39 #[.agg #[.slice A1 p.len.length c1, .slice A2 p.ck.length c2, .slice A3 p.arcs.length c3], .agg #[.slice B1 p.len.length d1, .slice B2 p.ck.length d2, .slice B3 p.arcs.length d3]] w0 fun e w' => e = .returned (.bool true) ∧ Ext w0 w' := by
  have hS := St.start w0 NoM
  have HR := Lib.hid hr
  clear hr
  have e2 : ((p.ck.length : Int) != (p.ck.length : Int)) = false := by simp
  have e3 : ((p.arcs.length : Int) != (p.arcs.length : Int)) = false := by simp
  go_enter Try.func39, Try.ntmps39
  go_wp2_with (first | (go_at_call 77; refine (rsameInts_eq _ _ _ _ p.len _ (h1.ext hS.toExt) (k1.ext hS.toExt) hl).mono ?_; rintro e w ⟨rfl, hx1⟩; have hS := hS.ext hx1) | (refine oL ?_; ((refine sL1 hS rfl rfl rfl ?_))) | ((((refine oB ?_; (refine sB1 hS rfl rfl ?_)))); clear hS; first | ((fail_if_success guard_hyp g1); intro g1 w hS) | ((fail_if_success guard_hyp g2); intro g2 w hS)))
  clear e2 e3
  go_loopw [5] (fun i wr => ∃ k : Nat, k ≤ p.ck.length ∧ i = .int .i64 k ∧ St w0 NoM [blk g2 [.slice B1 p.len.length d1, .slice B2 p.ck.length d2, .slice B3 p.arcs.length d3] 44, blk g1 [.slice A1 p.len.length c1, .slice A2 p.ck.length c2, .slice A3 p.arcs.length c3] 44] wr) (fun i _ => p.ck.length - (intOf i).toNat)
  case atStart => exact ⟨0, Nat.zero_le _, rfl, hS⟩
  case round =>
    obtain ⟨k, hk, rfl, hS⟩ := hrel
    by_cases hlt : k < p.ck.length
    · obtain ⟨b1, o1, B, cB, rfl, _, hca, _, _, hra⟩ := h2.atS hlt
      obtain ⟨b2, o2, C, cC, rfl, _, hcb, _, _, hrb⟩ := k2.atS hlt
      have hrl := HR.out _ (List.getElem_mem hlt)
      go_wp2_with (((refine oL ?_; ((refine sL1 hS rfl rfl rfl ?_)))))
      refine dr_start0 []  hS (by kernel_rfl) rfl ?_; clear hS; intro w hS
      refine dP hS 0 rfl rfl ?_
      (try simp only [Act.put, nA, nB, nC])
      (refine dL1 hS 1 rfl rfl rfl rfl ?_)
      (try simp only [Act.put, nA, nB, nC])
      refine dM hS 2 rfl rfl rfl ?_
      (try simp only [Act.put, nA, nB, nC])
      refine dP hS 3 rfl rfl ?_
      (try simp only [Act.put, nA, nB, nC])
      (refine dL4 hS 4 rfl rfl rfl ?_)
      (try simp only [Act.put, nA, nB, nC])
      refine dP hS 5 rfl rfl ?_
      (try simp only [Act.put, nA, nB, nC])
      (refine dL1 hS 6 rfl rfl rfl rfl ?_)
      (try simp only [Act.put, nA, nB, nC])
      refine dM hS 7 rfl rfl rfl ?_
      (try simp only [Act.put, nA, nB, nC])
      refine dP hS 8 rfl rfl ?_
      (try simp only [Act.put, nA, nB, nC])
      (refine dL4 hS 9 rfl rfl rfl ?_)
      (try simp only [Act.put, nA, nB, nC])
      refine dr_one 10 (by kernel_rfl) rfl ?_
      (refine st_call rfl (by kernel_rfl) rfl ?_; refine (rsameInts_eq _ _ _ _ p.ck[k] _ (hra.ext hS.toExt) (hrb.ext hS.toExt) hrl).mono ?_; rintro e w ⟨rfl, hx1⟩; have hS := hS.ext hx1)
      (try simp only [Act.put, nA, nB, nC])
      refine dr_end hS ?_
      refine dP hS 11 rfl rfl ?_
      (try simp only [Act.put, nA, nB, nC])
      refine dr_done (by kernel_rfl) ?_
      go_wp2_with (fail)
      go_roundw
      case rel => exact ⟨k + 1, by omega, by go_num, hS⟩
      case measure => simp [intOf]; omega
    · go_wp2_with (((refine oL ?_; ((refine sL1 hS rfl rfl rfl ?_)))))
      go_loopw [6] (fun i wr => ∃ k : Nat, k ≤ p.arcs.length ∧ i = .int .i64 k ∧ St w0 NoM [blk g2 [.slice B1 p.len.length d1, .slice B2 p.ck.length d2, .slice B3 p.arcs.length d3] 44, blk g1 [.slice A1 p.len.length c1, .slice A2 p.ck.length c2, .slice A3 p.arcs.length c3] 44] wr) (fun i _ => p.arcs.length - (intOf i).toNat)
      case atStart => exact ⟨0, Nat.zero_le _, rfl, hS⟩
      case round =>
        obtain ⟨k, hk, rfl, hS⟩ := hrel
        by_cases hlt : k < p.arcs.length
        · obtain ⟨b1, o1, rfl, _, hca⟩ := h3.cells hlt
          obtain ⟨b2, o2, rfl, _, hcb⟩ := k3.cells hlt
          generalize p.arcs[k] = ar at *
          simp only [arcCells] at hca hcb
          go_wp2_with (((refine oL ?_; ((refine sL1 hS rfl rfl rfl ?_)))))
          refine dr_start0 []  hS (by kernel_rfl) rfl ?_; clear hS; intro w hS
          refine dP hS 0 rfl rfl ?_
          (try simp only [Act.put, nA, nB, nC])
          (refine dL1 hS 1 rfl rfl rfl rfl ?_)
          (try simp only [Act.put, nA, nB, nC])
          refine dM hS 2 rfl rfl rfl ?_
          (try simp only [Act.put, nA, nB, nC])
          refine dP hS 3 rfl rfl ?_
          (try simp only [Act.put, nA, nB, nC])
          (refine dL3 hS 4 rfl rfl rfl ?_)
          (try simp only [Act.put, nA, nB, nC])
          refine dP hS 5 rfl rfl ?_
          (try simp only [Act.put, nA, nB, nC])
          (refine dL1 hS 6 rfl rfl rfl rfl ?_)
          (try simp only [Act.put, nA, nB, nC])
          refine dM hS 7 rfl rfl rfl ?_
          (try simp only [Act.put, nA, nB, nC])
          refine dP hS 8 rfl rfl ?_
          (try simp only [Act.put, nA, nB, nC])
          (refine dL3 hS 9 rfl rfl rfl ?_)
          (try simp only [Act.put, nA, nB, nC])
          refine dP hS 10 rfl rfl ?_
          (try simp only [Act.put, nA, nB, nC])
          refine dr_done (by kernel_rfl) ?_
          go_wp2_with (fail)
          go_roundw
          case rel => exact ⟨k + 1, by omega, by go_num, hS⟩
          case measure => simp [intOf]; omega
        · go_wp2_with (((refine oL ?_; ((refine sL1 hS rfl rfl rfl ?_)))))
          go_ret
          exact ⟨rfl, hS.toExt⟩
end Go.Proofs.Ytmjmdncdmmcmaaa

/- Cuts: orphans of a cut, by the program and by the reference. Conditions: the pattern and the list lie in memory, arcs in range. -/
namespace Go.Proofs.Ytmjmdncdmmcmaaa
open Go.RowKit
set_option linter.unusedVariables false
set_option linter.unusedSimpArgs false

/-- is an arc received up to a cut and sent behind it -/
def orph (a : Arc) (x : List Int) : Bool := decide (0 < a.at_) && decide (a.at_ ≤ nth x a.to) && decide (nth x a.fr < a.ix)

end Go.Proofs.Ytmjmdncdmmcmaaa

/- Cuts: Valid, Most, Clone, fits, Orphans, Consistent, of the program and of the reference. Conditions: the pattern is good, the lists lie in memory. -/
namespace Go.Proofs.Ytmjmdncdmmcmaaa
open Go.RowKit
set_option linter.unusedVariables false
set_option linter.unusedSimpArgs false

/-- the first k elements are within the lengths -/
def within (len xs : List Int) (k : Nat) : Bool := (List.range k).all fun i => decide (0 ≤ nth xs i) && decide (nth xs i ≤ nth len i)
/-- is a list a cut -/
def validB (len xs : List Int) : Bool := decide (xs.length = len.length) && within len xs xs.length
theorem within_at {len xs : List Int} {n : Nat} (h : within len xs n = true) {k : Nat} (hk : k < n) : 0 ≤ nth xs k ∧ nth xs k ≤ nth len k := by
  have := List.all_eq_true.1 h k (List.mem_range.2 hk)
  simpa using this
end Go.Proofs.Ytmjmdncdmmcmaaa

/- Cuts: Clone, fits, Orphans, Consistent, Meet, Join, of the program and of the reference. Conditions: the pattern is good, the lists lie in memory. -/
namespace Go.Proofs.Ytmjmdncdmmcmaaa
open Go.RowKit
set_option linter.unusedVariables false
set_option linter.unusedSimpArgs false

/-- has a cut no orphans -/
def consB (arcs : List Arc) (xs : List Int) : Bool := arcs.all fun a => !orph a xs
end Go.Proofs.Ytmjmdncdmmcmaaa

/- Cuts: Meet, Join, Lower, Raise, of the program and of the reference. Conditions: the pattern is good, the cut is one. -/
namespace Go.Proofs.Ytmjmdncdmmcmaaa
open Go.RowKit
set_option linter.unusedVariables false
set_option linter.unusedSimpArgs false

end Go.Proofs.Ytmjmdncdmmcmaaa

/- Lowering and raising cuts as plain functions. No condition. -/
namespace Go.Proofs.Ytmjmdncdmmcmaaa
set_option linter.unusedVariables false

/-- what is missing of a cut to the lengths -/
def lackN : List Int → List Int → Nat
  | m :: len, x :: l => (m - x).toNat + lackN len l
  | _, _ => 0
theorem lackN_set : ∀ {len l : List Int} {k : Nat} (hk : k < l.length) (hk' : k < len.length) {v : Int}, nth l k < v → v ≤ nth len k → lackN len (l.set k v) < lackN len l
  | [], _, k, _, hk', _, _, _ => by simp at hk'
  | _ :: _, [], k, hk, _, _, _, _ => by simp at hk
  | m :: len, x :: l, 0, _, _, v, h, h' => by simp [nth] at h h'; simp [lackN]; omega
  | m :: len, x :: l, k + 1, hk, hk', v, h, h' => by
    have := lackN_set (len := len) (l := l) (k := k) (by simpa using hk) (by simpa using hk') (v := v) (by simpa [nth] using h) (by simpa [nth] using h')
    simp [lackN]; omega
theorem valid_iff {len xs : List Int} : validB len xs = true ↔ xs.length = len.length ∧ ∀ k, k < len.length → 0 ≤ nth xs k ∧ nth xs k ≤ nth len k := by
  constructor
  · intro h
    simp only [validB, Bool.and_eq_true, decide_eq_true_eq] at h
    exact ⟨h.1, fun k hk => within_at h.2 (by omega)⟩
  · rintro ⟨h1, h2⟩
    simp only [validB, Bool.and_eq_true, decide_eq_true_eq]
    refine ⟨h1, List.all_eq_true.2 fun i hi => ?_⟩
    have := h2 i (by have := List.mem_range.1 hi; omega)
    simp [this.1, this.2]
section
variable {p : Pat} {a : Arc} {x : List Int}
end
end Go.Proofs.Ytmjmdncdmmcmaaa

/- Cuts: Lower and Raise, of the program and of the reference. Conditions: the pattern is good, the cut is one. -/
namespace Go.Proofs.Ytmjmdncdmmcmaaa
open Go.RowKit
set_option linter.unusedVariables false
set_option linter.unusedSimpArgs false

end Go.Proofs.Ytmjmdncdmmcmaaa

/- A cut by choices (rollbacknetmake.Codes.Cut). Conditions: the choices and the lengths lie in memory, at most five processes of at most 64 events. -/
namespace Go.Proofs.Ytmjmdncdmmcmaaa
open Go.RowKit
set_option linter.unusedVariables false
end Go.Proofs.Ytmjmdncdmmcmaaa

