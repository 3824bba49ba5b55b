/- depend: exists, Index, intervals, extended, Vector. Conditions: the pattern is good and lies in memory, the numbers are in range. -/
import Derived.Test.YtkflmichekpfbaaCausE
import Derived.Test.YtkflmichekpfbaaLawPat
namespace Go.Proofs.Ytkflmichekpfbaa
open Go.RowKit
set_option linter.unusedVariables false
set_option linter.unusedSimpArgs false
set_option linter.unusedSectionVars false

/-- the index of an extended checkpoint -/
def ckIx (p : Pat) (q : Nat) (n : Int) : Int := if n < (rowOf p.ck q).length then nth (rowOf p.ck q) n.toNat else nth p.len q
/-- an extended checkpoint of a pattern -/
abbrev CkOk (p : Pat) (a : Nat × Int) : Prop := a.1 < p.len.length ∧ 0 ≤ a.2 ∧ a.2 ≤ (rowOf p.ck a.1).length
/-- the intervals of a cut, an element for each possible process -/
def vec5 (p : Pat) (c : List Int) : List Int := (List.range 5).map fun s => if s < p.len.length then (below (rowOf p.ck s) (nth c s) : Int) else 0
/-- the intervals of a cut -/
def vecN (p : Pat) (c : List Int) : List Int := (List.range p.len.length).map fun s => (below (rowOf p.ck s) (nth c s) : Int)
theorem nth_map_range {n : Nat} {f : Nat → Int} {s : Nat} : nth ((List.range n).map f) s = if s < n then f s else 0 := by
  unfold nth
  by_cases h : s < n
  · simp [h]
  · simp [h]
theorem nth_vec5 {p : Pat} {c : List Int} {s : Nat} (hs : s < p.len.length) (hn : p.len.length ≤ 5) : nth (vec5 p c) s = below (rowOf p.ck s) (nth c s) := by
  rw [vec5, nth_map_range, if_pos (by omega), if_pos hs]
theorem nth_vecN {p : Pat} {c : List Int} {s : Nat} (hs : s < p.len.length) : nth (vecN p c) s = below (rowOf p.ck s) (nth c s) := by
  rw [vecN, nth_map_range, if_pos hs]
theorem vecN_length (p : Pat) (c : List Int) : (vecN p c).length = p.len.length := by simp [vecN]
theorem vec5_take {p : Pat} {c : List Int} (hn : p.len.length ≤ 5) : (vec5 p c).take p.len.length = vecN p c := by
  apply List.ext_getElem (by simp [vec5, vecN]; omega)
  intro i h1 h2
  have hi : i < p.len.length := by simpa [vecN] using h2
  simp [vec5, vecN, hi]
theorem Good.rowIn {p : Pat} (h : Good p) {q : Nat} (hq : q < p.len.length) : ∀ x ∈ rowOf p.ck q, 0 ≤ x ∧ x ≤ nth p.len q := fun x hx => by
  have := h.row q hq
  exact ⟨this.nonneg x hx, this.le x hx⟩
theorem ckIx_ok {p : Pat} (h : Good p) {a : Nat × Int} (ha : CkOk p a) : PtOk p (a.1, ckIx p a.1 a.2) := by
  obtain ⟨q, n⟩ := a
  obtain ⟨h1, h2, h3⟩ := ha
  simp only at h1 h2 h3
  refine ⟨h1, ?_⟩
  simp only [ckIx]
  split
  · have hl : n.toNat < (rowOf p.ck q).length := by omega
    rw [nth_eq hl]
    exact h.rowIn h1 _ (List.getElem_mem hl)
  · exact ⟨h.lo q h1, Int.le_refl _⟩
theorem five {zs : List Int} (h : zs.length = 5) : ∃ a b c d e, zs = [a, b, c, d, e] := by
  match zs, h with
  | [a, b, c, d, e], _ => exact ⟨a, b, c, d, e, rfl⟩

set_option maxRecDepth 100000 in
set_option maxHeartbeats 1600000 in
theorem exists_any {S : Nat → Prop} (v : PV) (p : Pat) (q : Nat) (n : Int) (w0 : World) (hp : PatAt S w0 v p) (hg : Good p) (ha : CkOk p (q, n)) :
    Calls Try.prog 71 #[v.val p, .agg #[.int .i64 (q : Int), .int .i64 n]] w0 fun e w' => e = .returned (.bool true) ∧ Ext w0 w' := by
  have hS := St.start w0 NoM
  have hn5 := hg.n5
  obtain ⟨hq, hn0, hnl⟩ := ha
  simp only at hq hn0 hnl
  have hckq : q < p.ck.length := by rw [hg.ckl]; exact hq
  obtain ⟨b2, o2, B, cB, hA2, _, hcb, _, _, hrb⟩ := hp.ck.atS hckq
  rw [← rowOf_eq hckq] at hcb hrb
  have hrl := hg.rowLen (q := q) hq
  have HP := Lib.hid (And.intro hp hg)
  clear hp hg
  obtain ⟨A1, c1, A2, c2, A3, c3⟩ := v
  simp only [PV.val] at *
  subst hA2
  generalize rowOf p.ck q = l at *
  have d1 : decide ((p.len.length : Int) ≤ (q : Int)) = false := by simp; omega
  have d1' : decide (p.len.length ≤ q) = false := by simp; omega
  have d2 : decide (0 ≤ n) = true := by simp; omega
  have d3 : decide (n ≤ (l.length : Int)) = true := by simp; omega
  have hq' : (q : Int) < p.ck.length := by omega
  go_enter Try.func71, Try.ntmps71
  go_wp2_with (first | (go_at_call 80; refine (check_good ⟨A1, c1, some ⟨b2, o2, none⟩, c2, A3, c3⟩ p _ (HP.out.1.ext hS.toExt) HP.out.2).mono ?_; rintro e w ⟨rfl, hx1⟩; replace hS := hS.ext hx1) | (refine oL ?_; (first | refine sL1 hS rfl rfl rfl ?_ | refine sL2 hS rfl rfl rfl ?_ | refine sL3 hS rfl rfl ?_ | refine sL4 hS rfl rfl ?_ | refine sL5 hS rfl rfl ?_ | refine sL6 hS rfl rfl ?_ | refine sL7 hS rfl rfl ?_)) | ((first | (refine oB ?_; first | refine sB1 hS rfl rfl ?_ | refine sB2 hS rfl rfl ?_)); clear hS; first | ((fail_if_success guard_hyp g1); intro g1 w hS) | ((fail_if_success guard_hyp g2); intro g2 w hS) | ((fail_if_success guard_hyp g3); intro g3 w hS) | fail) | fail)
  refine dr_start0 []  hS (by kernel_rfl) rfl ?_; clear hS; intro w hS
  refine dP hS 0 rfl rfl ?_
  (try simp only [Act.put, nA, nB, nC])
  first | refine dL1 hS 1 rfl rfl rfl rfl ?_ | refine dL2 hS 1 rfl rfl rfl rfl ?_ | refine dL3 hS 1 rfl rfl rfl ?_ | refine dL4 hS 1 rfl rfl rfl ?_ | refine dL5 hS 1 rfl rfl rfl ?_ | refine dL6 hS 1 rfl rfl rfl ?_ | refine dL7 hS 1 rfl rfl rfl ?_
  (try simp only [Act.put, nA, nB, nC])
  refine dP hS 2 rfl rfl ?_
  (try simp only [Act.put, nA, nB, nC])
  refine dM hS 3 rfl rfl rfl ?_
  (try simp only [Act.put, nA, nB, nC])
  first | refine dP hS 4 rfl rfl ?_ | refine dQ hS 4 rfl rfl ?_
  (try simp only [Act.put, nA, nB, nC])
  first | refine dL1 hS 5 rfl rfl rfl rfl ?_ | refine dL2 hS 5 rfl rfl rfl rfl ?_ | refine dL3 hS 5 rfl rfl rfl ?_ | refine dL4 hS 5 rfl rfl rfl ?_ | refine dL5 hS 5 rfl rfl rfl ?_ | refine dL6 hS 5 rfl rfl rfl ?_ | refine dL7 hS 5 rfl rfl rfl ?_ | refine dQ hS 5 rfl rfl ?_
  (try simp only [Act.put, nA, nB, nC])
  first | refine dP hS 6 rfl rfl ?_ | refine dQ hS 6 rfl rfl ?_
  (try simp only [Act.put, nA, nB, nC])
  first | refine dL1 hS 7 rfl rfl rfl rfl ?_ | refine dL2 hS 7 rfl rfl rfl rfl ?_ | refine dL3 hS 7 rfl rfl rfl ?_ | refine dL4 hS 7 rfl rfl rfl ?_ | refine dL5 hS 7 rfl rfl rfl ?_ | refine dL6 hS 7 rfl rfl rfl ?_ | refine dL7 hS 7 rfl rfl rfl ?_ | refine dQ hS 7 rfl rfl ?_
  (try simp only [Act.put, nA, nB, nC])
  first | refine dP hS 8 rfl rfl ?_ | refine dQ hS 8 rfl rfl ?_
  (try simp only [Act.put, nA, nB, nC])
  first | refine dL1 hS 9 rfl rfl rfl rfl ?_ | refine dL2 hS 9 rfl rfl rfl rfl ?_ | refine dL3 hS 9 rfl rfl rfl ?_ | refine dL4 hS 9 rfl rfl rfl ?_ | refine dL5 hS 9 rfl rfl rfl ?_ | refine dL6 hS 9 rfl rfl rfl ?_ | refine dL7 hS 9 rfl rfl rfl ?_ | refine dQ hS 9 rfl rfl ?_
  (try simp only [Act.put, nA, nB, nC])
  first | refine dP hS 10 rfl rfl ?_ | refine dQ hS 10 rfl rfl ?_
  (try simp only [Act.put, nA, nB, nC])
  first | refine dL1 hS 11 rfl rfl rfl rfl ?_ | refine dL2 hS 11 rfl rfl rfl rfl ?_ | refine dL3 hS 11 rfl rfl rfl ?_ | refine dL4 hS 11 rfl rfl rfl ?_ | refine dL5 hS 11 rfl rfl rfl ?_ | refine dL6 hS 11 rfl rfl rfl ?_ | refine dL7 hS 11 rfl rfl rfl ?_ | refine dQ hS 11 rfl rfl ?_
  (try simp only [Act.put, nA, nB, nC])
  first | refine dP hS 12 rfl rfl ?_ | refine dQ hS 12 rfl rfl ?_
  (try simp only [Act.put, nA, nB, nC])
  first | refine dP hS 13 rfl rfl ?_ | refine dQ hS 13 rfl rfl ?_
  (try simp only [Act.put, nA, nB, nC])
  refine dP hS 14 rfl rfl ?_
  (try simp only [Act.put, nA, nB, nC])
  refine dA hS 15 rfl rfl rfl ?_
  (try simp only [Act.put, nA, nB, nC])
  refine dr_done (by kernel_rfl) ?_
  go_wp2_with (first | (refine oL ?_; (first | refine sL1 hS rfl rfl rfl ?_ | refine sL2 hS rfl rfl rfl ?_ | refine sL3 hS rfl rfl ?_ | refine sL4 hS rfl rfl ?_ | refine sL5 hS rfl rfl ?_ | refine sL6 hS rfl rfl ?_ | refine sL7 hS rfl rfl ?_)) | ((first | (refine oB ?_; first | refine sB1 hS rfl rfl ?_ | refine sB2 hS rfl rfl ?_)); clear hS; first | ((fail_if_success guard_hyp g1); intro g1 w hS) | ((fail_if_success guard_hyp g2); intro g2 w hS) | ((fail_if_success guard_hyp g3); intro g3 w hS) | fail) | fail)
  go_ret
  exact ⟨rfl, hS.toExt⟩
set_option maxRecDepth 100000 in
set_option maxHeartbeats 1600000 in
theorem dindex_any {S : Nat → Prop} (v : PV) (p : Pat) (q : Nat) (n : Int) (w0 : World) (hp : PatAt S w0 v p) (hg : Good p) (hq : q < p.len.length) (hn0 : 0 ≤ n) :
    Calls Try.prog 38 #[v.val p, .int .i64 (q : Int), .int .i64 n] w0 fun e w' => e = .returned (.int .i64 (ckIx p q n)) ∧ Ext w0 w' := by
  have hS := St.start w0 NoM
  have hn5 := hg.n5
  have hckq : q < p.ck.length := by rw [hg.ckl]; exact hq
  have hck5 : p.ck.length ≤ 5 := by rw [hg.ckl]; exact hn5
  obtain ⟨b2, o2, B, cB, hA2, _, hcb, _, _, hrb⟩ := hp.ck.atS hckq
  rw [← rowOf_eq hckq] at hcb hrb
  obtain ⟨b1, o1, hA1, _, hca⟩ := hp.len.atNS hq
  have hrl := hg.rowLen (q := q) hq
  obtain ⟨A1, c1, A2, c2, A3, c3⟩ := v
  simp only [PV.val] at *
  subst hA2
  subst hA1
  unfold ckIx
  generalize rowOf p.ck q = l at *
  generalize nth p.len q = m at *
  have d0 : decide ((q : Int) < 0) = false := decide_eq_false (by omega)
  have d1 : decide ((p.len.length : Int) ≤ (q : Int)) = false := by simp; omega
  have d1' : decide (p.len.length ≤ q) = false := by simp; omega
  have d2 : decide ((p.ck.length : Int) ≤ (q : Int)) = false := by simp; omega
  have d2' : decide (p.ck.length ≤ q) = false := by simp; omega
  have d3 : decide (n < 0) = false := by simp; omega
  have hq' : (q : Int) < p.ck.length := by omega
  have hq2' : (q : Int) < p.len.length := by omega
  by_cases hn : n < l.length
  · obtain ⟨k, rfl⟩ : ∃ k : Nat, n = k := ⟨n.toNat, by omega⟩
    have hk : k < l.length := by omega
    obtain ⟨b3, o3, rfl, _, hcc⟩ := hrb.atNS hk
    have d4 : decide ((k : Int) < (l.length : Int)) = true := by simp; omega
    have d4' : decide (k < l.length) = true := by simp [hk]
    rw [if_pos hn]
    simp only [Int.toNat_natCast]
    generalize nth l k = x at *
    go_enter Try.func38, Try.ntmps38
    go_wp2_with (first | (refine oL ?_; (first | refine sL1 hS rfl rfl rfl ?_ | refine sL2 hS rfl rfl rfl ?_ | refine sL3 hS rfl rfl ?_ | refine sL4 hS rfl rfl ?_ | refine sL5 hS rfl rfl ?_ | refine sL6 hS rfl rfl ?_ | refine sL7 hS rfl rfl ?_)) | ((first | (refine oB ?_; first | refine sB1 hS rfl rfl ?_ | refine sB2 hS rfl rfl ?_)); clear hS; first | ((fail_if_success guard_hyp g1); intro g1 w hS) | ((fail_if_success guard_hyp g2); intro g2 w hS) | fail) | fail)
    go_ret
    exact ⟨rfl, hS.toExt⟩
  · have d4 : decide (n < (l.length : Int)) = false := by simp; omega
    rw [if_neg hn]
    go_enter Try.func38, Try.ntmps38
    go_wp2_with (first | (refine oL ?_; (first | refine sL1 hS rfl rfl rfl ?_ | refine sL2 hS rfl rfl rfl ?_ | refine sL3 hS rfl rfl ?_ | refine sL4 hS rfl rfl ?_ | refine sL5 hS rfl rfl ?_ | refine sL6 hS rfl rfl ?_ | refine sL7 hS rfl rfl ?_)) | ((first | (refine oB ?_; first | refine sB1 hS rfl rfl ?_ | refine sB2 hS rfl rfl ?_)); clear hS; first | ((fail_if_success guard_hyp g1); intro g1 w hS) | ((fail_if_success guard_hyp g2); intro g2 w hS) | fail) | fail)
    go_ret
    exact ⟨rfl, hS.toExt⟩
end Go.Proofs.Ytkflmichekpfbaa
