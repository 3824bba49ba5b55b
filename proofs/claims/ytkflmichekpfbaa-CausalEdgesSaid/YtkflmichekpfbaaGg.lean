/- depend: exists, Index, intervals, extended, Vector. Conditions: the pattern is good and lies in memory, the numbers are in range. -/
import Derived.Test.YtkflmichekpfbaaGf
import Derived.Test.YtkflmichekpfbaaGe
namespace Go.Proofs.Ytkflmichekpfbaa
open Go.RowKit
set_option linter.unusedVariables false
set_option linter.unusedSimpArgs false
set_option linter.unusedSectionVars false

/-- the index of an extended checkpoint -/
def ckIx (p : Pat) (q : Nat) (n : Int) : Int := if n < (rowOf p.ck q).length then nth (rowOf p.ck q) n.toNat else nth p.len q
/-- an extended checkpoint of a pattern -/
abbrev CkOk (p : Pat) (a : Nat × Int) : Prop := a.1 < p.len.length ∧ 0 ≤ a.2 ∧ a.2 ≤ (rowOf p.ck a.1).length
/-- the intervals of a cut, an element for each possible process -/
def vec5 (p : Pat) (c : List Int) : List Int := (List.range 5).map fun s => if s < p.len.length then (below (rowOf p.ck s) (nth c s) : Int) else 0
/-- the intervals of a cut -/
def vecN (p : Pat) (c : List Int) : List Int := (List.range p.len.length).map fun s => (below (rowOf p.ck s) (nth c s) : Int)
theorem nth_map_range {n : Nat} {f : Nat → Int} {s : Nat} : nth ((List.range n).map f) s = if s < n then f s else 0 := by
  unfold nth
  by_cases h : s < n
  · simp [h]
  · simp [h]
theorem nth_vec5 {p : Pat} {c : List Int} {s : Nat} (hs : s < p.len.length) (hn : p.len.length ≤ 5) : nth (vec5 p c) s = below (rowOf p.ck s) (nth c s) := by
  rw [vec5, nth_map_range, if_pos (by omega), if_pos hs]
theorem nth_vecN {p : Pat} {c : List Int} {s : Nat} (hs : s < p.len.length) : nth (vecN p c) s = below (rowOf p.ck s) (nth c s) := by
  rw [vecN, nth_map_range, if_pos hs]
theorem vecN_length (p : Pat) (c : List Int) : (vecN p c).length = p.len.length := by simp [vecN]
theorem vec5_take {p : Pat} {c : List Int} (hn : p.len.length ≤ 5) : (vec5 p c).take p.len.length = vecN p c := by
  apply List.ext_getElem (by simp [vec5, vecN]; omega)
  intro i h1 h2
  have hi : i < p.len.length := by simpa [vecN] using h2
  simp [vec5, vecN, hi]
theorem Good.rowIn {p : Pat} (h : Good p) {q : Nat} (hq : q < p.len.length) : ∀ x ∈ rowOf p.ck q, 0 ≤ x ∧ x ≤ nth p.len q := fun x hx => by
  have := h.row q hq
  exact ⟨this.nonneg x hx, this.le x hx⟩
theorem ckIx_ok {p : Pat} (h : Good p) {a : Nat × Int} (ha : CkOk p a) : PtOk p (a.1, ckIx p a.1 a.2) := by
  obtain ⟨q, n⟩ := a
  obtain ⟨h1, h2, h3⟩ := ha
  simp only at h1 h2 h3
  refine ⟨h1, ?_⟩
  simp only [ckIx]
  split
  · have hl : n.toNat < (rowOf p.ck q).length := by omega
    rw [nth_eq hl]
    exact h.rowIn h1 _ (List.getElem_mem hl)
  · exact ⟨h.lo q h1, Int.le_refl _⟩
theorem five {zs : List Int} (h : zs.length = 5) : ∃ a b c d e, zs = [a, b, c, d, e] := by
  match zs, h with
  | [a, b, c, d, e], _ => exact ⟨a, b, c, d, e, rfl⟩

set_option maxRecDepth 100000 in
set_option maxHeartbeats 1600000 in
theorem exists_any {S : Nat → Prop} (v : PV) (p : Pat) (q : Nat) (n : Int) (w0 : World) (hp : PatAt S w0 v p) (hg : Good p) (ha : CkOk p (q, n)) :
    Calls Try.prog 71 #[v.val p, .agg #[.int .i64 (q : Int), .int .i64 n]] w0 fun e w' => e = .returned (.bool true) ∧ Ext w0 w' := by
  have hS := St.start w0 NoM
  have hn5 := hg.n5
  obtain ⟨hq, hn0, hnl⟩ := ha
  simp only at hq hn0 hnl
  have hckq : q < p.ck.length := by rw [hg.ckl]; exact hq
  obtain ⟨b2, o2, B, cB, hA2, _, hcb, _, _, hrb⟩ := hp.ck.atS hckq
  rw [← rowOf_eq hckq] at hcb hrb
  have hrl := hg.rowLen (q := q) hq
  have HP := Lib.hid (And.intro hp hg)
  clear hp hg
  obtain ⟨A1, c1, A2, c2, A3, c3⟩ := v
  simp only [PV.val] at *
  subst hA2
  generalize rowOf p.ck q = l at *
  have d1 : decide ((p.len.length : Int) ≤ (q : Int)) = false := by simp; omega
  have d1' : decide (p.len.length ≤ q) = false := by simp; omega
  have d2 : decide (0 ≤ n) = true := by simp; omega
  have d3 : decide (n ≤ (l.length : Int)) = true := by simp; omega
  have hq' : (q : Int) < p.ck.length := by omega
  go_enter Try.func71, Try.ntmps71
  go_wp2_with (first | (go_at_call 80; refine (check_good ⟨A1, c1, some ⟨b2, o2, none⟩, c2, A3, c3⟩ p _ (HP.out.1.ext hS.toExt) HP.out.2).mono ?_; rintro e w ⟨rfl, hx1⟩; replace hS := hS.ext hx1) | (refine oL ?_; (first | refine sL1 hS rfl rfl rfl ?_ | refine sL2 hS rfl rfl rfl ?_ | refine sL3 hS rfl rfl ?_ | refine sL4 hS rfl rfl ?_ | refine sL5 hS rfl rfl ?_ | refine sL6 hS rfl rfl ?_ | refine sL7 hS rfl rfl ?_)) | ((first | (refine oB ?_; first | refine sB1 hS rfl rfl ?_ | refine sB2 hS rfl rfl ?_)); clear hS; first | ((fail_if_success guard_hyp g1); intro g1 w hS) | ((fail_if_success guard_hyp g2); intro g2 w hS) | ((fail_if_success guard_hyp g3); intro g3 w hS) | fail) | fail)
  refine dr_start0 []  hS (by kernel_rfl) rfl ?_; clear hS; intro w hS
  refine dP hS 0 rfl rfl ?_
  (try simp only [Act.put, nA, nB, nC])
  first | refine dL1 hS 1 rfl rfl rfl rfl ?_ | refine dL2 hS 1 rfl rfl rfl rfl ?_ | refine dL3 hS 1 rfl rfl rfl ?_ | refine dL4 hS 1 rfl rfl rfl ?_ | refine dL5 hS 1 rfl rfl rfl ?_ | refine dL6 hS 1 rfl rfl rfl ?_ | refine dL7 hS 1 rfl rfl rfl ?_
  (try simp only [Act.put, nA, nB, nC])
  refine dP hS 2 rfl rfl ?_
  (try simp only [Act.put, nA, nB, nC])
  refine dM hS 3 rfl rfl rfl ?_
  (try simp only [Act.put, nA, nB, nC])
  first | refine dP hS 4 rfl rfl ?_ | refine dQ hS 4 rfl rfl ?_
  (try simp only [Act.put, nA, nB, nC])
  first | refine dL1 hS 5 rfl rfl rfl rfl ?_ | refine dL2 hS 5 rfl rfl rfl rfl ?_ | refine dL3 hS 5 rfl rfl rfl ?_ | refine dL4 hS 5 rfl rfl rfl ?_ | refine dL5 hS 5 rfl rfl rfl ?_ | refine dL6 hS 5 rfl rfl rfl ?_ | refine dL7 hS 5 rfl rfl rfl ?_ | refine dQ hS 5 rfl rfl ?_
  (try simp only [Act.put, nA, nB, nC])
  first | refine dP hS 6 rfl rfl ?_ | refine dQ hS 6 rfl rfl ?_
  (try simp only [Act.put, nA, nB, nC])
  first | refine dL1 hS 7 rfl rfl rfl rfl ?_ | refine dL2 hS 7 rfl rfl rfl rfl ?_ | refine dL3 hS 7 rfl rfl rfl ?_ | refine dL4 hS 7 rfl rfl rfl ?_ | refine dL5 hS 7 rfl rfl rfl ?_ | refine dL6 hS 7 rfl rfl rfl ?_ | refine dL7 hS 7 rfl rfl rfl ?_ | refine dQ hS 7 rfl rfl ?_
  (try simp only [Act.put, nA, nB, nC])
  first | refine dP hS 8 rfl rfl ?_ | refine dQ hS 8 rfl rfl ?_
  (try simp only [Act.put, nA, nB, nC])
  first | refine dL1 hS 9 rfl rfl rfl rfl ?_ | refine dL2 hS 9 rfl rfl rfl rfl ?_ | refine dL3 hS 9 rfl rfl rfl ?_ | refine dL4 hS 9 rfl rfl rfl ?_ | refine dL5 hS 9 rfl rfl rfl ?_ | refine dL6 hS 9 rfl rfl rfl ?_ | refine dL7 hS 9 rfl rfl rfl ?_ | refine dQ hS 9 rfl rfl ?_
  (try simp only [Act.put, nA, nB, nC])
  first | refine dP hS 10 rfl rfl ?_ | refine dQ hS 10 rfl rfl ?_
  (try simp only [Act.put, nA, nB, nC])
  first | refine dL1 hS 11 rfl rfl rfl rfl ?_ | refine dL2 hS 11 rfl rfl rfl rfl ?_ | refine dL3 hS 11 rfl rfl rfl ?_ | refine dL4 hS 11 rfl rfl rfl ?_ | refine dL5 hS 11 rfl rfl rfl ?_ | refine dL6 hS 11 rfl rfl rfl ?_ | refine dL7 hS 11 rfl rfl rfl ?_ | refine dQ hS 11 rfl rfl ?_
  (try simp only [Act.put, nA, nB, nC])
  first | refine dP hS 12 rfl rfl ?_ | refine dQ hS 12 rfl rfl ?_
  (try simp only [Act.put, nA, nB, nC])
  first | refine dP hS 13 rfl rfl ?_ | refine dQ hS 13 rfl rfl ?_
  (try simp only [Act.put, nA, nB, nC])
  refine dP hS 14 rfl rfl ?_
  (try simp only [Act.put, nA, nB, nC])
  refine dA hS 15 rfl rfl rfl ?_
  (try simp only [Act.put, nA, nB, nC])
  refine dr_done (by kernel_rfl) ?_
  go_wp2_with (first | (refine oL ?_; (first | refine sL1 hS rfl rfl rfl ?_ | refine sL2 hS rfl rfl rfl ?_ | refine sL3 hS rfl rfl ?_ | refine sL4 hS rfl rfl ?_ | refine sL5 hS rfl rfl ?_ | refine sL6 hS rfl rfl ?_ | refine sL7 hS rfl rfl ?_)) | ((first | (refine oB ?_; first | refine sB1 hS rfl rfl ?_ | refine sB2 hS rfl rfl ?_)); clear hS; first | ((fail_if_success guard_hyp g1); intro g1 w hS) | ((fail_if_success guard_hyp g2); intro g2 w hS) | ((fail_if_success guard_hyp g3); intro g3 w hS) | fail) | fail)
  go_ret
  exact ⟨rfl, hS.toExt⟩
set_option maxRecDepth 100000 in
set_option maxHeartbeats 1600000 in
theorem dindex_any {S : Nat → Prop} (v : PV) (p : Pat) (q : Nat) (n : Int) (w0 : World) (hp : PatAt S w0 v p) (hg : Good p) (hq : q < p.len.length) (hn0 : 0 ≤ n) :
    Calls Try.prog 38 #[v.val p, .int .i64 (q : Int), .int .i64 n] w0 fun e w' => e = .returned (.int .i64 (ckIx p q n)) ∧ Ext w0 w' := by
  have hS := St.start w0 NoM
  have hn5 := hg.n5
  have hckq : q < p.ck.length := by rw [hg.ckl]; exact hq
  have hck5 : p.ck.length ≤ 5 := by rw [hg.ckl]; exact hn5
  obtain ⟨b2, o2, B, cB, hA2, _, hcb, _, _, hrb⟩ := hp.ck.atS hckq
  rw [← rowOf_eq hckq] at hcb hrb
  obtain ⟨b1, o1, hA1, _, hca⟩ := hp.len.atNS hq
  have hrl := hg.rowLen (q := q) hq
  obtain ⟨A1, c1, A2, c2, A3, c3⟩ := v
  simp only [PV.val] at *
  subst hA2
  subst hA1
  unfold ckIx
  generalize rowOf p.ck q = l at *
  generalize nth p.len q = m at *
  have d0 : decide ((q : Int) < 0) = false := decide_eq_false (by omega)
  have d1 : decide ((p.len.length : Int) ≤ (q : Int)) = false := by simp; omega
  have d1' : decide (p.len.length ≤ q) = false := by simp; omega
  have d2 : decide ((p.ck.length : Int) ≤ (q : Int)) = false := by simp; omega
  have d2' : decide (p.ck.length ≤ q) = false := by simp; omega
  have d3 : decide (n < 0) = false := by simp; omega
  have hq' : (q : Int) < p.ck.length := by omega
  have hq2' : (q : Int) < p.len.length := by omega
  by_cases hn : n < l.length
  · obtain ⟨k, rfl⟩ : ∃ k : Nat, n = k := ⟨n.toNat, by omega⟩
    have hk : k < l.length := by omega
    obtain ⟨b3, o3, rfl, _, hcc⟩ := hrb.atNS hk
    have d4 : decide ((k : Int) < (l.length : Int)) = true := by simp; omega
    have d4' : decide (k < l.length) = true := by simp [hk]
    rw [if_pos hn]
    simp only [Int.toNat_natCast]
    generalize nth l k = x at *
    go_enter Try.func38, Try.ntmps38
    go_wp2_with (first | (refine oL ?_; (first | refine sL1 hS rfl rfl rfl ?_ | refine sL2 hS rfl rfl rfl ?_ | refine sL3 hS rfl rfl ?_ | refine sL4 hS rfl rfl ?_ | refine sL5 hS rfl rfl ?_ | refine sL6 hS rfl rfl ?_ | refine sL7 hS rfl rfl ?_)) | ((first | (refine oB ?_; first | refine sB1 hS rfl rfl ?_ | refine sB2 hS rfl rfl ?_)); clear hS; first | ((fail_if_success guard_hyp g1); intro g1 w hS) | ((fail_if_success guard_hyp g2); intro g2 w hS) | fail) | fail)
    go_ret
    exact ⟨rfl, hS.toExt⟩
  · have d4 : decide (n < (l.length : Int)) = false := by simp; omega
    rw [if_neg hn]
    go_enter Try.func38, Try.ntmps38
    go_wp2_with (first | (refine oL ?_; (first | refine sL1 hS rfl rfl rfl ?_ | refine sL2 hS rfl rfl rfl ?_ | refine sL3 hS rfl rfl ?_ | refine sL4 hS rfl rfl ?_ | refine sL5 hS rfl rfl ?_ | refine sL6 hS rfl rfl ?_ | refine sL7 hS rfl rfl ?_)) | ((first | (refine oB ?_; first | refine sB1 hS rfl rfl ?_ | refine sB2 hS rfl rfl ?_)); clear hS; first | ((fail_if_success guard_hyp g1); intro g1 w hS) | ((fail_if_success guard_hyp g2); intro g2 w hS) | fail) | fail)
    go_ret
    exact ⟨rfl, hS.toExt⟩
end Go.Proofs.Ytkflmichekpfbaa

/- depend: intervals, extended, Vector. Conditions: the pattern is good and lies in memory, the numbers are in range. -/
namespace Go.Proofs.Ytkflmichekpfbaa
open Go.RowKit
set_option linter.unusedVariables false
set_option linter.unusedSimpArgs false
set_option linter.unusedSectionVars false

theorem vec5_at {p : Pat} {c zs : List Int} (hn : p.len.length ≤ 5) (hl : zs.length = 5) (h : ∀ s, nth zs s = if s < p.len.length then (below (rowOf p.ck s) (nth c s) : Int) else 0) : zs = vec5 p c := by
  refine le_antisymm (n := 5) hl (by simp [vec5]) (fun k hk => ?_) (fun k hk => ?_) <;>
  · rw [h, vec5, nth_map_range, if_pos hk]; exact Int.le_refl _
theorem clock_n {S : Nat → Prop} {A1 A2 A3 : Option Addr} {c1 c2 c3 n1 n2 n3 : Nat} {p : Pat} {q : Nat} {z k : Int} {w : World} (e1 : p.len.length = n1) (e2 : p.ck.length = n2) (e3 : p.arcs.length = n3) (hz : z = q) (hp : PatAt S w ⟨A1, c1, A2, c2, A3, c3⟩ p) (hg : Good p) (hpt : PtOk p (q, k)) :
    Calls Try.prog 20 #[.agg #[.slice A1 n1 c1, .slice A2 n2 c2, .slice A3 n3 c3], .int .i64 z, .int .i64 k] w fun e w' => ∃ (L : Option Addr) (cap : Nat) (c : List Int), e = .returned (.slice L n1 cap) ∧ IsClk p q k c ∧ c.length = n1 ∧ RI (fun b => w.heap.size ≤ b ∧ b < w'.heap.size) w' L c ∧ capOk n1 cap ∧ Ext w w' := by
  subst e1 e2 e3 hz
  refine (clock_any ⟨A1, c1, A2, c2, A3, c3⟩ p q k w hp hg hpt).mono ?_
  rintro e w' ⟨L, cap, c, h1, h2, h3, h4, h5⟩
  exact ⟨L, cap, c, h1, h2, h2.len, h3.into (fun b hb hl => ⟨⟨hb, hl⟩, rfl⟩), h4, h5⟩
theorem interval_nn {S : Nat → Prop} {A1 A2 A3 : Option Addr} {c1 c2 c3 n1 n2 n3 : Nat} {w : World} {ck : List (List Int)} {q : Nat} {z x : Int} (hn : ck.length = n2) (hz : z = q) (h2 : RR S w A2 ck) (hq : q < n2) (hck : n2 ≤ 5) (hl : (rowOf ck q).length ≤ 100) :
    Calls Try.prog 86 #[.agg #[.slice A1 n1 c1, .slice A2 n2 c2, .slice A3 n3 c3], .int .i64 z, .int .i64 x] w fun e w' => e = .returned (.int .i64 (below (rowOf ck q) x : Int)) ∧ Ext w w' := by
  subst hn hz
  rw [rowOf_eq hq] at *
  exact interval_any A1 A2 A3 c1 c2 c3 n1 n3 ck q x w h2 hq hck hl
set_option maxRecDepth 100000 in
set_option maxHeartbeats 3200000 in
theorem intervals_any {S : Nat → Prop} (v : PV) (p : Pat) (q : Nat) (k : Int) (w0 : World) (hp : PatAt S w0 v p) (hg : Good p) (hpt : PtOk p (q, k)) :
    Calls Try.prog 72 #[v.val p, .int .i64 (q : Int), .int .i64 k] w0 fun e w' => ∃ c, IsClk p q k c ∧ e = .returned (.agg (ints (vec5 p c)).toArray) ∧ Ext w0 w' := by
  have hS := St.start w0 NoM
  have hn5 := hg.n5
  have hck := hg.ckl
  have hrow : ∀ s, s < p.len.length → (rowOf p.ck s).length ≤ 100 := fun s hs => by have := hg.rowLen hs; omega
  have HP := Lib.hid (And.intro hp (And.intro hg (And.intro hpt (And.intro hck hrow))))
  have hck5 : p.ck.length ≤ 5 := by rw [hck]; exact hn5
  clear hp hg hpt hck hrow
  obtain ⟨A1, c1, A2, c2, A3, c3⟩ := v
  simp only [PV.val] at *
  go_enter Try.func72, Try.ntmps72
  go_wp2_with (first | (go_at_call 20; refine (clock_n rfl rfl rfl rfl (HP.out.1.ext hS.toExt) HP.out.2.1 HP.out.2.2.1).mono ?_; rintro e w1 ⟨L, cap, c, rfl, hclk, hcl, hri, hcap, hx1⟩; replace hS := hS.frozNew hx1; have HC := Lib.hid hclk; have HCL := Lib.hid hcl; clear hclk hcl) | (refine oL ?_; (first | refine sL1 hS rfl rfl rfl ?_ | refine sL2 hS rfl rfl rfl ?_ | refine sL3 hS rfl rfl ?_ | refine sL4 hS rfl rfl ?_ | refine sL5 hS rfl rfl ?_ | refine sL6 hS rfl rfl ?_ | refine sL7 hS rfl rfl ?_)) | (refine oS ?_; ((first | refine sS1 hS rfl rfl rfl ?_ | refine sS2 hS rfl rfl rfl ?_ | refine sS3 hS rfl rfl rfl ?_ | refine sS4 hS rfl rfl rfl ?_ | refine sS5 hS rfl rfl rfl ?_); clear hS; intro w hS)) | ((first | (refine oB ?_; first | refine sB1 hS rfl rfl ?_ | refine sB2 hS rfl rfl ?_) | refine sN1 hS rfl ?_); clear hS; first | ((fail_if_success guard_hyp g1); intro g1 w hS) | ((fail_if_success guard_hyp g2); intro g2 w hS) | ((fail_if_success guard_hyp g3); intro g3 w hS) | ((fail_if_success guard_hyp g4); intro g4 w hS) | fail) | fail)
  have hS : St w0 NoM [froz (fun k => w.heap.size ≤ k ∧ k < w1.heap.size) w1, blk g3 (ints [0, 0, 0, 0, 0]) 81, blk g2 [.int .i64 0, .int .i64 0, .int .i64 0, .int .i64 0, .int .i64 0] 81, blk g1 [.slice A1 p.len.length c1, .slice A2 p.ck.length c2, .slice A3 p.arcs.length c3] 28] w1 := hS
  go_loopw [15] (fun s15 wr => ∃ (j : Nat) (zs : List Int), j ≤ p.len.length ∧ zs.length = 5 ∧ Hid (∀ s, nth zs s = if s < j then (below (rowOf p.ck s) (nth c s) : Int) else 0) ∧ s15 = .int .i64 j ∧ St w0 NoM [froz (fun k => w.heap.size ≤ k ∧ k < w1.heap.size) w1, blk g3 (ints zs) 81, blk g2 [.int .i64 0, .int .i64 0, .int .i64 0, .int .i64 0, .int .i64 0] 81, blk g1 [.slice A1 p.len.length c1, .slice A2 p.ck.length c2, .slice A3 p.arcs.length c3] 28] wr) (fun s15 _ => p.len.length - (intOf s15).toNat)
  case atStart =>
    refine ⟨0, [0, 0, 0, 0, 0], by omega, rfl, Lib.hid (fun s => ?_), rfl, hS⟩
    rw [if_neg (by omega)]
    match s with
    | 0 | 1 | 2 | 3 | 4 => rfl
    | s + 5 => simp [nth]
  case round =>
    obtain ⟨j, zs, hj, hzl, HZ, rfl, hS⟩ := hrel
    by_cases hlt : j < p.len.length
    · obtain ⟨b2, o2, rfl, hfc⟩ := hri.fc (k := j) (by rw [HCL.out]; exact hlt)
      have hj5 : (j : Int) < 5 := by omega
      have hjz : j < zs.length := by omega
      generalize hm : nth c j = m at *
      go_wp2_with (first | (refine oS ?_; refine sS1 hS rfl rfl rfl ?_ rfl (by simp; omega); clear hS; intro w hS) | (go_at_call 86; refine (interval_nn (q := j) rfl rfl (HP.out.1.ck.into (Into.ofExt hS.toExt)) (by rw [HP.out.2.2.2.1]; exact hlt) hck5 (HP.out.2.2.2.2 j hlt)).mono ?_; rintro e w ⟨rfl, hx1⟩; replace hS := hS.ext hx1; have hbe := below_le (rowOf p.ck j) m; have HB := Lib.hid (Eq.refl (below (rowOf p.ck j) m)); generalize hbl : below (rowOf p.ck j) m = bl at *) | (refine oL ?_; (first | refine sL1 hS rfl rfl rfl ?_ | refine sL2 hS rfl rfl rfl ?_ | refine sL3 hS rfl rfl ?_ | refine sL4 hS rfl rfl ?_ | refine sL5 hS rfl rfl ?_ | refine sL6 hS rfl rfl ?_ | refine sL7 hS rfl rfl ?_)) | (refine oS ?_; ((first | refine sS1 hS rfl rfl rfl ?_ | refine sS2 hS rfl rfl rfl ?_ | refine sS3 hS rfl rfl rfl ?_ | refine sS4 hS rfl rfl rfl ?_ | refine sS5 hS rfl rfl rfl ?_); clear hS; intro w hS)) | ((first | (refine oB ?_; first | refine sB1 hS rfl rfl ?_ | refine sB2 hS rfl rfl ?_) | refine sN1 hS rfl ?_); clear hS; first | ((fail_if_success guard_hyp g1); intro g1 w hS) | ((fail_if_success guard_hyp g2); intro g2 w hS) | ((fail_if_success guard_hyp g3); intro g3 w hS) | ((fail_if_success guard_hyp g4); intro g4 w hS) | fail) | fail)
      go_roundw
      case measure => simp [intOf]; omega
      refine ⟨j + 1, zs.set j (bl : Int), by omega, by simp [hzl], Lib.hid (fun s => ?_), by go_num, ?_⟩
      · rw [nth_set hjz, HZ.out]
        by_cases h1 : j = s
        · subst h1
          rw [if_pos rfl, if_pos (by omega), hm, hbl]
        · rw [if_neg h1]
          by_cases h2 : s < j
          · rw [if_pos h2, if_pos (by omega)]
          · rw [if_neg h2, if_neg (by omega)]
      · have e : (ints zs).set j (.int .i64 (bl : Int)) = ints (zs.set j (bl : Int)) := by simp [ints, List.map_set]
        rw [← e]; exact hS
    · have hje : j = p.len.length := by omega
      subst hje
      have hv := vec5_at hn5 hzl HZ.out
      have HV := Lib.hid hv
      clear hv
      obtain ⟨x0, x1, x2, x3, x4, rfl⟩ := five hzl
      simp only [ints, List.map_cons, List.map_nil] at hS
      clear HZ hzl
      go_wp2_with (first | (refine oL ?_; (first | refine sL1 hS rfl rfl rfl ?_ | refine sL2 hS rfl rfl rfl ?_ | refine sL3 hS rfl rfl ?_ | refine sL4 hS rfl rfl ?_ | refine sL5 hS rfl rfl ?_ | refine sL6 hS rfl rfl ?_ | refine sL7 hS rfl rfl ?_)) | (refine oS ?_; ((first | refine sS1 hS rfl rfl rfl ?_ | refine sS2 hS rfl rfl rfl ?_ | refine sS3 hS rfl rfl rfl ?_ | refine sS4 hS rfl rfl rfl ?_ | refine sS5 hS rfl rfl rfl ?_); clear hS; intro w hS)) | ((first | (refine oB ?_; first | refine sB1 hS rfl rfl ?_ | refine sB2 hS rfl rfl ?_) | refine sN1 hS rfl ?_); clear hS; first | ((fail_if_success guard_hyp g1); intro g1 w hS) | ((fail_if_success guard_hyp g2); intro g2 w hS) | ((fail_if_success guard_hyp g3); intro g3 w hS) | ((fail_if_success guard_hyp g4); intro g4 w hS) | fail) | fail)
      refine st_retC hS rfl rfl rfl rfl ?_
      refine ⟨c, HC.out, ?_, hS.toExt⟩
      rw [← HV.out]; rfl
end Go.Proofs.Ytkflmichekpfbaa

/- depend: extended, Vector, Ckpt, Depends. Conditions: the pattern is good and lies in memory, the numbers are in range. -/
namespace Go.Proofs.Ytkflmichekpfbaa
open Go.RowKit
set_option linter.unusedVariables false
set_option linter.unusedSimpArgs false
set_option linter.unusedSectionVars false

section
variable {S : Nat → Prop} {A1 A2 A3 : Option Addr} {c1 c2 c3 n1 n2 n3 : Nat} {p : Pat} {q : Nat} {z k : Int} {w : World}
theorem exists_n (e1 : p.len.length = n1) (e2 : p.ck.length = n2) (e3 : p.arcs.length = n3) (hz : z = q) (hp : PatAt S w ⟨A1, c1, A2, c2, A3, c3⟩ p) (hg : Good p) (ha : CkOk p (q, k)) :
    Calls Try.prog 71 #[.agg #[.slice A1 n1 c1, .slice A2 n2 c2, .slice A3 n3 c3], .agg #[.int .i64 z, .int .i64 k]] w fun e w' => e = .returned (.bool true) ∧ Ext w w' := by
  subst e1 e2 e3 hz; exact exists_any ⟨A1, c1, A2, c2, A3, c3⟩ p q k w hp hg ha
theorem dindex_n (e1 : p.len.length = n1) (e2 : p.ck.length = n2) (e3 : p.arcs.length = n3) (hz : z = q) (hp : PatAt S w ⟨A1, c1, A2, c2, A3, c3⟩ p) (hg : Good p) (hq : q < p.len.length) (hk : 0 ≤ k) :
    Calls Try.prog 38 #[.agg #[.slice A1 n1 c1, .slice A2 n2 c2, .slice A3 n3 c3], .int .i64 z, .int .i64 k] w fun e w' => e = .returned (.int .i64 (ckIx p q k)) ∧ Ext w w' := by
  subst e1 e2 e3 hz; exact dindex_any ⟨A1, c1, A2, c2, A3, c3⟩ p q k w hp hg hq hk
theorem clone_nn {A : Option Addr} {c n : Nat} {xs : List Int} (hn : xs.length = n) (hx : RI S w A xs) (hl : n ≤ 1000000) : Calls Try.prog 73 #[.slice A n c] w (RetRow w 3 1 n (ints xs)) := by
  subst hn; exact clone_any A c xs w hx hl
theorem intervals_n (e1 : p.len.length = n1) (e2 : p.ck.length = n2) (e3 : p.arcs.length = n3) (hz : z = q) (hp : PatAt S w ⟨A1, c1, A2, c2, A3, c3⟩ p) (hg : Good p) (hpt : PtOk p (q, k)) :
    Calls Try.prog 72 #[.agg #[.slice A1 n1 c1, .slice A2 n2 c2, .slice A3 n3 c3], .int .i64 z, .int .i64 k] w fun e w' => ∃ c x0 x1 x2 x3 x4, Hid (IsClk p q k c ∧ [x0, x1, x2, x3, x4] = vec5 p c) ∧ e = .returned (.agg #[.int .i64 x0, .int .i64 x1, .int .i64 x2, .int .i64 x3, .int .i64 x4]) ∧ Ext w w' := by
  subst e1 e2 e3 hz
  refine (intervals_any ⟨A1, c1, A2, c2, A3, c3⟩ p q k w hp hg hpt).mono ?_
  rintro e w' ⟨c, h1, h2, h3⟩
  obtain ⟨x0, x1, x2, x3, x4, h5⟩ := five (zs := vec5 p c) (by simp [vec5])
  refine ⟨c, x0, x1, x2, x3, x4, Lib.hid ⟨h1, h5.symm⟩, ?_, h3⟩
  rw [h2, h5]; rfl
end
set_option maxRecDepth 100000 in
set_option maxHeartbeats 3200000 in
theorem extended_any {S : Nat → Prop} (v : PV) (p : Pat) (q : Nat) (n : Int) (w0 : World) (hp : PatAt S w0 v p) (hg : Good p) (ha : CkOk p (q, n)) :
    Calls Try.prog 79 #[v.val p, .agg #[.int .i64 (q : Int), .int .i64 n]] w0 fun e w' => ∃ c x0 x1 x2 x3 x4, Hid (IsClk p q (ckIx p q n) c ∧ [x0, x1, x2, x3, x4] = vec5 p c) ∧ e = .returned (.agg #[.int .i64 x0, .int .i64 x1, .int .i64 x2, .int .i64 x3, .int .i64 x4]) ∧ Ext w0 w' := by
  have hS := St.start w0 NoM
  have HP := Lib.hid (And.intro hp (And.intro hg (And.intro ha (ckIx_ok hg ha))))
  clear hp hg ha
  obtain ⟨A1, c1, A2, c2, A3, c3⟩ := v
  simp only [PV.val] at *
  go_enter Try.func79, Try.ntmps79
  go_wp2_with (first | ((first | (refine oB ?_; first | refine sB1 hS rfl rfl ?_ | refine sB2 hS rfl rfl ?_) | refine sN1 hS rfl ?_); clear hS; first | ((fail_if_success guard_hyp g1); intro g1 w hS) | ((fail_if_success guard_hyp g2); intro g2 w hS) | ((fail_if_success guard_hyp g3); intro g3 w hS) | ((fail_if_success guard_hyp g4); intro g4 w hS) | fail) | fail)
  refine dr_start1 [10] 0 hS (by kernel_rfl) rfl ?_; clear hS; intro w hS
  first | refine dL1 hS 0 rfl rfl rfl rfl ?_ | refine dL2 hS 0 rfl rfl rfl rfl ?_ | refine dL3 hS 0 rfl rfl rfl ?_ | refine dL4 hS 0 rfl rfl rfl ?_ | refine dL5 hS 0 rfl rfl rfl ?_ | refine dL6 hS 0 rfl rfl rfl ?_ | refine dL7 hS 0 rfl rfl rfl ?_
  (try simp only [Act.put, nA, nB, nC])
  refine dP hS 1 rfl rfl ?_
  (try simp only [Act.put, nA, nB, nC])
  first | refine dL1 hS 2 rfl rfl rfl rfl ?_ | refine dL2 hS 2 rfl rfl rfl rfl ?_ | refine dL3 hS 2 rfl rfl rfl ?_ | refine dL4 hS 2 rfl rfl rfl ?_ | refine dL5 hS 2 rfl rfl rfl ?_ | refine dL6 hS 2 rfl rfl rfl ?_ | refine dL7 hS 2 rfl rfl rfl ?_
  (try simp only [Act.put, nA, nB, nC])
  first | refine dL1 hS 3 rfl rfl rfl rfl ?_ | refine dL2 hS 3 rfl rfl rfl rfl ?_ | refine dL3 hS 3 rfl rfl rfl ?_ | refine dL4 hS 3 rfl rfl rfl ?_ | refine dL5 hS 3 rfl rfl rfl ?_ | refine dL6 hS 3 rfl rfl rfl ?_ | refine dL7 hS 3 rfl rfl rfl ?_
  (try simp only [Act.put, nA, nB, nC])
  refine dP hS 4 rfl rfl ?_
  (try simp only [Act.put, nA, nB, nC])
  first | refine dL1 hS 5 rfl rfl rfl rfl ?_ | refine dL2 hS 5 rfl rfl rfl rfl ?_ | refine dL3 hS 5 rfl rfl rfl ?_ | refine dL4 hS 5 rfl rfl rfl ?_ | refine dL5 hS 5 rfl rfl rfl ?_ | refine dL6 hS 5 rfl rfl rfl ?_ | refine dL7 hS 5 rfl rfl rfl ?_
  (try simp only [Act.put, nA, nB, nC])
  refine dP hS 6 rfl rfl ?_
  (try simp only [Act.put, nA, nB, nC])
  first | refine dL1 hS 7 rfl rfl rfl rfl ?_ | refine dL2 hS 7 rfl rfl rfl rfl ?_ | refine dL3 hS 7 rfl rfl rfl ?_ | refine dL4 hS 7 rfl rfl rfl ?_ | refine dL5 hS 7 rfl rfl rfl ?_ | refine dL6 hS 7 rfl rfl rfl ?_ | refine dL7 hS 7 rfl rfl rfl ?_
  (try simp only [Act.put, nA, nB, nC])
  refine dr_one 8 (by kernel_rfl) rfl ?_
  (refine st_call rfl (by kernel_rfl) rfl ?_; go_at_call 38; refine (dindex_n rfl rfl rfl rfl (HP.out.1.ext hS.toExt) HP.out.2.1 HP.out.2.2.1.1 HP.out.2.2.1.2.1).mono ?_; rintro e w ⟨rfl, hx1⟩; replace hS := hS.ext hx1)
  (try simp only [Act.put, nA, nB, nC])
  refine dr_end hS ?_
  refine dr_one 9 (by kernel_rfl) rfl ?_
  (refine st_call rfl (by kernel_rfl) rfl ?_; go_at_call 72; refine (intervals_n rfl rfl rfl rfl (HP.out.1.ext hS.toExt) HP.out.2.1 HP.out.2.2.2).mono ?_; rintro e w ⟨c, x0, x1, x2, x3, x4, HC, rfl, hx1⟩; replace hS := hS.ext hx1)
  (try simp only [Act.put, nA, nB, nC])
  refine dr_end hS ?_
  refine dr_one 10 (by kernel_rfl) rfl ?_
  ((first | refine sS1 hS rfl rfl rfl ?_ | refine sS2 hS rfl rfl rfl ?_ | refine sS3 hS rfl rfl rfl ?_ | refine sS4 hS rfl rfl rfl ?_ | refine sS5 hS rfl rfl rfl ?_); clear hS; intro w hS)
  (try simp only [Act.put, nA, nB, nC])
  refine dr_late (by kernel_rfl) ?_
  refine dr_done (by kernel_rfl) ?_
  go_wp2_with (first | ((first | (refine oB ?_; first | refine sB1 hS rfl rfl ?_ | refine sB2 hS rfl rfl ?_) | refine sN1 hS rfl ?_); clear hS; first | ((fail_if_success guard_hyp g1); intro g1 w hS) | ((fail_if_success guard_hyp g2); intro g2 w hS) | ((fail_if_success guard_hyp g3); intro g3 w hS) | ((fail_if_success guard_hyp g4); intro g4 w hS) | fail) | fail)
  refine st_retC hS rfl rfl rfl rfl ?_
  exact ⟨c, x0, x1, x2, x3, x4, HC, rfl, hS.toExt⟩
theorem run_sliceArr {P : Program} {t e : TypeId} {n m g : Nat} (hu : P.underlying t = some (.array n e)) (hs : (P.info? e).map (·.size) = some 1) (hm : m ≤ n) (w : World) :
    (Instr.sliceAt t (.pointer (some ⟨g, 0, none⟩)) none (some (.int .i64 (m : Int))) none).run P w = .ok (.slice (some ⟨g, 0, none⟩) m n) w := by
  have h1 : (0 : Int) ≤ (m : Int) ∧ (m : Int) ≤ (n : Int) := by omega
  simp [Instr.sliceAt, run_underlying hu, Instr.sureAddr, Instr.sliceBounds, Instr.sliceBound, asIntOf, hm, run_sizeOf hs, add_mk]
theorem sA1 {P : Program} {ops : Array Oper} {Q : Exit → Act → World → Prop} {a : Act} {w : World} {rest : List Oper} {d : Option Tmp} {tt t e : TypeId} {pos : String} {af : Array Edge} {gd : Option (Nat × Bool)} {x y : Operand} {n m g : Nat} (hu : P.underlying t = some (.array n e)) (hs : (P.info? e).map (·.size) = some 1)
    (hw : Region.wanted ⟨d, .slice t x none (some y) none, tt, pos, af, gd⟩ (yielded ops a.tmps) = true) (hx' : oval a x = some (.pointer (some ⟨g, 0, none⟩))) (hy' : oval a y = some (.int .i64 (m : Int))) (hm : m ≤ n)
    (k : wpList P ops Q rest (a.put d (.slice (some ⟨g, 0, none⟩) m n)) w) : wpList P ops Q (⟨d, .slice t x none (some y) none, tt, pos, af, gd⟩ :: rest) a w :=
  st_run hw (by simp only [execOp, (oval_eval hx'), (oval_eval hy'), Option.map_none, Option.map_some, Sem.run_bind, run_sliceArr hu hs hm, Result.andThen_ok, Sem.run_pure]) k
/-- the slice of a block's first cells -/
theorem St.blkTake {w0 w : World} {M : Nat → Prop} {cs : List (Chunk w0 M)} {f : Chunk w0 M → List (Chunk w0 M)} {g n : Nat} {zs : List Int} {vs : List Value} {t : TypeId} (h : St w0 M cs w) [hp : PickB g cs vs t f] (hv : vs = ints zs) : RI All w (some ⟨g, 0, none⟩) (zs.take n) := by
  subst hv
  exact RI.take (h.blkRV (vs := ints zs) : RI All w (some ⟨g, 0, none⟩) zs) n
set_option maxRecDepth 100000 in
set_option maxHeartbeats 3200000 in
theorem vector_any {S : Nat → Prop} (v : PV) (p : Pat) (q : Nat) (k : Int) (w0 : World) (hp : PatAt S w0 v p) (hg : Good p) (hpt : PtOk p (q, k)) :
    Calls Try.prog 34 #[v.val p, .int .i64 (q : Int), .int .i64 k] w0 fun e w' => ∃ c, IsClk p q k c ∧ RetRow w0 3 1 p.len.length (ints (vecN p c)) e w' := by
  have hS := St.start w0 NoM
  have hn5 := hg.n5
  obtain ⟨hq, hk0, hkl⟩ := hpt
  simp only at hq hk0 hkl
  have ha : CkOk p (q, 0) := ⟨hq, by simp, by simp⟩
  obtain ⟨b1, o1, hA1, _, hca⟩ := hp.len.atNS hq
  have HP := Lib.hid (And.intro hp (And.intro hg (And.intro ha (show PtOk p (q, k) from ⟨hq, hk0, hkl⟩))))
  have h64 := hg.hi q hq
  clear hp hg ha
  obtain ⟨A1, c1, A2, c2, A3, c3⟩ := v
  simp only [PV.val] at *
  subst hA1
  generalize nth p.len q = m at *
  have d1 : decide (k < 0) = false := decide_eq_false (by omega)
  have d2 : decide (m < k) = false := decide_eq_false (by omega)
  have hq' : (q : Int) < p.len.length := by omega
  go_enter Try.func34, Try.ntmps34
  go_wp2_with (first | (refine sA1 Try.underlying81 (by kernel_rfl) rfl rfl rfl hn5 ?_) | (go_at_call 71; refine (exists_n rfl rfl rfl rfl (HP.out.1.ext hS.toExt) HP.out.2.1 HP.out.2.2.1).mono ?_; rintro e w ⟨rfl, hx1⟩; replace hS := hS.ext hx1) | (go_at_call 72; refine (intervals_n rfl rfl rfl rfl (HP.out.1.ext hS.toExt) HP.out.2.1 HP.out.2.2.2).mono ?_; rintro e w ⟨c, x0, x1, x2, x3, x4, HC, rfl, hx1⟩; replace hS := hS.ext hx1) | (go_at_call 73; refine (clone_nn (xs := vecN p c) (vecN_length p c) (by have h := hS.blkTake (g := g2) (zs := [x0, x1, x2, x3, x4]) (n := p.len.length) rfl; rw [HC.out.2, vec5_take hn5] at h; exact h) (by omega)).mono ?_; rintro e w ⟨L, cl, rfl, ho, hx1⟩; replace hS := hS.addRow ho hx1) | (refine oL ?_; (first | refine sL1 hS rfl rfl rfl ?_ | refine sL2 hS rfl rfl rfl ?_ | refine sL3 hS rfl rfl ?_ | refine sL4 hS rfl rfl ?_ | refine sL5 hS rfl rfl ?_ | refine sL6 hS rfl rfl ?_ | refine sL7 hS rfl rfl ?_)) | (refine oS ?_; ((first | refine sS1 hS rfl rfl rfl ?_ | refine sS2 hS rfl rfl rfl ?_ | refine sS3 hS rfl rfl rfl ?_ | refine sS4 hS rfl rfl rfl ?_ | refine sS5 hS rfl rfl rfl ?_); clear hS; intro w hS)) | ((first | (refine oB ?_; first | refine sB1 hS rfl rfl ?_ | refine sB2 hS rfl rfl ?_) | refine sN1 hS rfl ?_); clear hS; first | ((fail_if_success guard_hyp g1); intro g1 w hS) | ((fail_if_success guard_hyp g2); intro g2 w hS) | ((fail_if_success guard_hyp g3); intro g3 w hS) | fail) | fail)
  go_ret
  exact ⟨c, HC.out.1, hS.ret rfl⟩
end Go.Proofs.Ytkflmichekpfbaa

/- depend: Depends, Global. Conditions: the pattern is good and lies in memory, the numbers are in range. -/
namespace Go.Proofs.Ytkflmichekpfbaa
open Go.RowKit
set_option linter.unusedVariables false
set_option linter.unusedSimpArgs false
set_option linter.unusedSectionVars false

theorem cell5 {x0 x1 x2 x3 x4 : Int} {zs : List Int} (h : [x0, x1, x2, x3, x4] = zs) {q : Nat} (hq : q < 5) : ([.int .i64 x0, .int .i64 x1, .int .i64 x2, .int .i64 x3, .int .i64 x4] : List Value)[q]? = some (.int .i64 (nth zs q)) := by
  rw [← h]
  match q, hq with
  | 0, _ | 1, _ | 2, _ | 3, _ | 4, _ => rfl
section
variable {S : Nat → Prop} {A1 A2 A3 : Option Addr} {c1 c2 c3 n1 n2 n3 : Nat} {p : Pat} {q : Nat} {z k : Int} {w : World}
theorem extended_n (e1 : p.len.length = n1) (e2 : p.ck.length = n2) (e3 : p.arcs.length = n3) (hz : z = q) (hp : PatAt S w ⟨A1, c1, A2, c2, A3, c3⟩ p) (hg : Good p) (ha : CkOk p (q, k)) :
    Calls Try.prog 79 #[.agg #[.slice A1 n1 c1, .slice A2 n2 c2, .slice A3 n3 c3], .agg #[.int .i64 z, .int .i64 k]] w fun e w' => ∃ c x0 x1 x2 x3 x4, Hid (IsClk p q (ckIx p q k) c ∧ [x0, x1, x2, x3, x4] = vec5 p c) ∧ e = .returned (.agg #[.int .i64 x0, .int .i64 x1, .int .i64 x2, .int .i64 x3, .int .i64 x4]) ∧ Ext w w' := by
  subst e1 e2 e3 hz; exact extended_any ⟨A1, c1, A2, c2, A3, c3⟩ p q k w hp hg ha
theorem vector_n (e1 : p.len.length = n1) (e2 : p.ck.length = n2) (e3 : p.arcs.length = n3) (hz : z = q) (hp : PatAt S w ⟨A1, c1, A2, c2, A3, c3⟩ p) (hg : Good p) (hpt : PtOk p (q, k)) :
    Calls Try.prog 34 #[.agg #[.slice A1 n1 c1, .slice A2 n2 c2, .slice A3 n3 c3], .int .i64 z, .int .i64 k] w fun e w' => ∃ c, IsClk p q k c ∧ (vecN p c).length = n1 ∧ RetRow w 3 1 n1 (ints (vecN p c)) e w' := by
  subst e1 e2 e3 hz
  refine (vector_any ⟨A1, c1, A2, c2, A3, c3⟩ p q k w hp hg hpt).mono ?_
  rintro e w' ⟨c, h1, h2⟩
  exact ⟨c, h1, vecN_length p c, h2⟩
end
set_option maxRecDepth 100000 in
set_option maxHeartbeats 3200000 in
theorem depends_any {S : Nat → Prop} (v : PV) (p : Pat) (q r : Nat) (n m : Int) (w0 : World) (hp : PatAt S w0 v p) (hg : Good p) (hb : CkOk p (q, n)) (ha : CkOk p (r, m)) :
    Calls Try.prog 46 #[v.val p, .agg #[.int .i64 (q : Int), .int .i64 n], .agg #[.int .i64 (r : Int), .int .i64 m]] w0 fun e w' => ∃ c, IsClk p q (ckIx p q n) c ∧ e = .returned (.bool (decide (m < nth (vecN p c) r))) ∧ Ext w0 w' := by
  have hS := St.start w0 NoM
  have hn5 := hg.n5
  have hr := ha.1
  simp only at hr
  have HP := Lib.hid (And.intro hp (And.intro hg (And.intro hb ha)))
  clear hp hg hb ha
  obtain ⟨A1, c1, A2, c2, A3, c3⟩ := v
  simp only [PV.val] at *
  have hr5 : (r : Int) < 5 := by omega
  go_enter Try.func46, Try.ntmps46
  go_wp2_with (first | (go_at_call 71; (first | ((fail_if_success guard_hyp M1); refine (exists_n rfl rfl rfl rfl (HP.out.1.ext hS.toExt) HP.out.2.1 HP.out.2.2.2).mono ?_; have M1 := True.intro) | refine (exists_n rfl rfl rfl rfl (HP.out.1.ext hS.toExt) HP.out.2.1 HP.out.2.2.1).mono ?_); rintro e w ⟨rfl, hx1⟩; replace hS := hS.ext hx1) | (go_at_call 79; refine (extended_n rfl rfl rfl rfl (HP.out.1.ext hS.toExt) HP.out.2.1 HP.out.2.2.1).mono ?_; rintro e w ⟨c, x0, x1, x2, x3, x4, HC, rfl, hx1⟩; replace hS := hS.ext hx1) | (refine oL ?_; (first | refine sL1 hS rfl rfl rfl ?_ | refine sL2 hS rfl rfl rfl ?_ | refine sL3 hS rfl rfl ?_ | refine sL4 hS rfl rfl ?_ | refine sL5 hS rfl rfl ?_ | refine sL6 hS rfl rfl ?_ | refine sL7 hS rfl rfl ?_)) | (refine oS ?_; ((first | refine sS1 hS rfl rfl rfl ?_ | refine sS2 hS rfl rfl rfl ?_ | refine sS3 hS rfl rfl rfl ?_ | refine sS4 hS rfl rfl rfl ?_ | refine sS5 hS rfl rfl rfl ?_); clear hS; intro w hS)) | ((first | (refine oB ?_; first | refine sB1 hS rfl rfl ?_ | refine sB2 hS rfl rfl ?_) | refine sN1 hS rfl ?_); clear hS; first | ((fail_if_success guard_hyp g1); intro g1 w hS) | ((fail_if_success guard_hyp g2); intro g2 w hS) | ((fail_if_success guard_hyp g3); intro g3 w hS) | ((fail_if_success guard_hyp g4); intro g4 w hS) | ((fail_if_success guard_hyp g5); intro g5 w hS) | fail) | fail)
  have hcell := cell5 (q := r) HC.out.2 (by omega)
  rw [nth_vec5 hr hn5, ← nth_vecN hr] at hcell
  have HX := Lib.hid (Eq.refl (nth (vecN p c) r))
  generalize hy : nth (vecN p c) r = y at *
  refine dr_start0 []  hS (by kernel_rfl) rfl ?_; clear hS; intro w hS
  refine dP hS 0 rfl rfl ?_
  (try simp only [Act.put, nA, nB, nC])
  first | refine dL1 hS 1 rfl rfl rfl rfl ?_ | refine dL2 hS 1 rfl rfl rfl rfl ?_ | refine dL3 hS 1 rfl rfl rfl ?_ | refine dL4 hS 1 rfl rfl rfl ?_ | refine dL5 hS 1 rfl rfl rfl ?_ | refine dL6 hS 1 rfl rfl rfl ?_ | refine dL7 hS 1 rfl rfl rfl ?_
  (try simp only [Act.put, nA, nB, nC])
  refine dP hS 2 rfl rfl ?_
  (try simp only [Act.put, nA, nB, nC])
  first | refine dL1 hS 3 rfl rfl rfl hcell ?_ | refine dL1 hS 3 rfl rfl rfl rfl ?_ | refine dL2 hS 3 rfl rfl rfl rfl ?_ | refine dL3 hS 3 rfl rfl rfl ?_ | refine dL4 hS 3 rfl rfl rfl ?_ | refine dL5 hS 3 rfl rfl rfl ?_ | refine dL6 hS 3 rfl rfl rfl ?_ | refine dL7 hS 3 rfl rfl rfl ?_
  (try simp only [Act.put, nA, nB, nC])
  refine dP hS 4 rfl rfl ?_
  (try simp only [Act.put, nA, nB, nC])
  first | refine dL1 hS 5 rfl rfl rfl rfl ?_ | refine dL2 hS 5 rfl rfl rfl rfl ?_ | refine dL3 hS 5 rfl rfl rfl ?_ | refine dL4 hS 5 rfl rfl rfl ?_ | refine dL5 hS 5 rfl rfl rfl ?_ | refine dL6 hS 5 rfl rfl rfl ?_ | refine dL7 hS 5 rfl rfl rfl ?_
  (try simp only [Act.put, nA, nB, nC])
  refine dP hS 6 rfl rfl ?_
  (try simp only [Act.put, nA, nB, nC])
  refine dA hS 7 rfl rfl rfl ?_
  (try simp only [Act.put, nA, nB, nC])
  refine dr_done (by kernel_rfl) ?_
  go_wp2_with (first | (refine oL ?_; (first | refine sL1 hS rfl rfl rfl ?_ | refine sL2 hS rfl rfl rfl ?_ | refine sL3 hS rfl rfl ?_ | refine sL4 hS rfl rfl ?_ | refine sL5 hS rfl rfl ?_ | refine sL6 hS rfl rfl ?_ | refine sL7 hS rfl rfl ?_)) | (refine oS ?_; ((first | refine sS1 hS rfl rfl rfl ?_ | refine sS2 hS rfl rfl rfl ?_ | refine sS3 hS rfl rfl rfl ?_ | refine sS4 hS rfl rfl rfl ?_ | refine sS5 hS rfl rfl rfl ?_); clear hS; intro w hS)) | ((first | (refine oB ?_; first | refine sB1 hS rfl rfl ?_ | refine sB2 hS rfl rfl ?_) | refine sN1 hS rfl ?_); clear hS; first | ((fail_if_success guard_hyp g1); intro g1 w hS) | ((fail_if_success guard_hyp g2); intro g2 w hS) | ((fail_if_success guard_hyp g3); intro g3 w hS) | ((fail_if_success guard_hyp g4); intro g4 w hS) | ((fail_if_success guard_hyp g5); intro g5 w hS) | fail) | fail)
  go_ret
  refine ⟨c, HC.out.1, ?_, hS.toExt⟩
  rw [hy]; rfl
/-- extended checkpoints, one of each process, are a consistent global checkpoint -/
def IsGlobal (p : Pat) (xs : List Int) : Prop := ∀ q, q < p.len.length → ∀ c, IsClk p q (ckIx p q (nth xs q)) c → ∀ s, s < p.len.length → s ≠ q → nth (vecN p c) s ≤ nth xs s
def GlobRes (p : Pat) (xs : List Int) (w0 : World) (e : Ending) (w' : World) : Prop := ∃ b : Bool, (b = true ↔ IsGlobal p xs) ∧ e = .returned (.bool b) ∧ Ext w0 w'
/-- of one process -/
def GlobQ (p : Pat) (xs : List Int) (q : Nat) : Prop := ∀ c, IsClk p q (ckIx p q (nth xs q)) c → ∀ s, s < p.len.length → s ≠ q → nth (vecN p c) s ≤ nth xs s
set_option maxRecDepth 100000 in
set_option maxHeartbeats 3200000 in
theorem global_any {S T : Nat → Prop} (v : PV) (p : Pat) (X : Option Addr) (cx : Nat) (xs : List Int) (w0 : World) (hp : PatAt S w0 v p) (hg : Good p) (hx : RI T w0 X xs) (hl : xs.length = p.len.length) (ha : ∀ q, q < p.len.length → CkOk p (q, nth xs q)) :
    Calls Try.prog 49 #[v.val p, .slice X p.len.length cx] w0 (GlobRes p xs w0) := by
  have hS := St.start w0 NoM
  have hn5 := hg.n5
  have hck := hg.ckl
  have HP := Lib.hid (And.intro hp (And.intro hg ha))
  have HL := Lib.hid hl
  have hck5 : p.ck.length ≤ 5 := by rw [hck]; exact hn5
  have HK := Lib.hid hck
  have h2 := hp.ck
  clear hp hg hl ha hck
  obtain ⟨A1, c1, A2, c2, A3, c3⟩ := v
  simp only [PV.val] at *
  have e0 : ((p.len.length : Int) != (p.len.length : Int)) = false := by simp
  go_enter Try.func49, Try.ntmps49
  go_wp2_with (first | (go_at_call 80; refine (check_good ⟨A1, c1, A2, c2, A3, c3⟩ p _ (HP.out.1.ext hS.toExt) HP.out.2.1).mono ?_; rintro e w ⟨rfl, hx1⟩; replace hS := hS.ext hx1) | (refine oL ?_; (first | refine sL1 hS rfl rfl rfl ?_ | refine sL2 hS rfl rfl rfl ?_ | refine sL3 hS rfl rfl ?_ | refine sL4 hS rfl rfl ?_ | refine sL5 hS rfl rfl ?_ | refine sL6 hS rfl rfl ?_ | refine sL7 hS rfl rfl ?_)) | (refine oS ?_; ((first | refine sS1 hS rfl rfl rfl ?_ | refine sS2 hS rfl rfl rfl ?_ | refine sS3 hS rfl rfl rfl ?_ | refine sS4 hS rfl rfl rfl ?_ | refine sS5 hS rfl rfl rfl ?_); clear hS; intro w hS)) | ((first | (refine oB ?_; first | refine sB1 hS rfl rfl ?_ | refine sB2 hS rfl rfl ?_) | refine sN1 hS rfl ?_); clear hS; first | ((fail_if_success guard_hyp g1); intro g1 w hS) | ((fail_if_success guard_hyp g2); intro g2 w hS) | ((fail_if_success guard_hyp g3); intro g3 w hS) | fail) | fail)
  clear e0
  go_loopw [25] (fun s25 wr => ∃ (k : Nat), k ≤ p.len.length ∧ s25 = .int .i64 k ∧ St w0 NoM [blk g1 [.slice A1 p.len.length c1, .slice A2 p.ck.length c2, .slice A3 p.arcs.length c3] 28] wr) (fun s25 _ => p.len.length - (intOf s25).toNat)
  case atStart => exact ⟨0, by omega, rfl, hS⟩
  case round =>
    obtain ⟨k, hk, rfl, hS⟩ := hrel
    by_cases hlt : k < p.len.length
    · obtain ⟨b1, o1, rfl, _, hca⟩ := hx.atNS (k := k) (by rw [HL.out]; exact hlt)
      have hckk : k < p.ck.length := by rw [HK.out]; exact hlt
      obtain ⟨b2, o2, B, cB, rfl, _, hcb, _, _, hrb⟩ := h2.atS hckk
      rw [← rowOf_eq hckk] at hcb hrb
      obtain ⟨_, ha0, ha1⟩ := HP.out.2.2 k hlt
      simp only at ha0 ha1
      generalize rowOf p.ck k = l at *
      generalize nth xs k = m at *
      have d1 : decide (m < 0) = false := decide_eq_false (by omega)
      have d2 : decide ((l.length : Int) < m) = false := decide_eq_false (by omega)
      have hk' : (k : Int) < p.ck.length := by omega
      go_wp2_with (first | (refine oL ?_; (first | refine sL1 hS rfl rfl rfl ?_ | refine sL2 hS rfl rfl rfl ?_ | refine sL3 hS rfl rfl ?_ | refine sL4 hS rfl rfl ?_ | refine sL5 hS rfl rfl ?_ | refine sL6 hS rfl rfl ?_ | refine sL7 hS rfl rfl ?_)) | (refine oS ?_; ((first | refine sS1 hS rfl rfl rfl ?_ | refine sS2 hS rfl rfl rfl ?_ | refine sS3 hS rfl rfl rfl ?_ | refine sS4 hS rfl rfl rfl ?_ | refine sS5 hS rfl rfl rfl ?_); clear hS; intro w hS)) | ((first | (refine oB ?_; first | refine sB1 hS rfl rfl ?_ | refine sB2 hS rfl rfl ?_) | refine sN1 hS rfl ?_); clear hS; first | ((fail_if_success guard_hyp g1); intro g1 w hS) | ((fail_if_success guard_hyp g2); intro g2 w hS) | ((fail_if_success guard_hyp g3); intro g3 w hS) | fail) | fail)
      go_roundw
      case measure => simp [intOf]; omega
      exact ⟨k + 1, by omega, by go_num, hS⟩
    · go_wp2_with (first | (refine oL ?_; (first | refine sL1 hS rfl rfl rfl ?_ | refine sL2 hS rfl rfl rfl ?_ | refine sL3 hS rfl rfl ?_ | refine sL4 hS rfl rfl ?_ | refine sL5 hS rfl rfl ?_ | refine sL6 hS rfl rfl ?_ | refine sL7 hS rfl rfl ?_)) | (refine oS ?_; ((first | refine sS1 hS rfl rfl rfl ?_ | refine sS2 hS rfl rfl rfl ?_ | refine sS3 hS rfl rfl rfl ?_ | refine sS4 hS rfl rfl rfl ?_ | refine sS5 hS rfl rfl rfl ?_); clear hS; intro w hS)) | ((first | (refine oB ?_; first | refine sB1 hS rfl rfl ?_ | refine sB2 hS rfl rfl ?_) | refine sN1 hS rfl ?_); clear hS; first | ((fail_if_success guard_hyp g1); intro g1 w hS) | ((fail_if_success guard_hyp g2); intro g2 w hS) | ((fail_if_success guard_hyp g3); intro g3 w hS) | fail) | fail)
      go_loopw [45] (fun s45 wr => ∃ (k : Nat), k ≤ p.len.length ∧ s45 = .int .i64 k ∧ Hid (∀ q, q < k → GlobQ p xs q) ∧ St w0 NoM [blk g1 [.slice A1 p.len.length c1, .slice A2 p.ck.length c2, .slice A3 p.arcs.length c3] 28] wr) (fun s45 _ => p.len.length - (intOf s45).toNat)
      case atStart => exact ⟨0, by omega, rfl, Lib.hid (fun q hq => absurd hq (by omega)), hS⟩
      case round =>
        clear hlt hk
        obtain ⟨k, hk, rfl, HQ, hS⟩ := hrel
        by_cases hlt : k < p.len.length
        · obtain ⟨b1, o1, hX, _, hca⟩ := hx.atNS (k := k) (by rw [HL.out]; exact hlt)
          subst hX
          have HA := Lib.hid (HP.out.2.2 k hlt)
          generalize hm : nth xs k = m at *
          go_wp2_with (first | (go_at_call 79; refine (extended_n rfl rfl rfl rfl (HP.out.1.ext hS.toExt) HP.out.2.1 HA.out).mono ?_; rintro e w ⟨c, x0, x1, x2, x3, x4, HC, rfl, hx1⟩; replace hS := hS.ext hx1) | (refine oL ?_; (first | refine sL1 hS rfl rfl rfl ?_ | refine sL2 hS rfl rfl rfl ?_ | refine sL3 hS rfl rfl ?_ | refine sL4 hS rfl rfl ?_ | refine sL5 hS rfl rfl ?_ | refine sL6 hS rfl rfl ?_ | refine sL7 hS rfl rfl ?_)) | (refine oS ?_; ((first | refine sS1 hS rfl rfl rfl ?_ | refine sS2 hS rfl rfl rfl ?_ | refine sS3 hS rfl rfl rfl ?_ | refine sS4 hS rfl rfl rfl ?_ | refine sS5 hS rfl rfl rfl ?_); clear hS; intro w hS)) | ((first | (refine oB ?_; first | refine sB1 hS rfl rfl ?_ | refine sB2 hS rfl rfl ?_) | refine sN1 hS rfl ?_); clear hS; first | ((fail_if_success guard_hyp g1); intro g1 w hS) | ((fail_if_success guard_hyp g2); intro g2 w hS) | ((fail_if_success guard_hyp g3); intro g3 w hS) | fail) | fail)
          go_loopw [57] (fun s57 wr => ∃ (j : Nat), j ≤ p.len.length ∧ s57 = .int .i64 j ∧ Hid (∀ s, s < j → s ≠ k → nth (vecN p c) s ≤ nth xs s) ∧ St w0 NoM [blk g2 [.int .i64 x0, .int .i64 x1, .int .i64 x2, .int .i64 x3, .int .i64 x4] 81, blk g1 [.slice A1 p.len.length c1, .slice A2 p.ck.length c2, .slice A3 p.arcs.length c3] 28] wr) (fun s57 _ => p.len.length - (intOf s57).toNat)
          case atStart => exact ⟨0, by omega, rfl, Lib.hid (fun q hq => absurd hq (by omega)), hS⟩
          case round =>
            obtain ⟨j, hj, rfl, HJ, hS⟩ := hrel
            by_cases hjl : j < p.len.length
            · obtain ⟨b3, o3, hX3, _, hcj⟩ := hx.atNS (k := j) (by rw [HL.out]; exact hjl)
              injection hX3 with hX3
              injection hX3 with e1 e2
              subst e1 e2
              have hcell := cell5 (q := j) HC.out.2 (by omega)
              rw [nth_vec5 hjl hn5, ← nth_vecN hjl] at hcell
              have hj5 : (j : Int) < 5 := by omega
              have hxj : Hid (nth xs j = nth xs j) := Lib.hid rfl
              generalize hy : nth (vecN p c) j = y at *
              generalize hz : nth xs j = z at *
              by_cases hjk : j = k
              · subst hjk
                have e1 : ((j : Int) != (j : Int)) = false := by simp
                go_wp2_with (first | (refine oL ?_; (first | refine sL1 hS rfl rfl rfl ?_ | refine sL2 hS rfl rfl rfl ?_ | refine sL3 hS rfl rfl ?_ | refine sL4 hS rfl rfl ?_ | refine sL5 hS rfl rfl ?_ | refine sL6 hS rfl rfl ?_ | refine sL7 hS rfl rfl ?_)) | (refine oS ?_; ((first | refine sS1 hS rfl rfl rfl ?_ | refine sS2 hS rfl rfl rfl ?_ | refine sS3 hS rfl rfl rfl ?_ | refine sS4 hS rfl rfl rfl ?_ | refine sS5 hS rfl rfl rfl ?_); clear hS; intro w hS)) | ((first | (refine oB ?_; first | refine sB1 hS rfl rfl ?_ | refine sB2 hS rfl rfl ?_) | refine sN1 hS rfl ?_); clear hS; first | ((fail_if_success guard_hyp g1); intro g1 w hS) | ((fail_if_success guard_hyp g2); intro g2 w hS) | ((fail_if_success guard_hyp g3); intro g3 w hS) | fail) | fail)
                go_roundw
                case measure => simp [intOf]; omega
                refine ⟨j + 1, by omega, by go_num, Lib.hid (fun s hs hne => HJ.out s (by omega) hne), hS⟩
              · have e1 : ((j : Int) != (k : Int)) = true := by simp; omega
                by_cases hyz : z < y
                · go_wp2_with (first | (refine oL ?_; refine sL1 hS rfl rfl hcell ?_) | (refine oL ?_; (first | refine sL1 hS rfl rfl rfl ?_ | refine sL2 hS rfl rfl rfl ?_ | refine sL3 hS rfl rfl ?_ | refine sL4 hS rfl rfl ?_ | refine sL5 hS rfl rfl ?_ | refine sL6 hS rfl rfl ?_ | refine sL7 hS rfl rfl ?_)) | (refine oS ?_; ((first | refine sS1 hS rfl rfl rfl ?_ | refine sS2 hS rfl rfl rfl ?_ | refine sS3 hS rfl rfl rfl ?_ | refine sS4 hS rfl rfl rfl ?_ | refine sS5 hS rfl rfl rfl ?_); clear hS; intro w hS)) | ((first | (refine oB ?_; first | refine sB1 hS rfl rfl ?_ | refine sB2 hS rfl rfl ?_) | refine sN1 hS rfl ?_); clear hS; first | ((fail_if_success guard_hyp g1); intro g1 w hS) | ((fail_if_success guard_hyp g2); intro g2 w hS) | ((fail_if_success guard_hyp g3); intro g3 w hS) | fail) | fail)
                  go_ret
                  refine ⟨false, ⟨fun h => (by cases h), fun h => ?_⟩, rfl, hS.toExt⟩
                  have := h k hlt c (by rw [hm]; exact HC.out.1) j hjl hjk
                  rw [hy, hz] at this
                  omega
                · go_wp2_with (first | (refine oL ?_; refine sL1 hS rfl rfl hcell ?_) | (refine oL ?_; (first | refine sL1 hS rfl rfl rfl ?_ | refine sL2 hS rfl rfl rfl ?_ | refine sL3 hS rfl rfl ?_ | refine sL4 hS rfl rfl ?_ | refine sL5 hS rfl rfl ?_ | refine sL6 hS rfl rfl ?_ | refine sL7 hS rfl rfl ?_)) | (refine oS ?_; ((first | refine sS1 hS rfl rfl rfl ?_ | refine sS2 hS rfl rfl rfl ?_ | refine sS3 hS rfl rfl rfl ?_ | refine sS4 hS rfl rfl rfl ?_ | refine sS5 hS rfl rfl rfl ?_); clear hS; intro w hS)) | ((first | (refine oB ?_; first | refine sB1 hS rfl rfl ?_ | refine sB2 hS rfl rfl ?_) | refine sN1 hS rfl ?_); clear hS; first | ((fail_if_success guard_hyp g1); intro g1 w hS) | ((fail_if_success guard_hyp g2); intro g2 w hS) | ((fail_if_success guard_hyp g3); intro g3 w hS) | fail) | fail)
                  go_roundw
                  case measure => simp [intOf]; omega
                  refine ⟨j + 1, by omega, by go_num, Lib.hid (fun s hs hne => ?_), hS⟩
                  by_cases hsj : s = j
                  · subst hsj; rw [hy, hz]; omega
                  · exact HJ.out s (by omega) hne
            · have hje : j = p.len.length := by omega
              subst hje
              go_wp2_with (first | (refine oL ?_; (first | refine sL1 hS rfl rfl rfl ?_ | refine sL2 hS rfl rfl rfl ?_ | refine sL3 hS rfl rfl ?_ | refine sL4 hS rfl rfl ?_ | refine sL5 hS rfl rfl ?_ | refine sL6 hS rfl rfl ?_ | refine sL7 hS rfl rfl ?_)) | (refine oS ?_; ((first | refine sS1 hS rfl rfl rfl ?_ | refine sS2 hS rfl rfl rfl ?_ | refine sS3 hS rfl rfl rfl ?_ | refine sS4 hS rfl rfl rfl ?_ | refine sS5 hS rfl rfl rfl ?_); clear hS; intro w hS)) | ((first | (refine oB ?_; first | refine sB1 hS rfl rfl ?_ | refine sB2 hS rfl rfl ?_) | refine sN1 hS rfl ?_); clear hS; first | ((fail_if_success guard_hyp g1); intro g1 w hS) | ((fail_if_success guard_hyp g2); intro g2 w hS) | ((fail_if_success guard_hyp g3); intro g3 w hS) | fail) | fail)
              go_roundw
              case measure => simp [intOf]; omega
              refine ⟨k + 1, by omega, by go_num, Lib.hid (fun q hq => ?_), hS.re⟩
              by_cases hqk : q = k
              · subst hqk
                intro c' hc' s hs hne
                rw [hm] at hc'
                rw [hc'.unique HC.out.1]
                exact HJ.out s hs hne
              · exact HQ.out q (by omega)
        · have hke : k = p.len.length := by omega
          subst hke
          go_wp2_with (first | (refine oL ?_; (first | refine sL1 hS rfl rfl rfl ?_ | refine sL2 hS rfl rfl rfl ?_ | refine sL3 hS rfl rfl ?_ | refine sL4 hS rfl rfl ?_ | refine sL5 hS rfl rfl ?_ | refine sL6 hS rfl rfl ?_ | refine sL7 hS rfl rfl ?_)) | (refine oS ?_; ((first | refine sS1 hS rfl rfl rfl ?_ | refine sS2 hS rfl rfl rfl ?_ | refine sS3 hS rfl rfl rfl ?_ | refine sS4 hS rfl rfl rfl ?_ | refine sS5 hS rfl rfl rfl ?_); clear hS; intro w hS)) | ((first | (refine oB ?_; first | refine sB1 hS rfl rfl ?_ | refine sB2 hS rfl rfl ?_) | refine sN1 hS rfl ?_); clear hS; first | ((fail_if_success guard_hyp g1); intro g1 w hS) | ((fail_if_success guard_hyp g2); intro g2 w hS) | ((fail_if_success guard_hyp g3); intro g3 w hS) | fail) | fail)
          go_ret
          exact ⟨true, ⟨fun _ => HQ.out, fun _ => rfl⟩, rfl, hS.toExt⟩
end Go.Proofs.Ytkflmichekpfbaa

/- Patterns of two processes with one message. No condition. -/
namespace Go.Proofs.Ytkflmichekpfbaa
open Go.RowKit
set_option linter.unusedVariables false
set_option linter.unusedSimpArgs false

/-- two processes, one message from the first to the second -/
def onePat (a b : Int) (r0 r1 : List Int) (ix at_ : Int) : Pat := ⟨[a, b], [r0, r1], [⟨0, ix, 1, at_⟩]⟩
theorem two_cases {q : Nat} (h : q < 2) : q = 0 ∨ q = 1 := by omega
theorem onePat_good {a b : Int} {r0 r1 : List Int} {ix at_ : Int} (ha : 0 ≤ a) (ha' : a ≤ 64) (hb : 0 ≤ b) (hb' : b ≤ 64) (h0 : RowOk r0 a) (h1 : RowOk r1 b) (hi : 0 ≤ ix) (hi' : ix ≤ a) (ht : 1 ≤ at_) (ht' : at_ ≤ b) : Good (onePat a b r0 r1 ix at_) := by
  have n0 : nth (onePat a b r0 r1 ix at_).len 0 = a := rfl
  have n1 : nth (onePat a b r0 r1 ix at_).len 1 = b := rfl
  refine ⟨by simp [onePat], by simp [onePat], by simp [onePat], ?_, ?_, ?_, ?_, ?_, by simp [onePat], ⟨fun q k => 100 * q + k.toNat, 1000, ⟨?_, ?_⟩, ?_⟩⟩
  · intro q hq
    rcases two_cases hq with rfl | rfl
    · rw [n0]; exact ha
    · rw [n1]; exact hb
  · intro q hq
    rcases two_cases hq with rfl | rfl
    · rw [n0]; exact ha'
    · rw [n1]; exact hb'
  · intro q hq
    rcases two_cases hq with rfl | rfl
    · exact h0
    · exact h1
  · intro x hx
    simp only [onePat, List.mem_singleton] at hx
    subst hx
    exact ⟨by simp [onePat], by simp [onePat], by simp, hi, hi', by simp only; omega, ht'⟩
  · intro i j hi' hj hlt
    simp [onePat] at hi' hj
    omega
  · intro q hq k hk hk'
    simp only
    omega
  · intro x hx h
    simp only [onePat, List.mem_singleton] at hx
    subst hx
    simp only
    omega
  · intro q hq k hk hk'
    have : q = 0 ∨ q = 1 := two_cases hq
    simp only
    rcases this with rfl | rfl
    · rw [n0] at hk'; omega
    · rw [n1] at hk'; omega
theorem onePat_clk {a b : Int} {r0 r1 : List Int} {ix at_ k : Int} (hg : Good (onePat a b r0 r1 ix at_)) (hi : 0 ≤ ix) (hi' : ix ≤ a) (ht : 1 ≤ at_) (hk : at_ ≤ k) (hk' : k ≤ b) : IsClk (onePat a b r0 r1 ix at_) 1 k [ix, k] := by
  refine ⟨valid_iff.2 ⟨rfl, fun q hq => ?_⟩, cons_iff.2 fun x hx h1 h2 => ?_, rfl, fun z hz hc hzk q hq => ?_⟩
  · rcases two_cases hq with rfl | rfl
    · exact ⟨hi, hi'⟩
    · exact ⟨by show 0 ≤ k; omega, hk'⟩
  · simp only [onePat, List.mem_singleton] at hx
    subst hx
    exact Int.le_refl _
  · rcases two_cases hq with rfl | rfl
    · exact cons_iff.1 hc ⟨0, ix, 1, at_⟩ (by simp [onePat]) (by show 0 < at_; omega) (by show at_ ≤ nth z 1; omega)
    · exact hzk
end Go.Proofs.Ytkflmichekpfbaa

/- The sanity check of chapter 19. No condition. -/
namespace Go.Proofs.Ytkflmichekpfbaa
open Go.RowKit
set_option linter.unusedVariables false
set_option linter.unusedSimpArgs false

abbrev ex19 : Pat := onePat 2 1 [0, 1] [0] 2 1
theorem ex19_good : Good ex19 := onePat_good (by decide) (by decide) (by decide) (by decide) ⟨⟨[1], rfl⟩, by simp, by simp⟩ ⟨⟨[], rfl⟩, by simp, by simp⟩ (by decide) (by decide) (by decide) (by decide)
theorem ex19_clk {c : List Int} (h : IsClk ex19 1 1 c) : vecN ex19 c = [2, 1] := by
  rw [h.unique (onePat_clk ex19_good (by decide) (by decide) (by decide) (by decide) (by decide))]
  rfl
theorem reps_one19 {w : World} : Reps (repArc w) 4 [.int .i64 0, .int .i64 2, .int .i64 1, .int .i64 1] ex19.arcs := ⟨[_, _, _, _], [], rfl, rfl, rfl, rfl⟩
set_option maxRecDepth 100000 in
set_option maxHeartbeats 3200000 in
theorem example19_any (w0 : World) : Calls Try.prog 69 #[] w0 (RetP (fun _ => False) w0 ex19) := by
  have hS := St.start w0 NoM
  go_enter Try.func69, Try.ntmps69
  go_wp2_with (first | (refine oS ?_; ((first | refine sS1 hS rfl rfl rfl ?_ | refine sS2 hS rfl rfl rfl ?_ | refine sS3 hS rfl rfl rfl ?_ | refine sS4 hS rfl rfl rfl ?_ | refine sS5 hS rfl rfl rfl ?_); clear hS; intro w hS)) | ((first | refine sN1 hS rfl ?_ | (refine oC ?_; first | refine sC0 hS rfl ?_ | refine sC1 hS rfl rfl ?_ | refine sC2 hS rfl rfl ?_ | refine sC3 hS rfl rfl rfl ?_ | refine sC4 hS rfl rfl rfl ?_)); clear hS; first | ((fail_if_success guard_hyp g1); intro g1 w hS) | ((fail_if_success guard_hyp g2); intro g2 w hS) | ((fail_if_success guard_hyp g3); intro g3 w hS) | ((fail_if_success guard_hyp g4); intro g4 w hS) | ((fail_if_success guard_hyp g5); intro g5 w hS) | ((fail_if_success guard_hyp g6); intro g6 w hS) | ((fail_if_success guard_hyp g7); intro g7 w hS) | fail) | fail)
  have hb1 := hS.all (blk g2 [.int .i64 2, .int .i64 1] 3) (by simp)
  have hb2 := hS.all (blk g3 [.int .i64 0, .int .i64 1] 3) (by simp)
  have hb3 := hS.all (blk g4 [.int .i64 0] 3) (by simp)
  have hb4 := hS.all (blk g5 [.slice (some ⟨g3, 0, none⟩) 2 2, .slice (some ⟨g4, 0, none⟩) 1 1] 24) (by simp)
  have hb5 := hS.all (blk g6 [.int .i64 0, .int .i64 2, .int .i64 1, .int .i64 1] 57) (by simp)
  have hn1 := hS.new (blk g2 [.int .i64 2, .int .i64 1] 3) (by simp) g2 rfl
  have hn2 := hS.new (blk g3 [.int .i64 0, .int .i64 1] 3) (by simp) g3 rfl
  have hn3 := hS.new (blk g4 [.int .i64 0] 3) (by simp) g4 rfl
  have hn4 := hS.new (blk g5 [.slice (some ⟨g3, 0, none⟩) 2 2, .slice (some ⟨g4, 0, none⟩) 1 1] 24) (by simp) g5 rfl
  have hn5 := hS.new (blk g6 [.int .i64 0, .int .i64 2, .int .i64 1, .int .i64 1] 57) (by simp) g6 rfl
  refine st_retC hS rfl rfl rfl rfl ?_
  refine ⟨⟨some ⟨g2, 0, none⟩, 2, some ⟨g5, 0, none⟩, 2, some ⟨g6, 0, none⟩, 1⟩, rfl, ?_, hS.toExt⟩
  refine ⟨RV.ofBlkT (us := [.int .i64 2, .int .i64 1]) hb1 (.inr (hn1.resolve_right id)), ⟨_, RV.ofBlkT (us := [_, _]) hb4 (.inr (hn4.resolve_right id)), ?_⟩, ⟨_, RV.ofBlkT hb5 (.inr (hn5.resolve_right id)), reps_one19⟩, by simp [onePat], by simp, by simp [onePat], by simp, by simp [onePat], by simp⟩
  exact ⟨[_], [_], rfl, rfl, ⟨some ⟨g3, 0, none⟩, 2, rfl, by decide, by decide, RV.ofBlkT (us := [.int .i64 0, .int .i64 1]) hb2 (.inr (hn2.resolve_right id))⟩, [_], [], rfl, rfl, ⟨some ⟨g4, 0, none⟩, 1, rfl, by decide, by decide, RV.ofBlkT (us := [.int .i64 0]) hb3 (.inr (hn3.resolve_right id))⟩, rfl⟩
set_option maxRecDepth 100000 in
set_option maxHeartbeats 3200000 in
theorem awake19_any (w0 : World) : Calls Try.prog 31 #[] w0 fun e w' => e = .returned (.bool true) ∧ Ext w0 w' := by
  have hS := St.start w0 NoM
  go_enter Try.func31, Try.ntmps31
  go_wp2_with (first | (go_at_call 69; refine (example19_any _).mono ?_; rintro e w ⟨v, rfl, hp, hx1⟩; replace hS := hS.ext hx1; have HPv := Lib.hid hp; clear hp) | (go_at_call 34; refine (vector_any v ex19 1 1 _ HPv.out ex19_good ⟨by decide, by decide, by decide⟩).mono ?_; rintro e w ⟨c, hc, L, cl, rfl, ho, hx1⟩; rw [ex19_clk hc] at ho; replace hS := hS.addRow ho hx1; obtain ⟨g, rfl⟩ := hS.rowSome L (by decide); clear hc ho; have hl0 : (ints [2, 1])[0]? = some (.int .i64 2) := rfl; have hl1 : (ints [2, 1])[1]? = some (.int .i64 1) := rfl; simp only [show ex19.len.length = 2 from rfl] at hS ⊢) | (go_at_call 46; refine (depends_any v ex19 1 0 1 1 _ HPv.out ex19_good ⟨by decide, by decide, by decide⟩ ⟨by decide, by decide, by decide⟩).mono ?_; rintro e w ⟨c, hc, rfl, hx1⟩; rw [ex19_clk (c := c) hc]; replace hS := hS.ext hx1) | (refine oL ?_; (first | refine sL1 hS rfl rfl rfl ?_ | refine sL2 hS rfl rfl rfl ?_ | refine sL3 hS rfl rfl ?_ | refine sL4 hS rfl rfl ?_ | refine sL5 hS rfl rfl ?_ | refine sL6 hS rfl rfl ?_ | refine sL7 hS rfl rfl ?_)) | fail)
  go_ret
  exact ⟨rfl, hS.toExt⟩
end Go.Proofs.Ytkflmichekpfbaa

/- Dependency vectors, plain: clocks exist; global checkpoints and consistent cuts; how vectors grow. No condition. -/
namespace Go.Proofs.Ytkflmichekpfbaa
set_option linter.unusedVariables false
set_option linter.unusedSimpArgs false
set_option linter.unusedSectionVars false

theorem below_cons' (y : Int) (l : List Int) (x : Int) : below (y :: l) x = (if y < x then 1 else 0) + below l x := by
  simp only [below, List.filter_cons]
  by_cases h : y < x <;> simp [h]; omega
theorem below_mono' (l : List Int) {x y : Int} (h : x ≤ y) : below l x ≤ below l y := by
  induction l with
  | nil => simp [below]
  | cons a l ih =>
    rw [below_cons', below_cons']
    split
    · rw [if_pos (by omega)]; omega
    · split <;> omega
theorem below_max' (l : List Int) (x y : Int) : (below l (max x y) : Int) = max (below l x : Int) (below l y : Int) := by
  rcases Int.le_total x y with h | h
  · have := below_mono' l h
    rw [Int.max_eq_right h]; omega
  · have := below_mono' l h
    rw [Int.max_eq_left h]; omega
theorem below_asc {l : List Int} (h : l.Pairwise (· < ·)) (y : Int) : ∀ i (hi : i < l.length), l[i] < y ↔ i < below l y := by
  induction l with
  | nil => intro i hi; simp at hi
  | cons a l ih =>
    have hp := List.pairwise_cons.1 h
    intro i hi
    rw [below_cons']
    match i with
    | 0 =>
      simp only [List.getElem_cons_zero]
      by_cases ha : a < y
      · rw [if_pos ha]; constructor
        · intro; omega
        · intro; exact ha
      · rw [if_neg ha]
        constructor
        · intro h; exact absurd h ha
        · intro h0
          have : 0 < below l y := by omega
          have hl : 0 < l.length := Nat.lt_of_lt_of_le this (below_le l y)
          have h1 := (ih hp.2 0 hl).2 this
          have h2 := hp.1 _ (List.getElem_mem hl)
          omega
    | i + 1 =>
      have hil : i < l.length := by simpa using hi
      have h1 := ih hp.2 i hil
      have h2 := hp.1 _ (List.getElem_mem hil)
      simp only [List.getElem_cons_succ]
      by_cases ha : a < y
      · rw [if_pos ha, h1]; omega
      · rw [if_neg ha]
        constructor
        · intro h; omega
        · intro h0
          have h3 := h1.2 (by omega)
          omega
theorem below_ck {p : Pat} (hg : Good p) {s : Nat} (hs : s < p.len.length) {y n : Int} (hy : y ≤ nth p.len s) (hn : 0 ≤ n) : (below (rowOf p.ck s) y : Int) ≤ n ↔ y ≤ ckIx p s n := by
  have hr := hg.row s hs
  unfold ckIx
  generalize rowOf p.ck s = l at *
  have hle := below_le l y
  split
  · rename_i hlt
    have hl : n.toNat < l.length := by omega
    have := below_asc hr.asc y n.toNat hl
    rw [nth_eq hl]
    omega
  · exact ⟨fun _ => hy, fun _ => by omega⟩
section
variable {p : Pat}
theorem clk_exists (hg : Good p) : ∀ {q : Nat} {k : Int}, PtOk p (q, k) → ∃ c, IsClk p q k c := by
  obtain ⟨rk, _, hr, _⟩ := hg.rank
  have main : ∀ (f : Nat) (q : Nat) (k : Int), rk q k < f → PtOk p (q, k) → ∃ c, IsClk p q k c := by
    intro f
    induction f with
    | zero => intro q k h; omega
    | succ f ih =>
      intro q k hf hpt
      obtain ⟨hq, hk0, hkl⟩ := hpt
      simp only at hq hk0 hkl
      by_cases h0 : k = 0
      · subst h0; exact ⟨_, clk_zero hg hq⟩
      · have hrk : rk q (k - 1) < f := by
          have := hr.1 q hq (k - 1) (by omega) (by omega)
          rw [show k - 1 + 1 = k by omega] at this; omega
        obtain ⟨c, hc⟩ := ih q (k - 1) hrk ⟨hq, by simp only; omega, by simp only; omega⟩
        cases hsrc : srcF p.arcs ((q : Int), k) with
        | none => exact ⟨_, clk_step hg hq (by omega) hkl hc (srcF_none hsrc h0)⟩
        | some s =>
          obtain ⟨a, ha, hto, hat, _, rfl⟩ := srcF_some hsrc
          have ho := hg.arc a ha
          have h1 := hr.2 a ha (by rw [hat]; exact h0)
          rw [hto, hat] at h1
          obtain ⟨d, hd⟩ := ih a.fr a.ix (by omega) ⟨ho.fr, ho.ix0, ho.ix1⟩
          exact ⟨_, clk_recv hg hr ha hto hat (by omega) hc hd⟩
  intro q k h
  exact main (rk q k + 1) q k (by omega) h
/-- the cut of extended checkpoints -/
def ckCut (p : Pat) (xs : List Int) : List Int := (List.range p.len.length).map fun q => ckIx p q (nth xs q)
theorem ckCut_nth {xs : List Int} {q : Nat} (hq : q < p.len.length) : nth (ckCut p xs) q = ckIx p q (nth xs q) := by rw [ckCut, nth_map_range, if_pos hq]
theorem ckCut_length (xs : List Int) : (ckCut p xs).length = p.len.length := by simp [ckCut]
theorem ckCut_valid (hg : Good p) {xs : List Int} (ha : ∀ q, q < p.len.length → CkOk p (q, nth xs q)) : validB p.len (ckCut p xs) = true :=
  valid_iff.2 ⟨ckCut_length xs, fun q hq => by rw [ckCut_nth hq]; exact (ckIx_ok hg (ha q hq)).2⟩
theorem glob_cons (hg : Good p) {xs : List Int} (ha : ∀ q, q < p.len.length → CkOk p (q, nth xs q)) : IsGlobal p xs ↔ consB p.arcs (ckCut p xs) = true := by
  have hv := ckCut_valid hg ha
  constructor
  · intro h
    refine cons_iff.2 fun a hm h0 h1 => ?_
    have ho := hg.arc a hm
    obtain ⟨c, hc⟩ := clk_exists hg (ckIx_ok hg (ha a.to ho.to))
    simp only at hc
    have h2 := cons_iff.1 hc.s a hm h0 (by rw [hc.e]; rw [ckCut_nth ho.to] at h1; exact h1)
    have h3 := h a.to ho.to c hc a.fr ho.fr ho.ne
    rw [nth_vecN ho.fr, below_ck hg ho.fr ((valid_iff.1 hc.v).2 a.fr ho.fr).2 (ha a.fr ho.fr).2.1] at h3
    simp only at h3
    rw [ckCut_nth ho.fr]; omega
  · intro h q hq c hc s hs hne
    have h1 := hc.l _ hv h (by rw [ckCut_nth hq]; exact Int.le_refl _) s hs
    rw [ckCut_nth hs] at h1
    rw [nth_vecN hs, below_ck hg hs ((valid_iff.1 hc.v).2 s hs).2 (ha s hs).2.1]
    exact h1
/-- two lists of one length with equal elements -/
theorem ext_nth {n : Nat} {xs ys : List Int} (hx : xs.length = n) (hy : ys.length = n) (h : ∀ k, k < n → nth xs k = nth ys k) : xs = ys :=
  le_antisymm hx hy (fun k hk => by rw [h k hk]; exact Int.le_refl _) (fun k hk => by rw [h k hk]; exact Int.le_refl _)
theorem vec_zero (hg : Good p) {q : Nat} (hq : q < p.len.length) {c : List Int} (hc : IsClk p q 0 c) : vecN p c = List.replicate p.len.length 0 := by
  rw [hc.unique (clk_zero hg hq)]
  refine ext_nth (n := p.len.length) (vecN_length _ _) (by simp) (fun k hk => ?_)
  rw [nth_vecN hk, nth_rep]
  have := below_ck hg hk (hg.lo k hk) (Int.le_refl 0)
  obtain ⟨r, hr⟩ := (hg.row k hk).head
  have hb : below (rowOf p.ck k) 0 = 0 := by
    rw [below, List.length_eq_zero_iff, List.filter_eq_nil_iff]
    intro x hx
    have := (hg.row k hk).nonneg x hx
    simp; omega
  rw [hb]; rfl
theorem vec_step (hg : Good p) {q : Nat} {k : Int} (hq : q < p.len.length) (hk : 1 ≤ k) (hk' : k ≤ nth p.len q) {c c' : List Int} (h : IsClk p q (k - 1) c) (h' : IsClk p q k c') (hn : ∀ a ∈ p.arcs, a.to = q → a.at_ ≠ k) : vecN p c' = (vecN p c).set q (below (rowOf p.ck q) k : Int) := by
  rw [h'.unique (clk_step hg hq hk hk' h hn)]
  refine ext_nth (n := p.len.length) (vecN_length _ _) (by simp [vecN_length]) (fun s hs => ?_)
  rw [nth_vecN hs, nth_set (by rw [h.len]; exact hq), nth_set (by rw [vecN_length]; exact hq)]
  split
  · rename_i e; subst e; rfl
  · rw [nth_vecN hs]
theorem vec_recv (hg : Good p) {q : Nat} {k : Int} (hk : 1 ≤ k) {c c' d : List Int} {a : Arc} (ha : a ∈ p.arcs) (hto : a.to = q) (hat : a.at_ = k) (h : IsClk p q (k - 1) c) (h' : IsClk p q k c') (hd : IsClk p a.fr a.ix d) : vecN p c' = (zipI max (vecN p c) (vecN p d)).set q (below (rowOf p.ck q) k : Int) := by
  obtain ⟨rk, _, hr, _⟩ := hg.rank
  have hq : q < p.len.length := by rw [← hto]; exact (hg.arc a ha).to
  have hcd : c.length = d.length := by rw [h.len, hd.len]
  have hvl : (vecN p c).length = (vecN p d).length := by rw [vecN_length, vecN_length]
  have hz : zipI max c d = List.zipWith max c d := by simp [zipI, hcd]
  rw [h'.unique (clk_recv hg hr ha hto hat hk h hd), ← hz]
  refine ext_nth (n := p.len.length) (vecN_length _ _) (by simp [zipI_len hvl, vecN_length]) (fun s hs => ?_)
  rw [nth_vecN hs, nth_set (by rw [zipI_len hcd, hd.len]; exact hq), nth_set (by rw [zipI_len hvl, vecN_length]; exact hq)]
  split
  · rename_i e; subst e; rfl
  · rw [zipI_nth hcd (by rw [hd.len]; exact hs), zipI_nth hvl (by rw [vecN_length]; exact hs), nth_vecN hs, nth_vecN hs, below_max']
theorem vec_most (hg : Good p) {q : Nat} {k : Int} (hq : q < p.len.length) {c c' : List Int} (h : IsClk p q (k - 1) c) (h' : IsClk p q k c') : mostB (vecN p c) (vecN p c') = true := by
  refine most_iff.2 ⟨by rw [vecN_length, vecN_length], fun s hs => ?_⟩
  rw [vecN_length] at hs
  rw [nth_vecN hs, nth_vecN hs]
  have := below_mono' (rowOf p.ck s) (h.l c' h'.v h'.s (by rw [h'.e]; omega) s hs)
  omega
/-- x is p with more behind it -/
structure Longer (p x : Pat) : Prop where
  n : x.len.length = p.len.length
  len : ∀ q, q < p.len.length → nth p.len q ≤ nth x.len q
  old : ∀ a ∈ p.arcs, a ∈ x.arcs
  new : ∀ a ∈ x.arcs, a ∈ p.arcs ∨ (a.at_ = 0 ∨ nth p.len a.to < a.at_)
  ck : ∀ q, q < p.len.length → ∀ y, y ≤ nth p.len q → below (rowOf x.ck q) y = below (rowOf p.ck q) y
theorem clk_longer {x : Pat} (hg : Good p) (hx : Good x) (hl : Longer p x) {q : Nat} {k : Int} (hq : q < p.len.length) (hk' : k ≤ nth p.len q) {c : List Int} (h : IsClk p q k c) : IsClk x q k c := by
  obtain ⟨h1, h2⟩ := valid_iff.1 h.v
  refine ⟨valid_iff.2 ⟨by rw [h1, hl.n], fun r hr => ?_⟩, cons_iff.2 fun a ha h0 hle => ?_, h.e, fun z hz hc hzk r hr => ?_⟩
  · rw [hl.n] at hr
    have := h2 r hr
    have := hl.len r hr
    omega
  · rcases hl.new a ha with h3 | h3 | h3
    · exact cons_iff.1 h.s a h3 h0 hle
    · omega
    · have ho := hx.arc a ha
      have := h2 a.to (by rw [← hl.n]; exact ho.to)
      omega
  · rw [hl.n] at hr
    obtain ⟨z1, z2⟩ := valid_iff.1 hz
    have hzl : z.length = p.len.length := by rw [z1, hl.n]
    have hmn : ∀ s, s < p.len.length → nth (zipI min z p.len) s = min (nth z s) (nth p.len s) := fun s hs => zipI_nth hzl hs
    have hv : validB p.len (zipI min z p.len) = true := valid_iff.2 ⟨zipI_len hzl, fun s hs => by
      rw [hmn s hs]
      have := (z2 s (by rw [hl.n]; exact hs)).1
      have := hg.lo s hs
      omega⟩
    have hcm : consB p.arcs (zipI min z p.len) = true := cons_iff.2 fun a ha h0 hle => by
      have ho := hg.arc a ha
      rw [hmn _ ho.to] at hle
      rw [hmn _ ho.fr]
      have := cons_iff.1 hc a (hl.old a ha) h0 (by omega)
      have := ho.ix1
      omega
    have := h.l _ hv hcm (by rw [hmn q hq]; omega) r hr
    rw [hmn r hr] at this
    omega
theorem vec_longer {x : Pat} (hg : Good p) (hx : Good x) (hl : Longer p x) {q : Nat} {k : Int} (hq : q < p.len.length) (hk' : k ≤ nth p.len q) {c d : List Int} (h : IsClk p q k c) (h' : IsClk x q k d) : vecN p c = vecN x d := by
  rw [h'.unique (clk_longer hg hx hl hq hk' h)]
  refine ext_nth (n := p.len.length) (vecN_length _ _) (by rw [vecN_length, hl.n]) (fun s hs => ?_)
  rw [nth_vecN hs, nth_vecN (by rw [hl.n]; exact hs), hl.ck s hs _ ((valid_iff.1 h.v).2 s hs).2]
end
end Go.Proofs.Ytkflmichekpfbaa

