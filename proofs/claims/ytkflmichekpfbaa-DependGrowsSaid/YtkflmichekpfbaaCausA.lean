/- causal: fits, raise, newHistory. Conditions: the pattern is good and lies in memory, the points are points of it. -/
import Derived.Test.YtkflmichekpfbaaMapP
import Derived.Test.YtkflmichekpfbaaClkPure
import Derived.Test.YtkflmichekpfbaaAppF
import Derived.Test.YtkflmichekpfbaaFrozPat
import Derived.Test.YtkflmichekpfbaaCutD
namespace Go.Proofs.Ytkflmichekpfbaa
open Go.RowKit
set_option linter.unusedVariables false
set_option linter.unusedSimpArgs false

def ptCells (a : Nat × Int) : List Value := [.int .i64 (a.1 : Int), .int .i64 a.2]
def repPt (w : World) (cs : List Value) (a : Nat × Int) : Prop := cs = ptCells a
def RPt (S : Nat → Prop) (w : World) (A : Option Addr) (l : List (Nat × Int)) : Prop := RL repPt 2 S w A l
theorem RPt.into {S S' : Nat → Prop} {w w' : World} {A : Option Addr} {l : List (Nat × Int)} (h : RPt S w A l) (k : Into S S' w w') : RPt S' w' A l := RL.into h k (fun _ _ h => h)
theorem RPt.fcs {S : Nat → Prop} {w : World} {A : Option Addr} {l : List (Nat × Int)} (h : RPt S w A l) {k : Nat} (hk : k < l.length) : ∃ b o, A = some ⟨b, o, none⟩ ∧ S b ∧ Cells w b (o + k * 2) (ptCells l[k]) := by
  obtain ⟨vs, hv, hr⟩ := h
  obtain ⟨cs, hcl, hcs, hat⟩ := hr.at_ hk
  unfold repPt at hcs
  subst hcs
  have h0 := hat 0 (by omega)
  obtain ⟨b, o, e, ht, _⟩ := hv (k * 2 + 0) _ (h0.trans (by simp [ptCells]; rfl))
  refine ⟨b, o, e, ht, fun i x hi => ?_⟩
  have hi2 : i < 2 := by
    have := (List.getElem?_eq_some_iff.1 hi).1
    simpa [ptCells] using this
  obtain ⟨b', o', e', _, hc⟩ := hv (k * 2 + i) x ((hat i hi2).trans hi)
  rw [e] at e'
  injection e' with e'; injection e' with e1 e2
  subst e1; subst e2
  rw [Nat.add_assoc]; exact hc
/-- a point of a pattern -/
abbrev PtOk (p : Pat) (a : Nat × Int) : Prop := a.1 < p.len.length ∧ 0 ≤ a.2 ∧ a.2 ≤ nth p.len a.1

set_option maxHeartbeats 1600000 in
theorem cfits_any {S T : Nat → Prop} (v : PV) (X : Option Addr) (c : Nat) (p : Pat) (l : List (Nat × Int)) (w0 : World) (hp : PatAt S w0 v p) (hg : Good p) (hx : RPt T w0 X l) (hv : ∀ a ∈ l, PtOk p a) (hll : l.length ≤ 1000000) :
    Calls Try.prog 62 #[v.val p, .slice X l.length c] w0 fun e w' => e = .returned (.bool true) ∧ Ext w0 w' := by
  have hS := St.start w0 NoM
  have hn5 := hg.n5
  have HP := Lib.hid (And.intro hp (And.intro hg hv))
  have h1 := hp.len
  clear hp hg hv
  obtain ⟨A1, c1, A2, c2, A3, c3⟩ := v
  simp only [PV.val] at *
  go_enter Try.func62, Try.ntmps62
  go_wp2_with (first | (go_at_call 80; refine (check_good ⟨A1, c1, A2, c2, A3, c3⟩ p _ (HP.out.1.ext hS.toExt) HP.out.2.1).mono ?_; rintro e w ⟨rfl, hx1⟩; replace hS := hS.ext hx1) | (refine oL ?_; (first | refine sL1 hS rfl rfl rfl ?_ | refine sL2 hS rfl rfl rfl ?_ | refine sL3 hS rfl rfl ?_ | refine sL4 hS rfl rfl ?_ | refine sL5 hS rfl rfl ?_ | refine sL6 hS rfl rfl ?_ | refine sL7 hS rfl rfl ?_)) | (refine oS ?_; ((first | refine sS1 hS rfl rfl rfl ?_ | refine sS2 hS rfl rfl rfl ?_ | refine sS3 hS rfl rfl rfl ?_ | refine sS4 hS rfl rfl rfl ?_ | refine sS5 hS rfl rfl rfl ?_); clear hS; intro w hS)) | ((first | (refine oB ?_; first | refine sB1 hS rfl rfl ?_ | refine sB2 hS rfl rfl ?_) | refine sN1 hS rfl ?_); clear hS; first | ((fail_if_success guard_hyp g1); intro g1 w hS) | ((fail_if_success guard_hyp g2); intro g2 w hS) | ((fail_if_success guard_hyp g3); intro g3 w hS) | fail) | fail)
  go_loopw [12] (fun i wr => ∃ k : Nat, k ≤ l.length ∧ i = .int .i64 k ∧ St w0 NoM [blk g1 [.slice A1 p.len.length c1, .slice A2 p.ck.length c2, .slice A3 p.arcs.length c3] 28] wr) (fun i _ => l.length - (intOf i).toNat)
  case atStart => exact ⟨0, Nat.zero_le _, rfl, hS⟩
  case round =>
    obtain ⟨k, hk, rfl, hS⟩ := hrel
    by_cases hlt : k < l.length
    · obtain ⟨b2, o2, rfl, _, hcs⟩ := hx.fcs hlt
      have ho := HP.out.2.2 _ (List.getElem_mem hlt)
      generalize l[k] = a at *
      obtain ⟨q, ix⟩ := a
      obtain ⟨hq, hi0, hi1⟩ := ho
      simp only [ptCells] at *
      obtain ⟨b1, o1, rfl, _, hca⟩ := h1.atNS hq
      generalize nth p.len q = m at *
      have hq' : (q : Int) < p.len.length := by omega
      have d1 : decide ((p.len.length : Int) ≤ (q : Int)) = false := by simp; omega
      have d1' : decide (p.len.length ≤ q) = false := by simp; omega
      have d2 : decide (ix < 0) = false := by simp; omega
      have d3 : decide (m < ix) = false := by simp; omega
      go_wp2_with (first | (refine oL ?_; (first | refine sL1 hS rfl rfl rfl ?_ | refine sL2 hS rfl rfl rfl ?_ | refine sL3 hS rfl rfl ?_ | refine sL4 hS rfl rfl ?_ | refine sL5 hS rfl rfl ?_ | refine sL6 hS rfl rfl ?_ | refine sL7 hS rfl rfl ?_)) | (refine oS ?_; ((first | refine sS1 hS rfl rfl rfl ?_ | refine sS2 hS rfl rfl rfl ?_ | refine sS3 hS rfl rfl rfl ?_ | refine sS4 hS rfl rfl rfl ?_ | refine sS5 hS rfl rfl rfl ?_); clear hS; intro w hS)) | ((first | (refine oB ?_; first | refine sB1 hS rfl rfl ?_ | refine sB2 hS rfl rfl ?_) | refine sN1 hS rfl ?_); clear hS; first | ((fail_if_success guard_hyp g1); intro g1 w hS) | ((fail_if_success guard_hyp g2); intro g2 w hS) | ((fail_if_success guard_hyp g3); intro g3 w hS) | fail) | fail)
      refine dr_start0 []  hS (by kernel_rfl) rfl ?_; clear hS; intro w hS
      refine dP hS 0 rfl rfl ?_
      (try simp only [Act.put, nA, nB, nC])
      first | refine dL1 hS 1 rfl rfl rfl rfl ?_ | refine dL2 hS 1 rfl rfl rfl rfl ?_ | refine dL3 hS 1 rfl rfl rfl ?_ | refine dL4 hS 1 rfl rfl rfl ?_ | refine dL5 hS 1 rfl rfl rfl ?_ | refine dL6 hS 1 rfl rfl rfl ?_ | refine dL7 hS 1 rfl rfl rfl ?_
      (try simp only [Act.put, nA, nB, nC])
      refine dP hS 2 rfl rfl ?_
      (try simp only [Act.put, nA, nB, nC])
      refine dM hS 3 rfl rfl rfl ?_
      (try simp only [Act.put, nA, nB, nC])
      first | refine dP hS 4 rfl rfl ?_ | refine dQ hS 4 rfl rfl ?_
      (try simp only [Act.put, nA, nB, nC])
      first | refine dL1 hS 5 rfl rfl rfl rfl ?_ | refine dL2 hS 5 rfl rfl rfl rfl ?_ | refine dL3 hS 5 rfl rfl rfl ?_ | refine dL4 hS 5 rfl rfl rfl ?_ | refine dL5 hS 5 rfl rfl rfl ?_ | refine dL6 hS 5 rfl rfl rfl ?_ | refine dL7 hS 5 rfl rfl rfl ?_ | refine dQ hS 5 rfl rfl ?_
      (try simp only [Act.put, nA, nB, nC])
      first | refine dP hS 6 rfl rfl ?_ | refine dQ hS 6 rfl rfl ?_
      (try simp only [Act.put, nA, nB, nC])
      first | refine dL1 hS 7 rfl rfl rfl rfl ?_ | refine dL2 hS 7 rfl rfl rfl rfl ?_ | refine dL3 hS 7 rfl rfl rfl ?_ | refine dL4 hS 7 rfl rfl rfl ?_ | refine dL5 hS 7 rfl rfl rfl ?_ | refine dL6 hS 7 rfl rfl rfl ?_ | refine dL7 hS 7 rfl rfl rfl ?_ | refine dQ hS 7 rfl rfl ?_
      (try simp only [Act.put, nA, nB, nC])
      first | refine dP hS 8 rfl rfl ?_ | refine dQ hS 8 rfl rfl ?_
      (try simp only [Act.put, nA, nB, nC])
      first | refine dP hS 9 rfl rfl ?_ | refine dQ hS 9 rfl rfl ?_
      (try simp only [Act.put, nA, nB, nC])
      refine dP hS 10 rfl rfl ?_
      (try simp only [Act.put, nA, nB, nC])
      refine dM hS 11 rfl rfl rfl ?_
      (try simp only [Act.put, nA, nB, nC])
      first | refine dP hS 12 rfl rfl ?_ | refine dQ hS 12 rfl rfl ?_
      (try simp only [Act.put, nA, nB, nC])
      first | refine dL1 hS 13 rfl rfl rfl rfl ?_ | refine dL2 hS 13 rfl rfl rfl rfl ?_ | refine dL3 hS 13 rfl rfl rfl ?_ | refine dL4 hS 13 rfl rfl rfl ?_ | refine dL5 hS 13 rfl rfl rfl ?_ | refine dL6 hS 13 rfl rfl rfl ?_ | refine dL7 hS 13 rfl rfl rfl ?_ | refine dQ hS 13 rfl rfl ?_
      (try simp only [Act.put, nA, nB, nC])
      first | refine dP hS 14 rfl rfl ?_ | refine dQ hS 14 rfl rfl ?_
      (try simp only [Act.put, nA, nB, nC])
      refine dP hS 15 rfl rfl ?_
      (try simp only [Act.put, nA, nB, nC])
      refine dM hS 16 rfl rfl rfl ?_
      (try simp only [Act.put, nA, nB, nC])
      first | refine dP hS 17 rfl rfl ?_ | refine dQ hS 17 rfl rfl ?_
      (try simp only [Act.put, nA, nB, nC])
      first | refine dL1 hS 18 rfl rfl rfl rfl ?_ | refine dL2 hS 18 rfl rfl rfl rfl ?_ | refine dL3 hS 18 rfl rfl rfl ?_ | refine dL4 hS 18 rfl rfl rfl ?_ | refine dL5 hS 18 rfl rfl rfl ?_ | refine dL6 hS 18 rfl rfl rfl ?_ | refine dL7 hS 18 rfl rfl rfl ?_ | refine dQ hS 18 rfl rfl ?_
      (try simp only [Act.put, nA, nB, nC])
      first | refine dP hS 19 rfl rfl ?_ | refine dQ hS 19 rfl rfl ?_
      (try simp only [Act.put, nA, nB, nC])
      first | refine dL1 hS 20 rfl rfl rfl rfl ?_ | refine dL2 hS 20 rfl rfl rfl rfl ?_ | refine dL3 hS 20 rfl rfl rfl ?_ | refine dL4 hS 20 rfl rfl rfl ?_ | refine dL5 hS 20 rfl rfl rfl ?_ | refine dL6 hS 20 rfl rfl rfl ?_ | refine dL7 hS 20 rfl rfl rfl ?_ | refine dQ hS 20 rfl rfl ?_
      (try simp only [Act.put, nA, nB, nC])
      first | refine dP hS 21 rfl rfl ?_ | refine dQ hS 21 rfl rfl ?_
      (try simp only [Act.put, nA, nB, nC])
      first | refine dL1 hS 22 rfl rfl rfl rfl ?_ | refine dL2 hS 22 rfl rfl rfl rfl ?_ | refine dL3 hS 22 rfl rfl rfl ?_ | refine dL4 hS 22 rfl rfl rfl ?_ | refine dL5 hS 22 rfl rfl rfl ?_ | refine dL6 hS 22 rfl rfl rfl ?_ | refine dL7 hS 22 rfl rfl rfl ?_ | refine dQ hS 22 rfl rfl ?_
      (try simp only [Act.put, nA, nB, nC])
      first | refine dP hS 23 rfl rfl ?_ | refine dQ hS 23 rfl rfl ?_
      (try simp only [Act.put, nA, nB, nC])
      first | refine dL1 hS 24 rfl rfl rfl rfl ?_ | refine dL2 hS 24 rfl rfl rfl rfl ?_ | refine dL3 hS 24 rfl rfl rfl ?_ | refine dL4 hS 24 rfl rfl rfl ?_ | refine dL5 hS 24 rfl rfl rfl ?_ | refine dL6 hS 24 rfl rfl rfl ?_ | refine dL7 hS 24 rfl rfl rfl ?_ | refine dQ hS 24 rfl rfl ?_
      (try simp only [Act.put, nA, nB, nC])
      first | refine dP hS 25 rfl rfl ?_ | refine dQ hS 25 rfl rfl ?_
      (try simp only [Act.put, nA, nB, nC])
      refine dP hS 26 rfl rfl ?_
      (try simp only [Act.put, nA, nB, nC])
      refine dr_done (by kernel_rfl) ?_
      go_wp2_with (first | (refine oL ?_; (first | refine sL1 hS rfl rfl rfl ?_ | refine sL2 hS rfl rfl rfl ?_ | refine sL3 hS rfl rfl ?_ | refine sL4 hS rfl rfl ?_ | refine sL5 hS rfl rfl ?_ | refine sL6 hS rfl rfl ?_ | refine sL7 hS rfl rfl ?_)) | (refine oS ?_; ((first | refine sS1 hS rfl rfl rfl ?_ | refine sS2 hS rfl rfl rfl ?_ | refine sS3 hS rfl rfl rfl ?_ | refine sS4 hS rfl rfl rfl ?_ | refine sS5 hS rfl rfl rfl ?_); clear hS; intro w hS)) | ((first | (refine oB ?_; first | refine sB1 hS rfl rfl ?_ | refine sB2 hS rfl rfl ?_) | refine sN1 hS rfl ?_); clear hS; first | ((fail_if_success guard_hyp g1); intro g1 w hS) | ((fail_if_success guard_hyp g2); intro g2 w hS) | ((fail_if_success guard_hyp g3); intro g3 w hS) | fail) | fail)
      go_roundw
      case measure => simp [intOf]; omega
      exact ⟨k + 1, by omega, by go_num, hS.re⟩
    · go_wp2_with (first | (refine oL ?_; (first | refine sL1 hS rfl rfl rfl ?_ | refine sL2 hS rfl rfl rfl ?_ | refine sL3 hS rfl rfl ?_ | refine sL4 hS rfl rfl ?_ | refine sL5 hS rfl rfl ?_ | refine sL6 hS rfl rfl ?_ | refine sL7 hS rfl rfl ?_)) | (refine oS ?_; ((first | refine sS1 hS rfl rfl rfl ?_ | refine sS2 hS rfl rfl rfl ?_ | refine sS3 hS rfl rfl rfl ?_ | refine sS4 hS rfl rfl rfl ?_ | refine sS5 hS rfl rfl rfl ?_); clear hS; intro w hS)) | ((first | (refine oB ?_; first | refine sB1 hS rfl rfl ?_ | refine sB2 hS rfl rfl ?_) | refine sN1 hS rfl ?_); clear hS; first | ((fail_if_success guard_hyp g1); intro g1 w hS) | ((fail_if_success guard_hyp g2); intro g2 w hS) | ((fail_if_success guard_hyp g3); intro g3 w hS) | fail) | fail)
      go_ret
      exact ⟨rfl, hS.toExt⟩

/-- the state at the entry of a function that writes a row of its caller -/
theorem St.startRow {w : World} {e : TypeId} {sz n g c : Nat} {vs : List Value} (h : w.ownsRow 0 e sz (.slice (some ⟨g, 0, none⟩) n c) n vs) : St w (fun k => k = g) [row (.slice (some ⟨g, 0, none⟩) n c) e sz n vs] w := by
  refine ⟨Keep.refl _ _, ?_, ?_, by simp⟩
  · intro c hc
    rw [List.mem_singleton.1 hc]; exact h
  · intro c hc k hk
    rw [List.mem_singleton.1 hc] at hk
    injection hk with hk
    exact .inr hk.symm
theorem max_fill {cs ds : List Int} (hl : ds.length = cs.length) {k : Nat} (hk : k < cs.length) :
    ((List.zipWith max cs ds).take k ++ cs.drop k).set k (max (nth cs k) (nth ds k)) = (List.zipWith max cs ds).take (k + 1) ++ cs.drop (k + 1) := by
  have hlt : ((List.zipWith max cs ds).take k).length = k := by simp; omega
  rw [zipWith_take_succ max hk (by omega), List.append_assoc, List.set_append_right _ _ (by omega), hlt, Nat.sub_self, List.drop_eq_getElem_cons hk, List.set_cons_zero]
  rfl
theorem max_fill_at {cs ds : List Int} (hl : ds.length = cs.length) {k : Nat} (hk : k < cs.length) : (ints ((List.zipWith max cs ds).take k ++ cs.drop k))[k]? = some (.int .i64 (nth cs k)) := by
  have hlt : ((List.zipWith max cs ds).take k).length = k := by simp; omega
  rw [ints, List.getElem?_map, List.getElem?_append_right (by omega), hlt, Nat.sub_self, List.getElem?_drop, Nat.add_zero, List.getElem?_eq_getElem hk, nth_eq hk]
  rfl
set_option maxHeartbeats 1600000 in
theorem raise_row {S : Nat → Prop} (g cp cd : Nat) (D : Option Addr) (cs ds : List Int) (w0 : World) (ho : w0.ownsRow 0 3 1 (.slice (some ⟨g, 0, none⟩) cs.length cp) cs.length (ints cs)) (hd : RI S w0 D ds) (hS0 : ∀ k, S k → k ≠ g) (hl : ds.length = cs.length) (hn : cs.length ≤ 1000) :
    Calls Try.prog 67 #[.slice (some ⟨g, 0, none⟩) cs.length cp, .slice D cs.length cd] w0 fun e w' => e = .returned (.tuple #[]) ∧ Keep (fun k => ¬ k = g) w0 w' ∧ w'.ownsRow 0 3 1 (.slice (some ⟨g, 0, none⟩) cs.length cp) cs.length (ints (List.zipWith max cs ds)) := by
  have hS := St.startRow ho
  have HL := Lib.hid hl
  clear hl ho
  go_enter Try.func67, Try.ntmps67
  go_wp2_with (fail)
  go_loopw [7] (fun s7 wr => ∃ (k : Nat) (zs : List Int), k ≤ cs.length ∧ zs.length = cs.length ∧ Hid (zs = (List.zipWith max cs ds).take k ++ cs.drop k) ∧ s7 = .int .i64 k ∧ St w0 (fun k => k = g) [row (.slice (some ⟨g, 0, none⟩) cs.length cp) 3 1 cs.length (ints zs)] wr) (fun s7 _ => cs.length - (intOf s7).toNat)
  case atStart => exact ⟨0, cs, by omega, rfl, Lib.hid (by simp), rfl, hS⟩
  case round =>
    obtain ⟨k, zs, hk, hzl, HZ, rfl, hS⟩ := hrel
    by_cases hlt : k < cs.length
    · obtain ⟨b2, o2, rfl, hsb, hcb⟩ := hd.atNS (k := k) (by rw [HL.out]; exact hlt)
      have hbg := hS0 b2 hsb
      have HF := Lib.hid (max_fill HL.out hlt)
      have hcell := max_fill_at HL.out hlt
      rw [← HZ.out] at hcell
      clear hS0 hsb
      generalize nth cs k = y at *
      generalize nth ds k = m at *
      by_cases h0 : y < m
      all_goals
        go_wp2_with (fail)
        refine dr_start0 [12]  hS (by kernel_rfl) rfl ?_; clear hS; intro w hS
        refine dM hS 0 rfl rfl rfl ?_
        (try simp only [Act.put, nA, nB, nC])
        refine dM hS 1 rfl rfl rfl ?_
        (try simp only [Act.put, nA, nB, nC])
        refine dM hS 2 rfl rfl rfl ?_
        (try simp only [Act.put, nA, nB, nC])
        refine dM hS 3 rfl rfl rfl ?_
        (try simp only [Act.put, nA, nB, nC])
        refine dP hS 4 rfl rfl ?_
        (try simp only [Act.put, nA, nB, nC])
        first | refine dL1 hS 5 rfl rfl rfl rfl ?_ | refine dL2 hS 5 rfl rfl rfl rfl ?_ | refine dL3 hS 5 rfl rfl rfl ?_ | refine dL4 hS 5 rfl rfl rfl ?_ | refine dL5 hS 5 rfl rfl rfl ?_ | refine dL6 hS 5 rfl rfl rfl ?_ | refine dL7 hS 5 rfl rfl rfl ?_
        (try simp only [Act.put, nA, nB, nC])
        refine dM hS 6 rfl rfl rfl ?_
        (try simp only [Act.put, nA, nB, nC])
        refine dM hS 7 rfl rfl rfl ?_
        (try simp only [Act.put, nA, nB, nC])
        refine dP hS 8 rfl rfl ?_
        (try simp only [Act.put, nA, nB, nC])
        first | refine dL1 hS 9 rfl rfl rfl rfl ?_ | refine dL2 hS 9 rfl rfl rfl rfl ?_ | refine dL3 hS 9 rfl rfl rfl ?_ | refine dL4 hS 9 rfl rfl rfl ?_ | refine dL5 hS 9 rfl rfl rfl ?_ | refine dL6 hS 9 rfl rfl rfl ?_ | refine dL7 hS 9 rfl rfl rfl ?_
        (try simp only [Act.put, nA, nB, nC])
        refine dP hS 10 rfl rfl ?_
        (try simp only [Act.put, nA, nB, nC])
        refine dP hS 11 rfl rfl ?_
        (try simp only [Act.put, nA, nB, nC])
        refine dr_one 12 (by kernel_rfl) rfl ?_
        ((first | refine sS1 hS rfl rfl rfl ?_ | refine sS2 hS rfl rfl rfl ?_ | refine sS3 hS rfl rfl rfl ?_ | refine sS4 hS rfl rfl rfl ?_ | refine sS5 hS rfl rfl rfl ?_); clear hS; intro w hS)
        (try simp only [Act.put, nA, nB, nC])
        refine dr_late (by kernel_rfl) ?_
        refine dr_done (by kernel_rfl) ?_
        go_wp2_with (fail)
        go_roundw
        case measure => simp [intOf]; omega
        refine ⟨k + 1, _, by omega, by simp [hzl], Lib.hid ?_, by go_num, hS⟩
        rw [← HF.out, HZ.out]
        congr 1
        first | rfl | omega
    · go_wp2_with (fail)
      go_end0
      have hz := HZ.out
      rw [List.take_of_length_le (by simp; omega), List.drop_of_length_le (by omega), List.append_nil] at hz
      subst hz
      exact ⟨rfl, hS.keep, hS.rowOk⟩
end Go.Proofs.Ytkflmichekpfbaa
