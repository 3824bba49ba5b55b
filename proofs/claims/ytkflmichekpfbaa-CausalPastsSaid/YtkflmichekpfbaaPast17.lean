/- rollbacknetref17.Past, rollbacknetref20.SamePoints. Conditions: the pattern is good and lies in memory, the points are points of it. -/
import Derived.Test.YtkflmichekpfbaaClk17
import Derived.Test.YtkflmichekpfbaaCausF
import Derived.Test.YtkflmichekpfbaaTop17
namespace Go.Proofs.Ytkflmichekpfbaa
open Go.RowKit
set_option linter.unusedVariables false
set_option linter.unusedSimpArgs false
set_option linter.unusedSectionVars false

set_option maxRecDepth 100000 in
set_option maxHeartbeats 3200000 in
theorem rpast_any {S T : Nat → Prop} (v : PV) (p : Pat) (X : Option Addr) (cx : Nat) (l : List (Nat × Int)) (w0 : World) (hp : PatAt S w0 v p) (hg : Good p) (hx : RPt T w0 X l) (hl : ∀ a ∈ l, PtOk p a) (hll : l.length ≤ 1000000) :
    Calls Try.prog 42 #[v.val p, .slice X l.length cx] w0 fun e w' => ∃ zs, IsPast p l zs ∧ RetRow w0 3 1 p.len.length (ints zs) e w' := by
  have hS := St.start w0 NoM
  have hn5 := hg.n5
  have hn2 := hg.n2
  have HP := Lib.hid (And.intro hp (And.intro hg hl))
  clear hp hg hl
  obtain ⟨A1, c1, A2, c2, A3, c3⟩ := v
  simp only [PV.val] at *
  go_enter Try.func42, Try.ntmps42
  go_wp2_with (first | (refine oL ?_; (first | refine sL1 hS rfl rfl rfl ?_ | refine sL2 hS rfl rfl rfl ?_ | refine sL3 hS rfl rfl ?_ | refine sL4 hS rfl rfl ?_ | refine sL5 hS rfl rfl ?_ | refine sL6 hS rfl rfl ?_ | refine sL7 hS rfl rfl ?_)) | ((first | (refine oB ?_; first | refine sB1 hS rfl rfl ?_ | refine sB2 hS rfl rfl ?_) | refine sM1 hS rfl rfl rfl ?_); clear hS; first | ((fail_if_success guard_hyp g1); intro g1 w hS) | ((fail_if_success guard_hyp g2); intro g2 w hS) | ((fail_if_success guard_hyp g3); intro g3 w hS) | fail) | fail)
  go_loopw [5, 6] (fun s5 s6 wr => ∃ (j : Nat) (zs : List Int) (L : Option Addr) (cl : Nat), j ≤ l.length ∧ s6 = .int .i64 j ∧ s5 = .slice L p.len.length cl ∧ Hid (zs.length = p.len.length ∧ IsPast p (l.take j) zs) ∧ St w0 NoM [row (.slice L p.len.length cl) 3 1 p.len.length (ints zs), blk g1 [.slice A1 p.len.length c1, .slice A2 p.ck.length c2, .slice A3 p.arcs.length c3] 28] wr) (fun _ s6 _ => l.length - (intOf s6).toNat)
  case atStart => exact ⟨0, List.replicate p.len.length 0, some ⟨g2, 0, none⟩, p.len.length, by omega, rfl, rfl, Lib.hid ⟨by simp, by rw [List.take_zero]; exact past_nil HP.out.2.1⟩, hS.re⟩
  case round =>
    obtain ⟨j, zs, L, cl, hj, rfl, rfl, HI, hS⟩ := hrel
    by_cases hlt : j < l.length
    · obtain ⟨b2, o2, rfl, _, hcs⟩ := hx.fcs hlt
      have ho := HP.out.2.2 _ (List.getElem_mem hlt)
      have HT := Lib.hid (List.take_succ_eq_append_getElem hlt)
      have HL := Lib.hid (fun a (ha : a ∈ l.take j) => (HP.out.2.2 a (List.mem_of_mem_take ha)).1)
      generalize l[j] = a at *
      obtain ⟨q, k⟩ := a
      simp only [ptCells] at *
      have hf0 := hcs 0 _ rfl
      have hf1 := hcs 1 _ rfl
      simp only [Nat.add_zero] at hf0
      have HO := Lib.hid ho
      clear hcs ho
      go_wp2_with (first | (refine oL ?_; (first | refine sL1 hS rfl rfl rfl ?_ | refine sL2 hS rfl rfl rfl ?_ | refine sL3 hS rfl rfl ?_ | refine sL4 hS rfl rfl ?_ | refine sL5 hS rfl rfl ?_ | refine sL6 hS rfl rfl ?_ | refine sL7 hS rfl rfl ?_)) | ((first | (refine oB ?_; first | refine sB1 hS rfl rfl ?_ | refine sB2 hS rfl rfl ?_) | refine sM1 hS rfl rfl rfl ?_); clear hS; first | ((fail_if_success guard_hyp g1); intro g1 w hS) | ((fail_if_success guard_hyp g2); intro g2 w hS) | ((fail_if_success guard_hyp g3); intro g3 w hS) | fail) | fail)
      refine dr_start0 []  hS (by kernel_rfl) rfl ?_; clear hS; intro w hS
      refine dM hS 0 rfl rfl rfl ?_
      (try simp only [Act.put, nA, nB, nC])
      first | refine dL1 hS 1 rfl rfl rfl rfl ?_ | refine dL2 hS 1 rfl rfl rfl rfl ?_ | refine dL3 hS 1 rfl rfl rfl ?_ | refine dL4 hS 1 rfl rfl rfl ?_ | refine dL5 hS 1 rfl rfl rfl ?_ | refine dL6 hS 1 rfl rfl rfl ?_ | refine dL7 hS 1 rfl rfl rfl ?_
      (try simp only [Act.put, nA, nB, nC])
      refine dM hS 2 rfl rfl rfl ?_
      (try simp only [Act.put, nA, nB, nC])
      refine dM hS 3 rfl rfl rfl ?_
      (try simp only [Act.put, nA, nB, nC])
      refine dP hS 4 rfl rfl ?_
      (try simp only [Act.put, nA, nB, nC])
      refine dP hS 5 rfl rfl ?_
      (try simp only [Act.put, nA, nB, nC])
      first | refine dL1 hS 6 rfl rfl rfl rfl ?_ | refine dL2 hS 6 rfl rfl rfl rfl ?_ | refine dL3 hS 6 rfl rfl rfl ?_ | refine dL4 hS 6 rfl rfl rfl ?_ | refine dL5 hS 6 rfl rfl rfl ?_ | refine dL6 hS 6 rfl rfl rfl ?_ | refine dL7 hS 6 rfl rfl rfl ?_
      (try simp only [Act.put, nA, nB, nC])
      refine dM hS 7 rfl rfl rfl ?_
      (try simp only [Act.put, nA, nB, nC])
      refine dM hS 8 rfl rfl rfl ?_
      (try simp only [Act.put, nA, nB, nC])
      refine dP hS 9 rfl rfl ?_
      (try simp only [Act.put, nA, nB, nC])
      refine dP hS 10 rfl rfl ?_
      (try simp only [Act.put, nA, nB, nC])
      first | refine dL1 hS 11 rfl rfl rfl rfl ?_ | refine dL2 hS 11 rfl rfl rfl rfl ?_ | refine dL3 hS 11 rfl rfl rfl ?_ | refine dL4 hS 11 rfl rfl rfl ?_ | refine dL5 hS 11 rfl rfl rfl ?_ | refine dL6 hS 11 rfl rfl rfl ?_ | refine dL7 hS 11 rfl rfl rfl ?_
      (try simp only [Act.put, nA, nB, nC])
      refine dr_one 12 (by kernel_rfl) rfl ?_
      (refine st_call rfl (by kernel_rfl) rfl ?_; go_at_call 21; refine (rclock_n rfl rfl rfl rfl (HP.out.1.ext hS.toExt) HP.out.2.1 HO.out).mono ?_; rintro e u2 ⟨L2, cap2, c, rfl, hclk, hcl, hri, hx1⟩; replace hS := hS.frozNew hx1; have HC := Lib.hid hclk; have HCL := Lib.hid hcl; clear hclk hcl)
      (try simp only [Act.put, nA, nB, nC])
      refine dr_end hS ?_
      refine dr_one 13 (by kernel_rfl) rfl ?_
      (refine st_call rfl (by kernel_rfl) rfl ?_; go_at_call 78; refine (top_any _ _ _ _ _ zs c _ hS.ri (hri.into hS.frozInto) HI.out.1 HCL.out (by omega) (by omega)).mono ?_; rintro e w ⟨L5, c5, rfl, ho, hx1⟩; replace hS := hS.addRow ho hx1; clear ho)
      (try simp only [Act.put, nA, nB, nC])
      refine dr_end hS ?_
      refine dA hS 14 rfl rfl rfl ?_
      (try simp only [Act.put, nA, nB, nC])
      refine dr_done (by kernel_rfl) ?_
      go_wp2_with (first | (refine oL ?_; (first | refine sL1 hS rfl rfl rfl ?_ | refine sL2 hS rfl rfl rfl ?_ | refine sL3 hS rfl rfl ?_ | refine sL4 hS rfl rfl ?_ | refine sL5 hS rfl rfl ?_ | refine sL6 hS rfl rfl ?_ | refine sL7 hS rfl rfl ?_)) | ((first | (refine oB ?_; first | refine sB1 hS rfl rfl ?_ | refine sB2 hS rfl rfl ?_) | refine sM1 hS rfl rfl rfl ?_); clear hS; first | ((fail_if_success guard_hyp g1); intro g1 w hS) | ((fail_if_success guard_hyp g2); intro g2 w hS) | ((fail_if_success guard_hyp g3); intro g3 w hS) | fail) | fail)
      go_roundw
      case measure => simp [intOf]; omega
      exact ⟨j + 1, List.zipWith max zs c, L5, c5, by omega, by go_num, rfl, Lib.hid ⟨by simp [HI.out.1, HCL.out], by rw [HT.out]; exact past_snoc HP.out.2.1 HL.out HO.out.1 HI.out.2 HC.out⟩, hS.re⟩
    · go_wp2_with (first | (refine oL ?_; (first | refine sL1 hS rfl rfl rfl ?_ | refine sL2 hS rfl rfl rfl ?_ | refine sL3 hS rfl rfl ?_ | refine sL4 hS rfl rfl ?_ | refine sL5 hS rfl rfl ?_ | refine sL6 hS rfl rfl ?_ | refine sL7 hS rfl rfl ?_)) | ((first | (refine oB ?_; first | refine sB1 hS rfl rfl ?_ | refine sB2 hS rfl rfl ?_) | refine sM1 hS rfl rfl rfl ?_); clear hS; first | ((fail_if_success guard_hyp g1); intro g1 w hS) | ((fail_if_success guard_hyp g2); intro g2 w hS) | ((fail_if_success guard_hyp g3); intro g3 w hS) | fail) | fail)
      go_ret
      have hi := HI.out.2
      rw [List.take_of_length_le (by omega)] at hi
      exact ⟨zs, hi, hS.ret rfl⟩
theorem rpast_n {S T : Nat → Prop} {A1 A2 A3 X : Option Addr} {c1 c2 c3 n1 n2 n3 n cx : Nat} {p : Pat} {l : List (Nat × Int)} {w : World} (e1 : p.len.length = n1) (e2 : p.ck.length = n2) (e3 : p.arcs.length = n3) (hn : l.length = n) (hp : PatAt S w ⟨A1, c1, A2, c2, A3, c3⟩ p) (hg : Good p) (hx : RPt T w X l) (hl : ∀ a ∈ l, PtOk p a) (hll : n ≤ 1000000) :
    Calls Try.prog 42 #[.agg #[.slice A1 n1 c1, .slice A2 n2 c2, .slice A3 n3 c3], .slice X n cx] w fun e w' => ∃ zs, IsPast p l zs ∧ zs.length = n1 ∧ RetRow w 3 1 n1 (ints zs) e w' := by
  subst e1 e2 e3 hn
  refine (rpast_any ⟨A1, c1, A2, c2, A3, c3⟩ p X cx l w hp hg hx hl hll).mono ?_
  rintro e w' ⟨zs, h1, h2⟩
  exact ⟨zs, h1, h1.len, h2⟩
set_option maxHeartbeats 1600000 in
/-- two equal lists of points are found the same -/
theorem samePts_eq {S T : Nat → Prop} (X Y : Option Addr) (c d : Nat) (l : List (Nat × Int)) (w0 : World) (hx : RPt S w0 X l) (hy : RPt T w0 Y l) (hl : l.length ≤ 1000000) :
    Calls Try.prog 43 #[.slice X l.length c, .slice Y l.length d] w0 fun e w' => e = .returned (.bool true) ∧ Ext w0 w' := by
  have hS := St.start w0 NoM
  have e2 : ((l.length : Int) != (l.length : Int)) = false := by simp
  go_enter Try.func43, Try.ntmps43
  go_wp2_with (fail)
  clear e2
  go_loopw [5] (fun i wr => ∃ k : Nat, k ≤ l.length ∧ i = .int .i64 k ∧ St w0 NoM [] wr) (fun i _ => l.length - (intOf i).toNat)
  case atStart => exact ⟨0, Nat.zero_le _, rfl, hS⟩
  case round =>
    obtain ⟨k, hk, rfl, hS⟩ := hrel
    by_cases hlt : k < l.length
    · obtain ⟨b1, o1, rfl, _, hca⟩ := hx.fcs hlt
      obtain ⟨b2, o2, rfl, _, hcb⟩ := hy.fcs hlt
      generalize l[k] = ar at *
      simp only [ptCells] at hca hcb
      go_wp2_with (fail)
      refine dr_start0 []  hS (by kernel_rfl) rfl ?_; clear hS; intro w hS
      refine dM hS 0 rfl rfl rfl ?_
      (try simp only [Act.put, nA, nB, nC])
      refine dM hS 1 rfl rfl rfl ?_
      (try simp only [Act.put, nA, nB, nC])
      refine dP hS 2 rfl rfl ?_
      (try simp only [Act.put, nA, nB, nC])
      first | refine dL1 hS 3 rfl rfl rfl rfl ?_ | refine dL2 hS 3 rfl rfl rfl rfl ?_ | refine dL3 hS 3 rfl rfl rfl ?_ | refine dL4 hS 3 rfl rfl rfl ?_ | refine dL5 hS 3 rfl rfl rfl ?_ | refine dL6 hS 3 rfl rfl rfl ?_ | refine dL7 hS 3 rfl rfl rfl ?_
      (try simp only [Act.put, nA, nB, nC])
      refine dM hS 4 rfl rfl rfl ?_
      (try simp only [Act.put, nA, nB, nC])
      refine dM hS 5 rfl rfl rfl ?_
      (try simp only [Act.put, nA, nB, nC])
      refine dP hS 6 rfl rfl ?_
      (try simp only [Act.put, nA, nB, nC])
      first | refine dL1 hS 7 rfl rfl rfl rfl ?_ | refine dL2 hS 7 rfl rfl rfl rfl ?_ | refine dL3 hS 7 rfl rfl rfl ?_ | refine dL4 hS 7 rfl rfl rfl ?_ | refine dL5 hS 7 rfl rfl rfl ?_ | refine dL6 hS 7 rfl rfl rfl ?_ | refine dL7 hS 7 rfl rfl rfl ?_
      (try simp only [Act.put, nA, nB, nC])
      refine dP hS 8 rfl rfl ?_
      (try simp only [Act.put, nA, nB, nC])
      refine dr_done (by kernel_rfl) ?_
      go_wp2_with (fail)
      go_roundw
      case rel => exact ⟨k + 1, by omega, by go_num, hS⟩
      case measure => simp [intOf]; omega
    · go_wp2_with (fail)
      go_ret
      exact ⟨rfl, hS.toExt⟩
end Go.Proofs.Ytkflmichekpfbaa
