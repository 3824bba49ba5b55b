/- rollbacknetref19: Index, Intervals, Vector, Ckpt; depend.Ckpt. Conditions: the pattern is good and lies in memory, the numbers are in range. -/
import Derived.Test.YtkflmichekpfbaaClk17
import Derived.Test.YtkflmichekpfbaaGg
namespace Go.Proofs.Ytkflmichekpfbaa
open Go.RowKit
set_option linter.unusedVariables false
set_option linter.unusedSimpArgs false
set_option linter.unusedSectionVars false

set_option maxRecDepth 100000 in
set_option maxHeartbeats 1600000 in
theorem rindex_any {S : Nat → Prop} (v : PV) (p : Pat) (q : Nat) (n : Int) (w0 : World) (hp : PatAt S w0 v p) (hg : Good p) (hq : q < p.len.length) (hn0 : 0 ≤ n) :
    Calls Try.prog 39 #[v.val p, .int .i64 (q : Int), .int .i64 n] w0 fun e w' => e = .returned (.int .i64 (ckIx p q n)) ∧ Ext w0 w' := by
  have hS := St.start w0 NoM
  have hn5 := hg.n5
  have hckq : q < p.ck.length := by rw [hg.ckl]; exact hq
  have hck5 : p.ck.length ≤ 5 := by rw [hg.ckl]; exact hn5
  obtain ⟨b2, o2, B, cB, hA2, _, hcb, _, _, hrb⟩ := hp.ck.atS hckq
  rw [← rowOf_eq hckq] at hcb hrb
  obtain ⟨b1, o1, hA1, _, hca⟩ := hp.len.atNS hq
  have hrl := hg.rowLen (q := q) hq
  obtain ⟨A1, c1, A2, c2, A3, c3⟩ := v
  simp only [PV.val] at *
  subst hA2
  subst hA1
  unfold ckIx
  generalize rowOf p.ck q = l at *
  generalize nth p.len q = m at *
  have hq' : (q : Int) < p.ck.length := by omega
  have hq2' : (q : Int) < p.len.length := by omega
  by_cases hn : n < l.length
  · obtain ⟨k, rfl⟩ : ∃ k : Nat, n = k := ⟨n.toNat, by omega⟩
    have hk : k < l.length := by omega
    obtain ⟨b3, o3, rfl, _, hcc⟩ := hrb.atNS hk
    have d4 : decide ((l.length : Int) ≤ (k : Int)) = false := decide_eq_false (by omega)
    have d4' : decide (l.length ≤ k) = false := decide_eq_false (by omega)
    rw [if_pos hn]
    simp only [Int.toNat_natCast]
    generalize nth l k = x at *
    go_enter Try.func39, Try.ntmps39
    go_wp2_with (first | (refine oL ?_; (first | refine sL1 hS rfl rfl rfl ?_ | refine sL2 hS rfl rfl rfl ?_ | refine sL3 hS rfl rfl ?_ | refine sL4 hS rfl rfl ?_ | refine sL5 hS rfl rfl ?_ | refine sL6 hS rfl rfl ?_ | refine sL7 hS rfl rfl ?_)) | ((first | (refine oB ?_; first | refine sB1 hS rfl rfl ?_ | refine sB2 hS rfl rfl ?_)); clear hS; first | ((fail_if_success guard_hyp g1); intro g1 w hS) | ((fail_if_success guard_hyp g2); intro g2 w hS) | fail) | fail)
    go_ret
    exact ⟨rfl, hS.toExt⟩
  · have d4 : decide ((l.length : Int) ≤ n) = true := decide_eq_true (by omega)
    rw [if_neg hn]
    go_enter Try.func39, Try.ntmps39
    go_wp2_with (first | (refine oL ?_; (first | refine sL1 hS rfl rfl rfl ?_ | refine sL2 hS rfl rfl rfl ?_ | refine sL3 hS rfl rfl ?_ | refine sL4 hS rfl rfl ?_ | refine sL5 hS rfl rfl ?_ | refine sL6 hS rfl rfl ?_ | refine sL7 hS rfl rfl ?_)) | ((first | (refine oB ?_; first | refine sB1 hS rfl rfl ?_ | refine sB2 hS rfl rfl ?_)); clear hS; first | ((fail_if_success guard_hyp g1); intro g1 w hS) | ((fail_if_success guard_hyp g2); intro g2 w hS) | fail) | fail)
    go_ret
    exact ⟨rfl, hS.toExt⟩
theorem rinterval_n3 {S : Nat → Prop} {A1 A2 A3 : Option Addr} {c1 c2 c3 n1 n2 n3 : Nat} {w : World} {ck : List (List Int)} {q : Nat} {z x : Int} (hn : ck.length = n2) (hz : z = q) (h2 : RR S w A2 ck) (hq : q < n2) (hck : n2 ≤ 5) (hl : (rowOf ck q).length ≤ 100) :
    Calls Try.prog 53 #[.agg #[.slice A1 n1 c1, .slice A2 n2 c2, .slice A3 n3 c3], .int .i64 z, .int .i64 x] w fun e w' => e = .returned (.int .i64 (below (rowOf ck q) x : Int)) ∧ Ext w w' := by
  subst hn hz
  rw [rowOf_eq hq] at *
  exact rinterval_any A1 A2 A3 c1 c2 c3 n1 n3 ck q x w h2 hq hck hl
theorem vecN_take {p : Pat} {c : List Int} {k : Nat} (hk : k < p.len.length) : (vecN p c).take (k + 1) = (vecN p c).take k ++ [(below (rowOf p.ck k) (nth c k) : Int)] := by
  have h : k < (vecN p c).length := by rw [vecN_length]; exact hk
  rw [List.take_succ_eq_append_getElem h, ← nth_eq h, nth_vecN hk]
set_option maxRecDepth 100000 in
set_option maxHeartbeats 3200000 in
theorem rintervals_any {S T : Nat → Prop} (v : PV) (p : Pat) (X : Option Addr) (cx : Nat) (c : List Int) (w0 : World) (hp : PatAt S w0 v p) (hg : Good p) (hx : RI T w0 X c) (hl : c.length = p.len.length) :
    Calls Try.prog 77 #[v.val p, .slice X p.len.length cx] w0 (RetRow w0 3 1 p.len.length (ints (vecN p c))) := by
  have hS := St.start w0 NoM
  have hn5 := hg.n5
  have hck := hg.ckl
  have hck5 : p.ck.length ≤ 5 := by rw [hck]; exact hn5
  have HP := Lib.hid (And.intro hp (And.intro hg (And.intro hck hl)))
  clear hp hg hck hl
  obtain ⟨A1, c1, A2, c2, A3, c3⟩ := v
  simp only [PV.val] at *
  go_enter Try.func77, Try.ntmps77
  go_wp2_with (first | ((first | (refine oB ?_; first | refine sB1 hS rfl rfl ?_ | refine sB2 hS rfl rfl ?_)); clear hS; first | ((fail_if_success guard_hyp g1); intro g1 w hS) | ((fail_if_success guard_hyp g2); intro g2 w hS) | ((fail_if_success guard_hyp g3); intro g3 w hS) | fail) | fail)
  go_loopw [5, 6] (fun s5 s6 wr => ∃ (k : Nat) (L : Option Addr) (cl : Nat) (zs : List Int), k ≤ p.len.length ∧ s6 = .int .i64 k ∧ s5 = .slice L zs.length cl ∧ zs.length ≤ 5 ∧ Hid (zs = (vecN p c).take k) ∧ St w0 NoM [irow 3 L cl zs, blk g1 [.slice A1 p.len.length c1, .slice A2 p.ck.length c2, .slice A3 p.arcs.length c3] 28] wr) (fun _ s6 _ => p.len.length - (intOf s6).toNat)
  case atStart => exact ⟨0, none, 0, [], by omega, rfl, rfl, by simp, Lib.hid (by simp), St.addNil hS.re _ _⟩
  case round =>
    obtain ⟨k, L, cl, zs, hk, rfl, rfl, hz5, HZ, hS⟩ := hrel
    by_cases hlt : k < p.len.length
    · obtain ⟨b1, o1, rfl, _, hc1⟩ := hx.atNS (k := k) (by rw [HP.out.2.2.2]; exact hlt)
      have hkc : k < p.ck.length := by rw [HP.out.2.2.1]; exact hlt
      have HRL := Lib.hid (show (rowOf p.ck k).length ≤ 100 by have := HP.out.2.1.rowLen hlt; omega)
      have HT := Lib.hid (vecN_take (c := c) hlt)
      have HZL := Lib.hid (show zs.length = k by rw [HZ.out, List.length_take, vecN_length]; omega)
      generalize nth c k = m at *
      go_wp2_with (first | ((first | (refine oB ?_; first | refine sB1 hS rfl rfl ?_ | refine sB2 hS rfl rfl ?_)); clear hS; first | ((fail_if_success guard_hyp g1); intro g1 w hS) | ((fail_if_success guard_hyp g2); intro g2 w hS) | ((fail_if_success guard_hyp g3); intro g3 w hS) | fail) | fail)
      refine dr_start1 [] 0 hS (by kernel_rfl) rfl ?_; clear hS; intro w hS
      refine dM hS 0 rfl rfl rfl ?_
      (try simp only [Act.put, nA, nB, nC])
      first | refine dL1 hS 1 rfl rfl rfl rfl ?_ | refine dL2 hS 1 rfl rfl rfl rfl ?_ | refine dL3 hS 1 rfl rfl rfl ?_ | refine dL4 hS 1 rfl rfl rfl ?_ | refine dL5 hS 1 rfl rfl rfl ?_ | refine dL6 hS 1 rfl rfl rfl ?_ | refine dL7 hS 1 rfl rfl rfl ?_
      (try simp only [Act.put, nA, nB, nC])
      refine dM hS 2 rfl rfl rfl ?_
      (try simp only [Act.put, nA, nB, nC])
      refine dM hS 3 rfl rfl rfl ?_
      (try simp only [Act.put, nA, nB, nC])
      refine dM hS 4 rfl rfl rfl ?_
      (try simp only [Act.put, nA, nB, nC])
      refine dP hS 5 rfl rfl ?_
      (try simp only [Act.put, nA, nB, nC])
      first | refine dL1 hS 6 rfl rfl rfl rfl ?_ | refine dL2 hS 6 rfl rfl rfl rfl ?_ | refine dL3 hS 6 rfl rfl rfl ?_ | refine dL4 hS 6 rfl rfl rfl ?_ | refine dL5 hS 6 rfl rfl rfl ?_ | refine dL6 hS 6 rfl rfl rfl ?_ | refine dL7 hS 6 rfl rfl rfl ?_
      (try simp only [Act.put, nA, nB, nC])
      refine dr_one 7 (by kernel_rfl) rfl ?_
      (refine st_call rfl (by kernel_rfl) rfl ?_; go_at_call 53; refine (rinterval_n3 rfl rfl (HP.out.1.ck.into (Into.ofExt hS.toExt)) hkc hck5 HRL.out).mono ?_; rintro e w ⟨rfl, hx1⟩; replace hS := hS.ext hx1; generalize hbl : below (rowOf p.ck k) m = bl at *)
      (try simp only [Act.put, nA, nB, nC])
      refine dr_end hS ?_
      refine dr_one 8 (by kernel_rfl) rfl ?_
      ((first | refine sC0 hS rfl ?_ | refine sC1 hS rfl rfl ?_ | refine sC2 hS rfl rfl ?_ | refine sC3 hS rfl rfl rfl ?_ | refine sC4 hS rfl rfl rfl ?_); clear hS; first | ((fail_if_success guard_hyp g1); intro g1 w hS) | ((fail_if_success guard_hyp g2); intro g2 w hS) | ((fail_if_success guard_hyp g3); intro g3 w hS) | fail)
      (try simp only [Act.put, nA, nB, nC])
      refine dr_end hS ?_
      refine dr_one 9 (by kernel_rfl) rfl ?_
      ((first | refine sP1 hS rfl rfl rfl ?_ | refine sP2 hS rfl rfl rfl ?_ | refine sP3 hS rfl rfl rfl ?_); clear hS; first | ((fail_if_success guard_hyp L1); intro L1 cl1 w hL1 hM1 hS) | ((fail_if_success guard_hyp L2); intro L2 cl2 w hL2 hM2 hS) | fail)
      (try simp only [Act.put, nA, nB, nC])
      refine dr_end hS ?_
      refine dA hS 10 rfl rfl rfl ?_
      (try simp only [Act.put, nA, nB, nC])
      refine dr_done (by kernel_rfl) ?_
      go_wp2_with (first | ((first | (refine oB ?_; first | refine sB1 hS rfl rfl ?_ | refine sB2 hS rfl rfl ?_)); clear hS; first | ((fail_if_success guard_hyp g1); intro g1 w hS) | ((fail_if_success guard_hyp g2); intro g2 w hS) | ((fail_if_success guard_hyp g3); intro g3 w hS) | fail) | fail)
      go_roundw
      case measure => simp [intOf]; omega
      exact ⟨k + 1, L1, cl1, zs ++ [(bl : Int)], by omega, by go_num, by simp, by simp [HZL.out]; omega, Lib.hid (by rw [HT.out, ← HZ.out]), hS.re⟩
    · go_wp2_with (first | ((first | (refine oB ?_; first | refine sB1 hS rfl rfl ?_ | refine sB2 hS rfl rfl ?_)); clear hS; first | ((fail_if_success guard_hyp g1); intro g1 w hS) | ((fail_if_success guard_hyp g2); intro g2 w hS) | ((fail_if_success guard_hyp g3); intro g3 w hS) | fail) | fail)
      go_ret
      have hz := HZ.out
      rw [List.take_of_length_le (by rw [vecN_length]; omega)] at hz
      subst hz
      have h : RetRow w0 3 1 (vecN p c).length (ints (vecN p c)) (.returned (.slice L (vecN p c).length cl)) _ := hS.ret rfl
      have e0 := vecN_length p c
      generalize hvl : (vecN p c).length = vl at *
      subst e0
      exact h
set_option maxRecDepth 100000 in
set_option maxHeartbeats 3200000 in
theorem rvector_any {S : Nat → Prop} (v : PV) (p : Pat) (q : Nat) (k : Int) (w0 : World) (hp : PatAt S w0 v p) (hg : Good p) (hpt : PtOk p (q, k)) :
    Calls Try.prog 37 #[v.val p, .int .i64 (q : Int), .int .i64 k] w0 fun e w' => ∃ c, IsClk p q k c ∧ RetRow w0 3 1 p.len.length (ints (vecN p c)) e w' := by
  have hS := St.start w0 NoM
  have HP := Lib.hid (And.intro hp (And.intro hg hpt))
  clear hp hg hpt
  obtain ⟨A1, c1, A2, c2, A3, c3⟩ := v
  simp only [PV.val] at *
  go_enter Try.func37, Try.ntmps37
  go_wp2_with (first | ((first | (refine oB ?_; first | refine sB1 hS rfl rfl ?_ | refine sB2 hS rfl rfl ?_)); clear hS; first | ((fail_if_success guard_hyp g1); intro g1 w hS) | ((fail_if_success guard_hyp g2); intro g2 w hS) | fail) | fail)
  refine dr_start0 []  hS (by kernel_rfl) rfl ?_; clear hS; intro w hS
  first | refine dL1 hS 0 rfl rfl rfl rfl ?_ | refine dL2 hS 0 rfl rfl rfl rfl ?_ | refine dL3 hS 0 rfl rfl rfl ?_ | refine dL4 hS 0 rfl rfl rfl ?_ | refine dL5 hS 0 rfl rfl rfl ?_ | refine dL6 hS 0 rfl rfl rfl ?_ | refine dL7 hS 0 rfl rfl rfl ?_
  (try simp only [Act.put, nA, nB, nC])
  first | refine dL1 hS 1 rfl rfl rfl rfl ?_ | refine dL2 hS 1 rfl rfl rfl rfl ?_ | refine dL3 hS 1 rfl rfl rfl ?_ | refine dL4 hS 1 rfl rfl rfl ?_ | refine dL5 hS 1 rfl rfl rfl ?_ | refine dL6 hS 1 rfl rfl rfl ?_ | refine dL7 hS 1 rfl rfl rfl ?_
  (try simp only [Act.put, nA, nB, nC])
  refine dM hS 2 rfl rfl rfl ?_
  (try simp only [Act.put, nA, nB, nC])
  refine dM hS 3 rfl rfl rfl ?_
  (try simp only [Act.put, nA, nB, nC])
  refine dr_one 4 (by kernel_rfl) rfl ?_
  (refine st_call rfl (by kernel_rfl) rfl ?_; go_at_call 21; refine (rclock_n rfl rfl rfl rfl (HP.out.1.ext hS.toExt) HP.out.2.1 HP.out.2.2).mono ?_; rintro e u2 ⟨L, cap, c, rfl, hclk, hcl, hri, hx1⟩; replace hS := hS.frozNew hx1; have HC := Lib.hid hclk; have HCL := Lib.hid hcl; clear hclk hcl)
  (try simp only [Act.put, nA, nB, nC])
  refine dr_end hS ?_
  refine dr_one 5 (by kernel_rfl) rfl ?_
  (refine st_call rfl (by kernel_rfl) rfl ?_; go_at_call 77; refine (rintervals_any ⟨A1, c1, A2, c2, A3, c3⟩ p _ _ c _ (HP.out.1.ext hS.toExt) HP.out.2.1 (hri.into hS.frozInto) HCL.out).mono ?_; rintro e w ⟨L5, c5, rfl, ho, hx1⟩; replace hS := hS.addRow ho hx1; clear ho)
  (try simp only [Act.put, nA, nB, nC])
  refine dr_end hS ?_
  refine dA hS 6 rfl rfl rfl ?_
  (try simp only [Act.put, nA, nB, nC])
  refine dr_done (by kernel_rfl) ?_
  go_wp2_with (first | ((first | (refine oB ?_; first | refine sB1 hS rfl rfl ?_ | refine sB2 hS rfl rfl ?_)); clear hS; first | ((fail_if_success guard_hyp g1); intro g1 w hS) | ((fail_if_success guard_hyp g2); intro g2 w hS) | fail) | fail)
  go_ret
  exact ⟨c, HC.out, hS.ret rfl⟩
section
variable {S : Nat → Prop} {A1 A2 A3 : Option Addr} {c1 c2 c3 n1 n2 n3 : Nat} {p : Pat} {q : Nat} {z k : Int} {w : World}
theorem rindex_n (e1 : p.len.length = n1) (e2 : p.ck.length = n2) (e3 : p.arcs.length = n3) (hz : z = q) (hp : PatAt S w ⟨A1, c1, A2, c2, A3, c3⟩ p) (hg : Good p) (hq : q < p.len.length) (hk : 0 ≤ k) :
    Calls Try.prog 39 #[.agg #[.slice A1 n1 c1, .slice A2 n2 c2, .slice A3 n3 c3], .int .i64 z, .int .i64 k] w fun e w' => e = .returned (.int .i64 (ckIx p q k)) ∧ Ext w w' := by
  subst e1 e2 e3 hz; exact rindex_any ⟨A1, c1, A2, c2, A3, c3⟩ p q k w hp hg hq hk
theorem rvector_n (e1 : p.len.length = n1) (e2 : p.ck.length = n2) (e3 : p.arcs.length = n3) (hz : z = q) (hp : PatAt S w ⟨A1, c1, A2, c2, A3, c3⟩ p) (hg : Good p) (hpt : PtOk p (q, k)) :
    Calls Try.prog 37 #[.agg #[.slice A1 n1 c1, .slice A2 n2 c2, .slice A3 n3 c3], .int .i64 z, .int .i64 k] w fun e w' => ∃ c, IsClk p q k c ∧ (vecN p c).length = n1 ∧ RetRow w 3 1 n1 (ints (vecN p c)) e w' := by
  subst e1 e2 e3 hz
  refine (rvector_any ⟨A1, c1, A2, c2, A3, c3⟩ p q k w hp hg hpt).mono ?_
  rintro e w' ⟨c, h1, h2⟩
  exact ⟨c, h1, vecN_length p c, h2⟩
end
set_option maxRecDepth 100000 in
set_option maxHeartbeats 3200000 in
theorem rckpt_any {S : Nat → Prop} (v : PV) (p : Pat) (q : Nat) (n : Int) (w0 : World) (hp : PatAt S w0 v p) (hg : Good p) (ha : CkOk p (q, n)) :
    Calls Try.prog 41 #[v.val p, .int .i64 (q : Int), .int .i64 n] w0 fun e w' => ∃ c, IsClk p q (ckIx p q n) c ∧ RetRow w0 3 1 p.len.length (ints (vecN p c)) e w' := by
  have hS := St.start w0 NoM
  have HP := Lib.hid (And.intro hp (And.intro hg (And.intro ha (ckIx_ok hg ha))))
  clear hp hg ha
  obtain ⟨A1, c1, A2, c2, A3, c3⟩ := v
  simp only [PV.val] at *
  go_enter Try.func41, Try.ntmps41
  go_wp2_with (first | ((first | (refine oB ?_; first | refine sB1 hS rfl rfl ?_ | refine sB2 hS rfl rfl ?_)); clear hS; first | ((fail_if_success guard_hyp g1); intro g1 w hS) | ((fail_if_success guard_hyp g2); intro g2 w hS) | fail) | fail)
  refine dr_start0 []  hS (by kernel_rfl) rfl ?_; clear hS; intro w hS
  first | refine dL1 hS 0 rfl rfl rfl rfl ?_ | refine dL2 hS 0 rfl rfl rfl rfl ?_ | refine dL3 hS 0 rfl rfl rfl ?_ | refine dL4 hS 0 rfl rfl rfl ?_ | refine dL5 hS 0 rfl rfl rfl ?_ | refine dL6 hS 0 rfl rfl rfl ?_ | refine dL7 hS 0 rfl rfl rfl ?_
  (try simp only [Act.put, nA, nB, nC])
  refine dM hS 1 rfl rfl rfl ?_
  (try simp only [Act.put, nA, nB, nC])
  first | refine dL1 hS 2 rfl rfl rfl rfl ?_ | refine dL2 hS 2 rfl rfl rfl rfl ?_ | refine dL3 hS 2 rfl rfl rfl ?_ | refine dL4 hS 2 rfl rfl rfl ?_ | refine dL5 hS 2 rfl rfl rfl ?_ | refine dL6 hS 2 rfl rfl rfl ?_ | refine dL7 hS 2 rfl rfl rfl ?_
  (try simp only [Act.put, nA, nB, nC])
  refine dM hS 3 rfl rfl rfl ?_
  (try simp only [Act.put, nA, nB, nC])
  refine dM hS 4 rfl rfl rfl ?_
  (try simp only [Act.put, nA, nB, nC])
  refine dr_one 5 (by kernel_rfl) rfl ?_
  (refine st_call rfl (by kernel_rfl) rfl ?_; go_at_call 39; refine (rindex_n rfl rfl rfl rfl (HP.out.1.ext hS.toExt) HP.out.2.1 HP.out.2.2.1.1 HP.out.2.2.1.2.1).mono ?_; rintro e w ⟨rfl, hx1⟩; replace hS := hS.ext hx1)
  (try simp only [Act.put, nA, nB, nC])
  refine dr_end hS ?_
  refine dr_one 6 (by kernel_rfl) rfl ?_
  (refine st_call rfl (by kernel_rfl) rfl ?_; go_at_call 37; refine (rvector_n rfl rfl rfl rfl (HP.out.1.ext hS.toExt) HP.out.2.1 HP.out.2.2.2).mono ?_; rintro e w ⟨c, hclk, _, L5, c5, rfl, ho, hx1⟩; replace hS := hS.addRow ho hx1; have HC := Lib.hid hclk; clear ho hclk)
  (try simp only [Act.put, nA, nB, nC])
  refine dr_end hS ?_
  refine dA hS 7 rfl rfl rfl ?_
  (try simp only [Act.put, nA, nB, nC])
  refine dr_done (by kernel_rfl) ?_
  go_wp2_with (first | ((first | (refine oB ?_; first | refine sB1 hS rfl rfl ?_ | refine sB2 hS rfl rfl ?_)); clear hS; first | ((fail_if_success guard_hyp g1); intro g1 w hS) | ((fail_if_success guard_hyp g2); intro g2 w hS) | fail) | fail)
  go_ret
  exact ⟨c, HC.out, hS.ret rfl⟩
set_option maxRecDepth 100000 in
set_option maxHeartbeats 3200000 in
theorem dckpt_any {S : Nat → Prop} (v : PV) (p : Pat) (q : Nat) (n : Int) (w0 : World) (hp : PatAt S w0 v p) (hg : Good p) (ha : CkOk p (q, n)) :
    Calls Try.prog 40 #[v.val p, .int .i64 (q : Int), .int .i64 n] w0 fun e w' => ∃ c, IsClk p q (ckIx p q n) c ∧ RetRow w0 3 1 p.len.length (ints (vecN p c)) e w' := by
  have hS := St.start w0 NoM
  have HP := Lib.hid (And.intro hp (And.intro hg (And.intro ha (ckIx_ok hg ha))))
  clear hp hg ha
  obtain ⟨A1, c1, A2, c2, A3, c3⟩ := v
  simp only [PV.val] at *
  go_enter Try.func40, Try.ntmps40
  go_wp2_with (first | (go_at_call 71; refine (exists_n rfl rfl rfl rfl (HP.out.1.ext hS.toExt) HP.out.2.1 HP.out.2.2.1).mono ?_; rintro e w ⟨rfl, hx1⟩; replace hS := hS.ext hx1) | (refine oL ?_; (first | refine sL1 hS rfl rfl rfl ?_ | refine sL2 hS rfl rfl rfl ?_ | refine sL3 hS rfl rfl ?_ | refine sL4 hS rfl rfl ?_ | refine sL5 hS rfl rfl ?_ | refine sL6 hS rfl rfl ?_ | refine sL7 hS rfl rfl ?_)) | ((first | (refine oB ?_; first | refine sB1 hS rfl rfl ?_ | refine sB2 hS rfl rfl ?_)); clear hS; first | ((fail_if_success guard_hyp g1); intro g1 w hS) | ((fail_if_success guard_hyp g2); intro g2 w hS) | fail) | fail)
  refine dr_start0 []  hS (by kernel_rfl) rfl ?_; clear hS; intro w hS
  first | refine dL1 hS 0 rfl rfl rfl rfl ?_ | refine dL2 hS 0 rfl rfl rfl rfl ?_ | refine dL3 hS 0 rfl rfl rfl ?_ | refine dL4 hS 0 rfl rfl rfl ?_ | refine dL5 hS 0 rfl rfl rfl ?_ | refine dL6 hS 0 rfl rfl rfl ?_ | refine dL7 hS 0 rfl rfl rfl ?_
  (try simp only [Act.put, nA, nB, nC])
  refine dM hS 1 rfl rfl rfl ?_
  (try simp only [Act.put, nA, nB, nC])
  first | refine dL1 hS 2 rfl rfl rfl rfl ?_ | refine dL2 hS 2 rfl rfl rfl rfl ?_ | refine dL3 hS 2 rfl rfl rfl ?_ | refine dL4 hS 2 rfl rfl rfl ?_ | refine dL5 hS 2 rfl rfl rfl ?_ | refine dL6 hS 2 rfl rfl rfl ?_ | refine dL7 hS 2 rfl rfl rfl ?_
  (try simp only [Act.put, nA, nB, nC])
  refine dM hS 3 rfl rfl rfl ?_
  (try simp only [Act.put, nA, nB, nC])
  refine dM hS 4 rfl rfl rfl ?_
  (try simp only [Act.put, nA, nB, nC])
  refine dr_one 5 (by kernel_rfl) rfl ?_
  (refine st_call rfl (by kernel_rfl) rfl ?_; go_at_call 38; refine (dindex_n rfl rfl rfl rfl (HP.out.1.ext hS.toExt) HP.out.2.1 HP.out.2.2.1.1 HP.out.2.2.1.2.1).mono ?_; rintro e w ⟨rfl, hx1⟩; replace hS := hS.ext hx1)
  (try simp only [Act.put, nA, nB, nC])
  refine dr_end hS ?_
  refine dr_one 6 (by kernel_rfl) rfl ?_
  (refine st_call rfl (by kernel_rfl) rfl ?_; go_at_call 34; refine (vector_n rfl rfl rfl rfl (HP.out.1.ext hS.toExt) HP.out.2.1 HP.out.2.2.2).mono ?_; rintro e w ⟨c, hclk, _, L5, c5, rfl, ho, hx1⟩; replace hS := hS.addRow ho hx1; have HC := Lib.hid hclk; clear ho hclk)
  (try simp only [Act.put, nA, nB, nC])
  refine dr_end hS ?_
  refine dA hS 7 rfl rfl rfl ?_
  (try simp only [Act.put, nA, nB, nC])
  refine dr_done (by kernel_rfl) ?_
  go_wp2_with (first | (refine oL ?_; (first | refine sL1 hS rfl rfl rfl ?_ | refine sL2 hS rfl rfl rfl ?_ | refine sL3 hS rfl rfl ?_ | refine sL4 hS rfl rfl ?_ | refine sL5 hS rfl rfl ?_ | refine sL6 hS rfl rfl ?_ | refine sL7 hS rfl rfl ?_)) | ((first | (refine oB ?_; first | refine sB1 hS rfl rfl ?_ | refine sB2 hS rfl rfl ?_)); clear hS; first | ((fail_if_success guard_hyp g1); intro g1 w hS) | ((fail_if_success guard_hyp g2); intro g2 w hS) | fail) | fail)
  go_ret
  exact ⟨c, HC.out, hS.ret rfl⟩
end Go.Proofs.Ytkflmichekpfbaa
