/- rollbacknetref19: All, Depends, Global. Conditions: the pattern is good and lies in memory, the numbers are in range. -/
import Derived.Test.YtkflmichekpfbaaRef19
import Derived.Test.YtkflmichekpfbaaOrders
namespace Go.Proofs.Ytkflmichekpfbaa
open Go.RowKit
set_option linter.unusedVariables false
set_option linter.unusedSimpArgs false
set_option linter.unusedSectionVars false

theorem rckpt_m {S : Nat → Prop} {A1 A2 A3 : Option Addr} {c1 c2 c3 n1 n2 n3 : Nat} {p : Pat} {q : Nat} {z k : Int} {w : World} (e1 : p.len.length = n1) (e2 : p.ck.length = n2) (e3 : p.arcs.length = n3) (hz : z = q) (hp : PatAt S w ⟨A1, c1, A2, c2, A3, c3⟩ p) (hg : Good p) (ha : CkOk p (q, k)) :
    Calls Try.prog 41 #[.agg #[.slice A1 n1 c1, .slice A2 n2 c2, .slice A3 n3 c3], .int .i64 z, .int .i64 k] w fun e w' => ∃ c, IsClk p q (ckIx p q k) c ∧ (vecN p c).length = n1 ∧ RetRow w 3 1 n1 (ints (vecN p c)) e w' := by
  subst e1 e2 e3 hz
  refine (rckpt_any ⟨A1, c1, A2, c2, A3, c3⟩ p q k w hp hg ha).mono ?_
  rintro e w' ⟨c, h1, h2⟩
  exact ⟨c, h1, vecN_length p c, h2⟩
set_option maxRecDepth 100000 in
set_option maxHeartbeats 3200000 in
theorem rdepends_any {S : Nat → Prop} (v : PV) (p : Pat) (q r : Nat) (n m : Int) (w0 : World) (hp : PatAt S w0 v p) (hg : Good p) (hb : CkOk p (q, n)) (ha : CkOk p (r, m)) :
    Calls Try.prog 47 #[v.val p, .agg #[.int .i64 (q : Int), .int .i64 n], .agg #[.int .i64 (r : Int), .int .i64 m]] w0 fun e w' => ∃ c, IsClk p q (ckIx p q n) c ∧ e = .returned (.bool (decide (m < nth (vecN p c) r))) ∧ Ext w0 w' := by
  have hS := St.start w0 NoM
  have hn5 := hg.n5
  have hn2 := hg.n2
  have hr := ha.1
  simp only at hr
  have HP := Lib.hid (And.intro hp (And.intro hg (And.intro hb ha)))
  clear hp hg hb ha
  obtain ⟨A1, c1, A2, c2, A3, c3⟩ := v
  simp only [PV.val] at *
  have hr' : (r : Int) < p.len.length := by omega
  go_enter Try.func47, Try.ntmps47
  go_wp2_with (first | ((first | (refine oB ?_; first | refine sB1 hS rfl rfl ?_ | refine sB2 hS rfl rfl ?_)); clear hS; first | ((fail_if_success guard_hyp g1); intro g1 w hS) | ((fail_if_success guard_hyp g2); intro g2 w hS) | ((fail_if_success guard_hyp g3); intro g3 w hS) | ((fail_if_success guard_hyp g4); intro g4 w hS) | fail) | fail)
  refine dr_start0 []  hS (by kernel_rfl) rfl ?_; clear hS; intro w hS
  first | refine dL1 hS 0 rfl rfl rfl rfl ?_ | refine dL2 hS 0 rfl rfl rfl rfl ?_ | refine dL3 hS 0 rfl rfl rfl ?_ | refine dL4 hS 0 rfl rfl rfl ?_ | refine dL5 hS 0 rfl rfl rfl ?_ | refine dL6 hS 0 rfl rfl rfl ?_ | refine dL7 hS 0 rfl rfl rfl ?_
  (try simp only [Act.put, nA, nB, nC])
  refine dP hS 1 rfl rfl ?_
  (try simp only [Act.put, nA, nB, nC])
  first | refine dL1 hS 2 rfl rfl rfl rfl ?_ | refine dL2 hS 2 rfl rfl rfl rfl ?_ | refine dL3 hS 2 rfl rfl rfl ?_ | refine dL4 hS 2 rfl rfl rfl ?_ | refine dL5 hS 2 rfl rfl rfl ?_ | refine dL6 hS 2 rfl rfl rfl ?_ | refine dL7 hS 2 rfl rfl rfl ?_
  (try simp only [Act.put, nA, nB, nC])
  refine dP hS 3 rfl rfl ?_
  (try simp only [Act.put, nA, nB, nC])
  first | refine dL1 hS 4 rfl rfl rfl rfl ?_ | refine dL2 hS 4 rfl rfl rfl rfl ?_ | refine dL3 hS 4 rfl rfl rfl ?_ | refine dL4 hS 4 rfl rfl rfl ?_ | refine dL5 hS 4 rfl rfl rfl ?_ | refine dL6 hS 4 rfl rfl rfl ?_ | refine dL7 hS 4 rfl rfl rfl ?_
  (try simp only [Act.put, nA, nB, nC])
  refine dP hS 6 rfl rfl ?_
  (try simp only [Act.put, nA, nB, nC])
  first | refine dL1 hS 7 rfl rfl rfl rfl ?_ | refine dL2 hS 7 rfl rfl rfl rfl ?_ | refine dL3 hS 7 rfl rfl rfl ?_ | refine dL4 hS 7 rfl rfl rfl ?_ | refine dL5 hS 7 rfl rfl rfl ?_ | refine dL6 hS 7 rfl rfl rfl ?_ | refine dL7 hS 7 rfl rfl rfl ?_
  (try simp only [Act.put, nA, nB, nC])
  refine dP hS 10 rfl rfl ?_
  (try simp only [Act.put, nA, nB, nC])
  first | refine dL1 hS 11 rfl rfl rfl rfl ?_ | refine dL2 hS 11 rfl rfl rfl rfl ?_ | refine dL3 hS 11 rfl rfl rfl ?_ | refine dL4 hS 11 rfl rfl rfl ?_ | refine dL5 hS 11 rfl rfl rfl ?_ | refine dL6 hS 11 rfl rfl rfl ?_ | refine dL7 hS 11 rfl rfl rfl ?_
  (try simp only [Act.put, nA, nB, nC])
  refine dr_one 5 (by kernel_rfl) rfl ?_
  (refine st_call rfl (by kernel_rfl) rfl ?_; go_at_call 41; refine (rckpt_m rfl rfl rfl rfl (HP.out.1.ext hS.toExt) HP.out.2.1 HP.out.2.2.1).mono ?_; rintro e w ⟨c, hclk, hvl, L5, c5, rfl, ho, hx1⟩; replace hS := hS.addRow ho hx1; have HC := Lib.hid hclk; have HVL := Lib.hid hvl; clear ho hclk hvl; obtain ⟨g5, rfl⟩ := hS.rowSome L5 (by omega); have hcell : (ints (vecN p c))[r]? = some (.int .i64 (nth (vecN p c) r)) := (by rw [ints_get (by rw [HVL.out]; exact hr), nth_eq (by rw [HVL.out]; exact hr)]); generalize hy : nth (vecN p c) r = y at *)
  (try simp only [Act.put, nA, nB, nC])
  refine dr_end hS ?_
  refine dP hS 8 rfl rfl ?_
  (try simp only [Act.put, nA, nB, nC])
  refine dr_one 9 (by kernel_rfl) rfl ?_
  (first | refine sL1 hS rfl rfl rfl ?_ | refine sL2 hS rfl rfl rfl ?_ | refine sL3 hS rfl rfl ?_ | refine sL4 hS rfl rfl ?_ | refine sL5 hS rfl rfl ?_ | refine sL6 hS rfl rfl ?_ | refine sL7 hS rfl rfl ?_)
  (try simp only [Act.put, nA, nB, nC])
  refine dr_end hS ?_
  refine dP hS 12 rfl rfl ?_
  (try simp only [Act.put, nA, nB, nC])
  refine dA hS 13 rfl rfl rfl ?_
  (try simp only [Act.put, nA, nB, nC])
  refine dr_done (by kernel_rfl) ?_
  go_wp2_with (first | ((first | (refine oB ?_; first | refine sB1 hS rfl rfl ?_ | refine sB2 hS rfl rfl ?_)); clear hS; first | ((fail_if_success guard_hyp g1); intro g1 w hS) | ((fail_if_success guard_hyp g2); intro g2 w hS) | ((fail_if_success guard_hyp g3); intro g3 w hS) | ((fail_if_success guard_hyp g4); intro g4 w hS) | fail) | fail)
  go_ret
  refine ⟨c, HC.out, ?_, hS.toExt⟩
  rw [hy]; rfl
set_option maxRecDepth 100000 in
set_option maxHeartbeats 3200000 in
theorem rall_any {S : Nat → Prop} (A1 A2 A3 : Option Addr) (c1 c2 c3 n1 n3 : Nat) (p : Pat) (w0 : World) (h2 : RR S w0 A2 p.ck) (hg : Good p) :
    Calls Try.prog 45 #[.agg #[.slice A1 n1 c1, .slice A2 p.ck.length c2, .slice A3 n3 c3]] w0 fun e w' => ∃ l : List (Nat × Int), (∀ a ∈ l, CkOk p a) ∧ l.length ≤ 1000 ∧ RetRow w0 37 2 l.length (l.flatMap ptCells) e w' := by
  have hS := St.start w0 NoM
  have hn5 := hg.n5
  have hck5 : p.ck.length ≤ 5 := by rw [hg.ckl]; exact hn5
  have HG := Lib.hid hg
  have HCK := Lib.hid hg.ckl
  clear hg
  go_enter Try.func45, Try.ntmps45
  go_wp2_with (first | (refine oL ?_; (first | refine sL1 hS rfl rfl rfl ?_ | refine sL2 hS rfl rfl rfl ?_ | refine sL3 hS rfl rfl ?_ | refine sL4 hS rfl rfl ?_ | refine sL5 hS rfl rfl ?_ | refine sL6 hS rfl rfl ?_ | refine sL7 hS rfl rfl ?_)) | (refine oP ?_; ((first | refine sP1 hS rfl rfl rfl ?_ | refine sP2 hS rfl rfl rfl ?_ | refine sP3 hS rfl rfl rfl ?_); clear hS; first | ((fail_if_success guard_hyp L1); intro L1 cl1 w hL1 hM1 hS) | ((fail_if_success guard_hyp L2); intro L2 cl2 w hL2 hM2 hS) | fail)) | ((first | (refine oB ?_; first | refine sB1 hS rfl rfl ?_ | refine sB2 hS rfl rfl ?_) | (refine oC ?_; first | refine sC0 hS rfl ?_ | refine sC1 hS rfl rfl ?_ | refine sC2 hS rfl rfl ?_ | refine sC3 hS rfl rfl rfl ?_ | refine sC4 hS rfl rfl rfl ?_)); clear hS; first | ((fail_if_success guard_hyp g1); intro g1 w hS) | ((fail_if_success guard_hyp g2); intro g2 w hS) | ((fail_if_success guard_hyp g3); intro g3 w hS) | fail) | fail)
  go_loopw [3, 4] (fun s3 s4 wr => ∃ (q : Nat) (L : Option Addr) (cl : Nat) (l : List (Nat × Int)), q ≤ p.ck.length ∧ s4 = .int .i64 q ∧ s3 = .slice L l.length cl ∧ l.length ≤ q * 101 ∧ Hid (∀ a ∈ l, CkOk p a) ∧ St w0 NoM [row (.slice L l.length cl) 37 2 l.length (l.flatMap ptCells), blk g1 [.slice A1 n1 c1, .slice A2 p.ck.length c2, .slice A3 n3 c3] 28] wr) (fun _ s4 _ => p.ck.length - (intOf s4).toNat)
  case atStart => exact ⟨0, none, 0, [], by omega, rfl, rfl, by simp, Lib.hid (by simp), St.addNil hS.re _ _⟩
  case round =>
    obtain ⟨q, L, cl, l, hq, rfl, rfl, hl, HL, hS⟩ := hrel
    by_cases hlt : q < p.ck.length
    · obtain ⟨b2, o2, B, cB, rfl, _, hcb, _, _, _⟩ := h2.atS hlt
      rw [← rowOf_eq hlt] at hcb
      have hql : q < p.len.length := by rw [← HCK.out]; exact hlt
      have hrl := HG.out.rowLen (q := q) hql
      have hhi := HG.out.hi q hql
      generalize hrow : (rowOf p.ck q).length = rl at *
      have hrl100 : rl ≤ 100 := by omega
      go_wp2_with (first | (refine oL ?_; (first | refine sL1 hS rfl rfl rfl ?_ | refine sL2 hS rfl rfl rfl ?_ | refine sL3 hS rfl rfl ?_ | refine sL4 hS rfl rfl ?_ | refine sL5 hS rfl rfl ?_ | refine sL6 hS rfl rfl ?_ | refine sL7 hS rfl rfl ?_)) | (refine oP ?_; ((first | refine sP1 hS rfl rfl rfl ?_ | refine sP2 hS rfl rfl rfl ?_ | refine sP3 hS rfl rfl rfl ?_); clear hS; first | ((fail_if_success guard_hyp L1); intro L1 cl1 w hL1 hM1 hS) | ((fail_if_success guard_hyp L2); intro L2 cl2 w hL2 hM2 hS) | fail)) | ((first | (refine oB ?_; first | refine sB1 hS rfl rfl ?_ | refine sB2 hS rfl rfl ?_) | (refine oC ?_; first | refine sC0 hS rfl ?_ | refine sC1 hS rfl rfl ?_ | refine sC2 hS rfl rfl ?_ | refine sC3 hS rfl rfl rfl ?_ | refine sC4 hS rfl rfl rfl ?_)); clear hS; first | ((fail_if_success guard_hyp g1); intro g1 w hS) | ((fail_if_success guard_hyp g2); intro g2 w hS) | ((fail_if_success guard_hyp g3); intro g3 w hS) | fail) | fail)
      go_loopw [3, 5] (fun s3 s5 wr => ∃ (k : Nat) (L : Option Addr) (cl : Nat) (l : List (Nat × Int)), k ≤ rl + 1 ∧ s5 = .int .i64 k ∧ s3 = .slice L l.length cl ∧ l.length ≤ q * 101 + k ∧ Hid (∀ a ∈ l, CkOk p a) ∧ St w0 NoM [row (.slice L l.length cl) 37 2 l.length (l.flatMap ptCells), blk g1 [.slice A1 n1 c1, .slice (some ⟨b2, o2, none⟩) p.ck.length c2, .slice A3 n3 c3] 28] wr) (fun _ s5 _ => rl + 1 - (intOf s5).toNat)
      case atStart => exact ⟨0, L, cl, l, by omega, rfl, rfl, by omega, HL, hS⟩
      case round =>
        clear HL hl
        obtain ⟨k, L, cl, l, hk, rfl, rfl, hl, HL, hS⟩ := hrel
        by_cases hkl : k ≤ rl
        · have d1 : decide ((k : Int) ≤ (rl : Int)) = true := decide_eq_true (by omega)
          have d1' : decide (k ≤ rl) = true := decide_eq_true hkl
          have HOK := Lib.hid (show CkOk p (q, (k : Int)) from ⟨hql, by simp only; omega, by simp only; rw [hrow]; omega⟩)
          have HLL := Lib.hid (show (l ++ [(q, (k : Int))]).length = l.length + 1 by simp)
          have HFL := Lib.hid (show (l ++ [(q, (k : Int))]).flatMap ptCells = l.flatMap ptCells ++ [.int .i64 (q : Int), .int .i64 (k : Int)] by simp [ptCells])
          go_wp2_with (first | (refine oL ?_; (first | refine sL1 hS rfl rfl rfl ?_ | refine sL2 hS rfl rfl rfl ?_ | refine sL3 hS rfl rfl ?_ | refine sL4 hS rfl rfl ?_ | refine sL5 hS rfl rfl ?_ | refine sL6 hS rfl rfl ?_ | refine sL7 hS rfl rfl ?_)) | (refine oP ?_; ((first | refine sP1 hS rfl rfl rfl ?_ | refine sP2 hS rfl rfl rfl ?_ | refine sP3 hS rfl rfl rfl ?_); clear hS; first | ((fail_if_success guard_hyp L1); intro L1 cl1 w hL1 hM1 hS) | ((fail_if_success guard_hyp L2); intro L2 cl2 w hL2 hM2 hS) | fail)) | ((first | (refine oB ?_; first | refine sB1 hS rfl rfl ?_ | refine sB2 hS rfl rfl ?_) | (refine oC ?_; first | refine sC0 hS rfl ?_ | refine sC1 hS rfl rfl ?_ | refine sC2 hS rfl rfl ?_ | refine sC3 hS rfl rfl rfl ?_ | refine sC4 hS rfl rfl rfl ?_)); clear hS; first | ((fail_if_success guard_hyp g1); intro g1 w hS) | ((fail_if_success guard_hyp g2); intro g2 w hS) | ((fail_if_success guard_hyp g3); intro g3 w hS) | fail) | fail)
          go_roundw
          case measure => simp [intOf]; omega
          refine ⟨k + 1, L1, cl1, l ++ [(q, (k : Int))], by omega, by go_num, by rw [HLL.out], by rw [HLL.out]; omega, Lib.hid (fun a ha => ?_), ?_⟩
          · rcases List.mem_append.1 ha with ha | ha
            · exact HL.out a ha
            · rw [List.mem_singleton.1 ha]; exact HOK.out
          · rw [HLL.out, HFL.out]
            exact hS
        · have d1 : decide ((k : Int) ≤ (rl : Int)) = false := decide_eq_false (by omega)
          have d1' : decide (k ≤ rl) = false := decide_eq_false hkl
          go_wp2_with (first | (refine oL ?_; (first | refine sL1 hS rfl rfl rfl ?_ | refine sL2 hS rfl rfl rfl ?_ | refine sL3 hS rfl rfl ?_ | refine sL4 hS rfl rfl ?_ | refine sL5 hS rfl rfl ?_ | refine sL6 hS rfl rfl ?_ | refine sL7 hS rfl rfl ?_)) | (refine oP ?_; ((first | refine sP1 hS rfl rfl rfl ?_ | refine sP2 hS rfl rfl rfl ?_ | refine sP3 hS rfl rfl rfl ?_); clear hS; first | ((fail_if_success guard_hyp L1); intro L1 cl1 w hL1 hM1 hS) | ((fail_if_success guard_hyp L2); intro L2 cl2 w hL2 hM2 hS) | fail)) | ((first | (refine oB ?_; first | refine sB1 hS rfl rfl ?_ | refine sB2 hS rfl rfl ?_) | (refine oC ?_; first | refine sC0 hS rfl ?_ | refine sC1 hS rfl rfl ?_ | refine sC2 hS rfl rfl ?_ | refine sC3 hS rfl rfl rfl ?_ | refine sC4 hS rfl rfl rfl ?_)); clear hS; first | ((fail_if_success guard_hyp g1); intro g1 w hS) | ((fail_if_success guard_hyp g2); intro g2 w hS) | ((fail_if_success guard_hyp g3); intro g3 w hS) | fail) | fail)
          go_roundw
          case measure => simp [intOf]; omega
          exact ⟨q + 1, L, cl, l, by omega, by go_num, rfl, by omega, HL, hS⟩
    · go_wp2_with (first | (refine oL ?_; (first | refine sL1 hS rfl rfl rfl ?_ | refine sL2 hS rfl rfl rfl ?_ | refine sL3 hS rfl rfl ?_ | refine sL4 hS rfl rfl ?_ | refine sL5 hS rfl rfl ?_ | refine sL6 hS rfl rfl ?_ | refine sL7 hS rfl rfl ?_)) | (refine oP ?_; ((first | refine sP1 hS rfl rfl rfl ?_ | refine sP2 hS rfl rfl rfl ?_ | refine sP3 hS rfl rfl rfl ?_); clear hS; first | ((fail_if_success guard_hyp L1); intro L1 cl1 w hL1 hM1 hS) | ((fail_if_success guard_hyp L2); intro L2 cl2 w hL2 hM2 hS) | fail)) | ((first | (refine oB ?_; first | refine sB1 hS rfl rfl ?_ | refine sB2 hS rfl rfl ?_) | (refine oC ?_; first | refine sC0 hS rfl ?_ | refine sC1 hS rfl rfl ?_ | refine sC2 hS rfl rfl ?_ | refine sC3 hS rfl rfl rfl ?_ | refine sC4 hS rfl rfl rfl ?_)); clear hS; first | ((fail_if_success guard_hyp g1); intro g1 w hS) | ((fail_if_success guard_hyp g2); intro g2 w hS) | ((fail_if_success guard_hyp g3); intro g3 w hS) | fail) | fail)
      go_ret
      exact ⟨l, HL.out, by omega, hS.ret rfl⟩
set_option maxRecDepth 100000 in
set_option maxHeartbeats 3200000 in
theorem rglobal_any {S T : Nat → Prop} (v : PV) (p : Pat) (X : Option Addr) (cx : Nat) (xs : List Int) (w0 : World) (hp : PatAt S w0 v p) (hg : Good p) (hx : RI T w0 X xs) (hl : xs.length = p.len.length) (ha : ∀ q, q < p.len.length → CkOk p (q, nth xs q)) :
    Calls Try.prog 50 #[v.val p, .slice X p.len.length cx] w0 (GlobRes p xs w0) := by
  have hS := St.start w0 NoM
  have hn5 := hg.n5
  have hn2 := hg.n2
  have HP := Lib.hid (And.intro hp (And.intro hg ha))
  have HL := Lib.hid hl
  clear hp hg hl ha
  obtain ⟨A1, c1, A2, c2, A3, c3⟩ := v
  simp only [PV.val] at *
  go_enter Try.func50, Try.ntmps50
  go_wp2_with (first | ((first | (refine oB ?_; first | refine sB1 hS rfl rfl ?_ | refine sB2 hS rfl rfl ?_)); clear hS; first | ((fail_if_success guard_hyp g1); intro g1 w hS) | ((fail_if_success guard_hyp g2); intro g2 w hS) | fail) | fail)
  go_loopw [5] (fun s5 wr => ∃ (k : Nat), k ≤ p.len.length ∧ s5 = .int .i64 k ∧ Hid (∀ q, q < k → GlobQ p xs q) ∧ St w0 NoM [blk g1 [.slice A1 p.len.length c1, .slice A2 p.ck.length c2, .slice A3 p.arcs.length c3] 28] wr) (fun s5 _ => p.len.length - (intOf s5).toNat)
  case atStart => exact ⟨0, by omega, rfl, Lib.hid (fun q hq => absurd hq (by omega)), hS⟩
  case round =>
    obtain ⟨k, hk, rfl, HQ, hS⟩ := hrel
    by_cases hlt : k < p.len.length
    · obtain ⟨b1, o1, hX, _, hca⟩ := hx.atNS (k := k) (by rw [HL.out]; exact hlt)
      subst hX
      have HA := Lib.hid (HP.out.2.2 k hlt)
      have hk' : (k : Int) < p.len.length := by omega
      generalize hm : nth xs k = m at *
      go_wp2_with (first | ((first | (refine oB ?_; first | refine sB1 hS rfl rfl ?_ | refine sB2 hS rfl rfl ?_)); clear hS; first | ((fail_if_success guard_hyp g1); intro g1 w hS) | ((fail_if_success guard_hyp g2); intro g2 w hS) | fail) | fail)
      refine dr_start0 []  hS (by kernel_rfl) rfl ?_; clear hS; intro w hS
      first | refine dL1 hS 0 rfl rfl rfl rfl ?_ | refine dL2 hS 0 rfl rfl rfl rfl ?_ | refine dL3 hS 0 rfl rfl rfl ?_ | refine dL4 hS 0 rfl rfl rfl ?_ | refine dL5 hS 0 rfl rfl rfl ?_ | refine dL6 hS 0 rfl rfl rfl ?_ | refine dL7 hS 0 rfl rfl rfl ?_
      (try simp only [Act.put, nA, nB, nC])
      refine dM hS 1 rfl rfl rfl ?_
      (try simp only [Act.put, nA, nB, nC])
      refine dM hS 2 rfl rfl rfl ?_
      (try simp only [Act.put, nA, nB, nC])
      refine dM hS 3 rfl rfl rfl ?_
      (try simp only [Act.put, nA, nB, nC])
      refine dP hS 4 rfl rfl ?_
      (try simp only [Act.put, nA, nB, nC])
      first | refine dL1 hS 5 rfl rfl rfl rfl ?_ | refine dL2 hS 5 rfl rfl rfl rfl ?_ | refine dL3 hS 5 rfl rfl rfl ?_ | refine dL4 hS 5 rfl rfl rfl ?_ | refine dL5 hS 5 rfl rfl rfl ?_ | refine dL6 hS 5 rfl rfl rfl ?_ | refine dL7 hS 5 rfl rfl rfl ?_
      (try simp only [Act.put, nA, nB, nC])
      refine dr_one 6 (by kernel_rfl) rfl ?_
      (refine st_call rfl (by kernel_rfl) rfl ?_; go_at_call 41; refine (rckpt_m rfl rfl rfl rfl (HP.out.1.ext hS.toExt) HP.out.2.1 HA.out).mono ?_; rintro e w ⟨c, hclk, hvl, L5, c5, rfl, ho, hx1⟩; replace hS := hS.addRow ho hx1; have HC := Lib.hid hclk; have HVL := Lib.hid hvl; clear ho hclk hvl)
      (try simp only [Act.put, nA, nB, nC])
      refine dr_end hS ?_
      refine dA hS 7 rfl rfl rfl ?_
      (try simp only [Act.put, nA, nB, nC])
      refine dr_done (by kernel_rfl) ?_
      obtain ⟨g5, rfl⟩ := hS.rowSome L5 (by omega)
      go_wp2_with (first | ((first | (refine oB ?_; first | refine sB1 hS rfl rfl ?_ | refine sB2 hS rfl rfl ?_)); clear hS; first | ((fail_if_success guard_hyp g1); intro g1 w hS) | ((fail_if_success guard_hyp g2); intro g2 w hS) | fail) | fail)
      go_loopw [7] (fun s7 wr => ∃ (j : Nat), j ≤ p.len.length ∧ s7 = .int .i64 j ∧ Hid (∀ s, s < j → s ≠ k → nth (vecN p c) s ≤ nth xs s) ∧ St w0 NoM [row (.slice (some ⟨g5, 0, none⟩) p.len.length c5) 3 1 p.len.length (ints (vecN p c)), blk g1 [.slice A1 p.len.length c1, .slice A2 p.ck.length c2, .slice A3 p.arcs.length c3] 28] wr) (fun s7 _ => p.len.length - (intOf s7).toNat)
      case atStart => exact ⟨0, by omega, rfl, Lib.hid (fun q hq => absurd hq (by omega)), hS.re⟩
      case round =>
        obtain ⟨j, hj, rfl, HJ, hS⟩ := hrel
        by_cases hjl : j < p.len.length
        · obtain ⟨b3, o3, hX3, _, hcj⟩ := hx.atNS (k := j) (by rw [HL.out]; exact hjl)
          injection hX3 with hX3
          injection hX3 with e1 e2
          subst e1 e2
          have hcell : (ints (vecN p c))[j]? = some (.int .i64 (nth (vecN p c) j)) := by rw [ints_get (by rw [HVL.out]; exact hjl), nth_eq (by rw [HVL.out]; exact hjl)]
          have hj' : (j : Int) < p.len.length := by omega
          generalize hy : nth (vecN p c) j = y at *
          generalize hz : nth xs j = z at *
          by_cases hjk : j = k
          · subst hjk
            have e1 : ((j : Int) != (j : Int)) = false := by simp
            go_wp2_with (first | ((first | (refine oB ?_; first | refine sB1 hS rfl rfl ?_ | refine sB2 hS rfl rfl ?_)); clear hS; first | ((fail_if_success guard_hyp g1); intro g1 w hS) | ((fail_if_success guard_hyp g2); intro g2 w hS) | fail) | fail)
            refine dr_start0 []  hS (by kernel_rfl) rfl ?_; clear hS; intro w hS
            refine dM hS 0 rfl rfl rfl ?_
            (try simp only [Act.put, nA, nB, nC])
            refine dM hS 1 rfl rfl rfl ?_
            (try simp only [Act.put, nA, nB, nC])
            refine dP hS 2 rfl rfl ?_
            (try simp only [Act.put, nA, nB, nC])
            refine dM hS 3 rfl rfl rfl ?_
            (try simp only [Act.put, nA, nB, nC])
            first | refine dM hS 4 rfl rfl rfl ?_ | refine dQ hS 4 rfl rfl ?_
            (try simp only [Act.put, nA, nB, nC])
            first | refine dM hS 5 rfl rfl rfl ?_ | refine dQ hS 5 rfl rfl ?_
            (try simp only [Act.put, nA, nB, nC])
            first | refine dP hS 6 rfl rfl ?_ | refine dQ hS 6 rfl rfl ?_
            (try simp only [Act.put, nA, nB, nC])
            first | refine dL1 hS 7 rfl rfl rfl rfl ?_ | refine dL2 hS 7 rfl rfl rfl rfl ?_ | refine dL3 hS 7 rfl rfl rfl ?_ | refine dL4 hS 7 rfl rfl rfl ?_ | refine dL5 hS 7 rfl rfl rfl ?_ | refine dL6 hS 7 rfl rfl rfl ?_ | refine dL7 hS 7 rfl rfl rfl ?_ | refine dQ hS 7 rfl rfl ?_
            (try simp only [Act.put, nA, nB, nC])
            first | refine dM hS 8 rfl rfl rfl ?_ | refine dQ hS 8 rfl rfl ?_
            (try simp only [Act.put, nA, nB, nC])
            first | refine dM hS 9 rfl rfl rfl ?_ | refine dQ hS 9 rfl rfl ?_
            (try simp only [Act.put, nA, nB, nC])
            first | refine dP hS 10 rfl rfl ?_ | refine dQ hS 10 rfl rfl ?_
            (try simp only [Act.put, nA, nB, nC])
            first | refine dL1 hS 11 rfl rfl rfl rfl ?_ | refine dL2 hS 11 rfl rfl rfl rfl ?_ | refine dL3 hS 11 rfl rfl rfl ?_ | refine dL4 hS 11 rfl rfl rfl ?_ | refine dL5 hS 11 rfl rfl rfl ?_ | refine dL6 hS 11 rfl rfl rfl ?_ | refine dL7 hS 11 rfl rfl rfl ?_ | refine dQ hS 11 rfl rfl ?_
            (try simp only [Act.put, nA, nB, nC])
            first | refine dP hS 12 rfl rfl ?_ | refine dQ hS 12 rfl rfl ?_
            (try simp only [Act.put, nA, nB, nC])
            refine dP hS 13 rfl rfl ?_
            (try simp only [Act.put, nA, nB, nC])
            refine dr_done (by kernel_rfl) ?_
            go_wp2_with (first | ((first | (refine oB ?_; first | refine sB1 hS rfl rfl ?_ | refine sB2 hS rfl rfl ?_)); clear hS; first | ((fail_if_success guard_hyp g1); intro g1 w hS) | ((fail_if_success guard_hyp g2); intro g2 w hS) | fail) | fail)
            go_roundw
            case measure => simp [intOf]; omega
            refine ⟨j + 1, by omega, by go_num, Lib.hid (fun s hs hne => HJ.out s (by omega) hne), hS.re⟩
          · have e1 : ((j : Int) != (k : Int)) = true := by simp; omega
            by_cases hyz : z < y
            · have d2 : decide (z < y) = true := decide_eq_true hyz
              go_wp2_with (first | ((first | (refine oB ?_; first | refine sB1 hS rfl rfl ?_ | refine sB2 hS rfl rfl ?_)); clear hS; first | ((fail_if_success guard_hyp g1); intro g1 w hS) | ((fail_if_success guard_hyp g2); intro g2 w hS) | fail) | fail)
              refine dr_start0 []  hS (by kernel_rfl) rfl ?_; clear hS; intro w hS
              refine dM hS 0 rfl rfl rfl ?_
              (try simp only [Act.put, nA, nB, nC])
              refine dM hS 1 rfl rfl rfl ?_
              (try simp only [Act.put, nA, nB, nC])
              refine dP hS 2 rfl rfl ?_
              (try simp only [Act.put, nA, nB, nC])
              refine dM hS 3 rfl rfl rfl ?_
              (try simp only [Act.put, nA, nB, nC])
              first | refine dM hS 4 rfl rfl rfl ?_ | refine dQ hS 4 rfl rfl ?_
              (try simp only [Act.put, nA, nB, nC])
              first | refine dM hS 5 rfl rfl rfl ?_ | refine dQ hS 5 rfl rfl ?_
              (try simp only [Act.put, nA, nB, nC])
              first | refine dP hS 6 rfl rfl ?_ | refine dQ hS 6 rfl rfl ?_
              (try simp only [Act.put, nA, nB, nC])
              first | refine dL1 hS 7 rfl rfl rfl rfl ?_ | refine dL2 hS 7 rfl rfl rfl rfl ?_ | refine dL3 hS 7 rfl rfl rfl ?_ | refine dL4 hS 7 rfl rfl rfl ?_ | refine dL5 hS 7 rfl rfl rfl ?_ | refine dL6 hS 7 rfl rfl rfl ?_ | refine dL7 hS 7 rfl rfl rfl ?_ | refine dQ hS 7 rfl rfl ?_
              (try simp only [Act.put, nA, nB, nC])
              first | refine dM hS 8 rfl rfl rfl ?_ | refine dQ hS 8 rfl rfl ?_
              (try simp only [Act.put, nA, nB, nC])
              first | refine dM hS 9 rfl rfl rfl ?_ | refine dQ hS 9 rfl rfl ?_
              (try simp only [Act.put, nA, nB, nC])
              first | refine dP hS 10 rfl rfl ?_ | refine dQ hS 10 rfl rfl ?_
              (try simp only [Act.put, nA, nB, nC])
              first | refine dL1 hS 11 rfl rfl rfl rfl ?_ | refine dL2 hS 11 rfl rfl rfl rfl ?_ | refine dL3 hS 11 rfl rfl rfl ?_ | refine dL4 hS 11 rfl rfl rfl ?_ | refine dL5 hS 11 rfl rfl rfl ?_ | refine dL6 hS 11 rfl rfl rfl ?_ | refine dL7 hS 11 rfl rfl rfl ?_ | refine dQ hS 11 rfl rfl ?_
              (try simp only [Act.put, nA, nB, nC])
              first | refine dP hS 12 rfl rfl ?_ | refine dQ hS 12 rfl rfl ?_
              (try simp only [Act.put, nA, nB, nC])
              refine dP hS 13 rfl rfl ?_
              (try simp only [Act.put, nA, nB, nC])
              refine dr_done (by kernel_rfl) ?_
              go_wp2_with (first | ((first | (refine oB ?_; first | refine sB1 hS rfl rfl ?_ | refine sB2 hS rfl rfl ?_)); clear hS; first | ((fail_if_success guard_hyp g1); intro g1 w hS) | ((fail_if_success guard_hyp g2); intro g2 w hS) | fail) | fail)
              go_ret
              refine ⟨false, ⟨fun h => (by cases h), fun h => ?_⟩, rfl, hS.toExt⟩
              have := h k hlt c (by rw [hm]; exact HC.out) j hjl hjk
              rw [hy, hz] at this
              omega
            · have d2 : decide (z < y) = false := decide_eq_false hyz
              go_wp2_with (first | ((first | (refine oB ?_; first | refine sB1 hS rfl rfl ?_ | refine sB2 hS rfl rfl ?_)); clear hS; first | ((fail_if_success guard_hyp g1); intro g1 w hS) | ((fail_if_success guard_hyp g2); intro g2 w hS) | fail) | fail)
              refine dr_start0 []  hS (by kernel_rfl) rfl ?_; clear hS; intro w hS
              refine dM hS 0 rfl rfl rfl ?_
              (try simp only [Act.put, nA, nB, nC])
              refine dM hS 1 rfl rfl rfl ?_
              (try simp only [Act.put, nA, nB, nC])
              refine dP hS 2 rfl rfl ?_
              (try simp only [Act.put, nA, nB, nC])
              refine dM hS 3 rfl rfl rfl ?_
              (try simp only [Act.put, nA, nB, nC])
              first | refine dM hS 4 rfl rfl rfl ?_ | refine dQ hS 4 rfl rfl ?_
              (try simp only [Act.put, nA, nB, nC])
              first | refine dM hS 5 rfl rfl rfl ?_ | refine dQ hS 5 rfl rfl ?_
              (try simp only [Act.put, nA, nB, nC])
              first | refine dP hS 6 rfl rfl ?_ | refine dQ hS 6 rfl rfl ?_
              (try simp only [Act.put, nA, nB, nC])
              first | refine dL1 hS 7 rfl rfl rfl rfl ?_ | refine dL2 hS 7 rfl rfl rfl rfl ?_ | refine dL3 hS 7 rfl rfl rfl ?_ | refine dL4 hS 7 rfl rfl rfl ?_ | refine dL5 hS 7 rfl rfl rfl ?_ | refine dL6 hS 7 rfl rfl rfl ?_ | refine dL7 hS 7 rfl rfl rfl ?_ | refine dQ hS 7 rfl rfl ?_
              (try simp only [Act.put, nA, nB, nC])
              first | refine dM hS 8 rfl rfl rfl ?_ | refine dQ hS 8 rfl rfl ?_
              (try simp only [Act.put, nA, nB, nC])
              first | refine dM hS 9 rfl rfl rfl ?_ | refine dQ hS 9 rfl rfl ?_
              (try simp only [Act.put, nA, nB, nC])
              first | refine dP hS 10 rfl rfl ?_ | refine dQ hS 10 rfl rfl ?_
              (try simp only [Act.put, nA, nB, nC])
              first | refine dL1 hS 11 rfl rfl rfl rfl ?_ | refine dL2 hS 11 rfl rfl rfl rfl ?_ | refine dL3 hS 11 rfl rfl rfl ?_ | refine dL4 hS 11 rfl rfl rfl ?_ | refine dL5 hS 11 rfl rfl rfl ?_ | refine dL6 hS 11 rfl rfl rfl ?_ | refine dL7 hS 11 rfl rfl rfl ?_ | refine dQ hS 11 rfl rfl ?_
              (try simp only [Act.put, nA, nB, nC])
              first | refine dP hS 12 rfl rfl ?_ | refine dQ hS 12 rfl rfl ?_
              (try simp only [Act.put, nA, nB, nC])
              refine dP hS 13 rfl rfl ?_
              (try simp only [Act.put, nA, nB, nC])
              refine dr_done (by kernel_rfl) ?_
              go_wp2_with (first | ((first | (refine oB ?_; first | refine sB1 hS rfl rfl ?_ | refine sB2 hS rfl rfl ?_)); clear hS; first | ((fail_if_success guard_hyp g1); intro g1 w hS) | ((fail_if_success guard_hyp g2); intro g2 w hS) | fail) | fail)
              go_roundw
              case measure => simp [intOf]; omega
              refine ⟨j + 1, by omega, by go_num, Lib.hid (fun s hs hne => ?_), hS.re⟩
              by_cases hsj : s = j
              · subst hsj; rw [hy, hz]; omega
              · exact HJ.out s (by omega) hne
        · have hje : j = p.len.length := by omega
          subst hje
          go_wp2_with (first | ((first | (refine oB ?_; first | refine sB1 hS rfl rfl ?_ | refine sB2 hS rfl rfl ?_)); clear hS; first | ((fail_if_success guard_hyp g1); intro g1 w hS) | ((fail_if_success guard_hyp g2); intro g2 w hS) | fail) | fail)
          go_roundw
          case measure => simp [intOf]; omega
          refine ⟨k + 1, by omega, by go_num, Lib.hid (fun q hq => ?_), hS.re⟩
          by_cases hqk : q = k
          · subst hqk
            intro c' hc' s hs hne
            rw [hm] at hc'
            rw [hc'.unique HC.out]
            exact HJ.out s hs hne
          · exact HQ.out q (by omega)
    · have hke : k = p.len.length := by omega
      subst hke
      go_wp2_with (first | ((first | (refine oB ?_; first | refine sB1 hS rfl rfl ?_ | refine sB2 hS rfl rfl ?_)); clear hS; first | ((fail_if_success guard_hyp g1); intro g1 w hS) | ((fail_if_success guard_hyp g2); intro g2 w hS) | fail) | fail)
      go_ret
      exact ⟨true, ⟨fun _ => HQ.out, fun _ => rfl⟩, rfl, hS.toExt⟩
section
variable {S : Nat → Prop} {A1 A2 A3 : Option Addr} {c1 c2 c3 n1 n2 n3 : Nat} {p : Pat} {w : World}
theorem rdepends_n {q r : Nat} {n m z1 z2 : Int} (e1 : p.len.length = n1) (e2 : p.ck.length = n2) (e3 : p.arcs.length = n3) (hz1 : z1 = q) (hz2 : z2 = r) (hp : PatAt S w ⟨A1, c1, A2, c2, A3, c3⟩ p) (hg : Good p) (hb : CkOk p (q, n)) (ha : CkOk p (r, m)) :
    Calls Try.prog 47 #[.agg #[.slice A1 n1 c1, .slice A2 n2 c2, .slice A3 n3 c3], .agg #[.int .i64 z1, .int .i64 n], .agg #[.int .i64 z2, .int .i64 m]] w fun e w' => ∃ c, IsClk p q (ckIx p q n) c ∧ e = .returned (.bool (decide (m < nth (vecN p c) r))) ∧ Ext w w' := by
  subst e1 e2 e3 hz1 hz2; exact rdepends_any ⟨A1, c1, A2, c2, A3, c3⟩ p q r n m w hp hg hb ha
theorem depends_n {q r : Nat} {n m z1 z2 : Int} (e1 : p.len.length = n1) (e2 : p.ck.length = n2) (e3 : p.arcs.length = n3) (hz1 : z1 = q) (hz2 : z2 = r) (hp : PatAt S w ⟨A1, c1, A2, c2, A3, c3⟩ p) (hg : Good p) (hb : CkOk p (q, n)) (ha : CkOk p (r, m)) :
    Calls Try.prog 46 #[.agg #[.slice A1 n1 c1, .slice A2 n2 c2, .slice A3 n3 c3], .agg #[.int .i64 z1, .int .i64 n], .agg #[.int .i64 z2, .int .i64 m]] w fun e w' => ∃ c, IsClk p q (ckIx p q n) c ∧ e = .returned (.bool (decide (m < nth (vecN p c) r))) ∧ Ext w w' := by
  subst e1 e2 e3 hz1 hz2; exact depends_any ⟨A1, c1, A2, c2, A3, c3⟩ p q r n m w hp hg hb ha
theorem rglobal_n {T : Nat → Prop} {X : Option Addr} {cx n : Nat} {xs : List Int} (e1 : p.len.length = n1) (e2 : p.ck.length = n2) (e3 : p.arcs.length = n3) (hn : n = n1) (hp : PatAt S w ⟨A1, c1, A2, c2, A3, c3⟩ p) (hg : Good p) (hx : RI T w X xs) (hl : xs.length = p.len.length) (ha : ∀ q, q < p.len.length → CkOk p (q, nth xs q)) :
    Calls Try.prog 50 #[.agg #[.slice A1 n1 c1, .slice A2 n2 c2, .slice A3 n3 c3], .slice X n cx] w (GlobRes p xs w) := by
  subst e1 e2 e3 hn; exact rglobal_any ⟨A1, c1, A2, c2, A3, c3⟩ p X cx xs w hp hg hx hl ha
end
end Go.Proofs.Ytkflmichekpfbaa
