/- The reference's Append: what it adds, or that it refuses. Conditions: the pattern is good and lies in memory. -/
import Derived.Test.YtkflmichekpfbaaGe
namespace Go.Proofs.Ytkflmichekpfbaa
open Go.RowKit
set_option linter.unusedVariables false
set_option linter.unusedSimpArgs false

section
variable {P : Program} {ops : Array Oper} {Q : Exit → Act → World → Prop} {a : Act} {w w0 : World} {M : Nat → Prop} {cs ds : List (Chunk w0 M)} {f : Chunk w0 M → List (Chunk w0 M)} {rest : List Oper} {d : Option Tmp} {tt ty t e : TypeId} {pos : String} {af : Array Edge} {gd : Option (Nat × Bool)} {x y : Operand}
/-- append of arcs onto nil -/
theorem st_appOA {bytes c m : Nat} {az : List Arc} {A : Option Addr} {S : Nat → Prop} [hT : ElemC P t e 4 bytes] (hS : St w0 M cs w) (hw : Region.wanted ⟨d, .call { callee := .builtin .append, args := #[x, y], argTypes := #[t, t] }, tt, pos, af, gd⟩ (yielded ops a.tmps) = true)
    (hx' : oval a x = some (.slice none 0 0)) (hy' : oval a y = some (.slice A m c)) (hr : RA S w A az) (hm : az.length = m) (hb : m * bytes ≤ 140737488355328)
    (k : ∀ L c' w', m ≤ c' → c' ≤ 9223372036854775807 → St w0 M (row (.slice L m c') e 4 m (az.flatMap arcCells) :: cs) w' → wpList P ops Q rest (a.put d (.slice L m c')) w') :
    wpList P ops Q (⟨d, .call { callee := .builtin .append, args := #[x, y], argTypes := #[t, t] }, tt, pos, af, gd⟩ :: rest) a w := by
  subst hm
  exact st_appN hS hw hx' hy' hr.rv (flat_length az) (by
    intro u hu
    obtain ⟨b, _, hb⟩ := List.mem_flatMap.1 hu
    exact arcCells_one b u hb) hb k
end
set_option maxRecDepth 100000 in
set_option maxHeartbeats 1600000 in
theorem rappend_any {S : Nat → Prop} (v : PV) (p : Pat) (q fr se : Int) (w0 : World) (hp : PatAt S w0 v p) (hg : Good p) :
    Calls Try.prog 32 #[v.val p, .int .i64 q, .int .i64 fr, .int .i64 se] w0 (RetPB S w0 (appRes p q fr se).1 (appRes p q fr se).2) := by
  have hS := St.start w0 NoM
  have hn5 := hg.n5
  have hn2 := hg.n2
  have hfew := hg.few
  have HP := Lib.hid (And.intro hp hg)
  have h1 := hp.len
  have h3 := hp.arcs
  have hl3 := hp.l3
  have hm3 := hp.m3
  have hl1 := hp.l1
  have hm1 := hp.m1
  clear hp hg
  obtain ⟨A1, c1, A2, c2, A3, c3⟩ := v
  simp only [PV.val] at *
  by_cases hq : 0 ≤ q ∧ q < p.len.length
  rotate_left
  · rw [appRes_no (fun h => hq h.1)]
    have dq : decide (0 ≤ q ∧ q < (p.len.length : Int)) = false := decide_eq_false hq
    go_enter Try.func32, Try.ntmps32
    go_wp2_with (first | (go_at_call 70; refine (proc_any _ _ _ _ _ _ _ _ _ _ _).mono ?_; rintro e w ⟨rfl, hx1⟩; replace hS := hS.ext hx1; first | rw [dq] | rw [df]) | (refine oL ?_; (first | refine sL1 hS rfl rfl rfl ?_ | refine sL2 hS rfl rfl rfl ?_ | refine sL3 hS rfl rfl ?_ | refine sL4 hS rfl rfl ?_ | refine sL5 hS rfl rfl ?_ | refine sL6 hS rfl rfl ?_ | refine sL7 hS rfl rfl ?_)) | (refine oS ?_; ((first | refine sS1 hS rfl rfl rfl ?_ | refine sS2 hS rfl rfl rfl ?_ | refine sS3 hS rfl rfl rfl ?_ | refine sS4 hS rfl rfl rfl ?_ | refine sS5 hS rfl rfl rfl ?_); clear hS; intro w hS)) | ((first | (refine oB ?_; first | refine sB1 hS rfl rfl ?_ | refine sB2 hS rfl rfl ?_) | refine sN1 hS rfl ?_); clear hS; first | ((fail_if_success guard_hyp g1); intro g1 w hS) | ((fail_if_success guard_hyp g2); intro g2 w hS) | ((fail_if_success guard_hyp g3); intro g3 w hS) | ((fail_if_success guard_hyp g4); intro g4 w hS) | ((fail_if_success guard_hyp g5); intro g5 w hS) | fail) | fail)
    exact st_retCT hS rfl rfl rfl rfl rfl (RetPB.no hS.toExt)
  obtain ⟨k, rfl⟩ : ∃ k : Nat, q = k := ⟨q.toNat, by omega⟩
  have dq : decide (0 ≤ (k : Int) ∧ (k : Int) < (p.len.length : Int)) = true := decide_eq_true hq
  have hk : k < p.len.length := by omega
  have hk' : (k : Int) < p.len.length := by omega
  obtain ⟨b1, o1, rfl, _, hca⟩ := h1.atNS hk
  have HQ := Lib.hid hq
  clear hq
  have hlo := HP.out.2.lo k hk
  have hhi := HP.out.2.hi k hk
  by_cases h64 : nth p.len k < 64
  rotate_left
  · rw [appRes_no (fun h => h64 h.2.1)]
    generalize hx : nth p.len k = x at *
    go_enter Try.func32, Try.ntmps32
    go_wp2_with (first | (go_at_call 70; refine (proc_any _ _ _ _ _ _ _ _ _ _ _).mono ?_; rintro e w ⟨rfl, hx1⟩; replace hS := hS.ext hx1; first | rw [dq] | rw [df]) | (refine oL ?_; (first | refine sL1 hS rfl rfl rfl ?_ | refine sL2 hS rfl rfl rfl ?_ | refine sL3 hS rfl rfl ?_ | refine sL4 hS rfl rfl ?_ | refine sL5 hS rfl rfl ?_ | refine sL6 hS rfl rfl ?_ | refine sL7 hS rfl rfl ?_)) | (refine oS ?_; ((first | refine sS1 hS rfl rfl rfl ?_ | refine sS2 hS rfl rfl rfl ?_ | refine sS3 hS rfl rfl rfl ?_ | refine sS4 hS rfl rfl rfl ?_ | refine sS5 hS rfl rfl rfl ?_); clear hS; intro w hS)) | ((first | (refine oB ?_; first | refine sB1 hS rfl rfl ?_ | refine sB2 hS rfl rfl ?_) | refine sN1 hS rfl ?_); clear hS; first | ((fail_if_success guard_hyp g1); intro g1 w hS) | ((fail_if_success guard_hyp g2); intro g2 w hS) | ((fail_if_success guard_hyp g3); intro g3 w hS) | ((fail_if_success guard_hyp g4); intro g4 w hS) | ((fail_if_success guard_hyp g5); intro g5 w hS) | fail) | fail)
    exact st_retCT hS rfl rfl rfl rfl rfl (RetPB.no hS.toExt)
  have HA := Lib.hid (show appRes p (k : Int) fr se = if (fr = -1 ∨ ((0 ≤ fr ∧ fr < p.len.length) ∧ fr ≠ k ∧ 0 ≤ se ∧ se ≤ nth p.len fr.toNat ∧ p.arcs.length < 256)) then (appPat p k fr se, true) else (noPat, false) by
    rw [appRes]; exact ite_congr (propext ⟨fun h => h.2.2, fun h => ⟨HQ.out, h64, h⟩⟩) (fun _ => rfl) (fun _ => rfl))
  generalize hres : appRes p (k : Int) fr se = res at *
  clear hres
  have HM := Lib.hid (show p.len.set k (nth p.len k + 1) = (p.more k).len from rfl)
  have hcell : (ints p.len)[k]? = some (.int .i64 (nth p.len k)) := by rw [ints_get hk, nth_eq hk]
  have hcell2 : (ints (p.len.set k (nth p.len k + 1)))[k]? = some (.int .i64 (nth p.len k + 1)) := by rw [ints_get (by simpa using hk)]; simp
  generalize hx : nth p.len k = x at *
  go_enter Try.func32, Try.ntmps32
  go_upto_region 3 with (first | (go_at_call 70; refine (proc_any _ _ _ _ _ _ _ _ _ _ _).mono ?_; rintro e w ⟨rfl, hx1⟩; replace hS := hS.ext hx1; first | rw [dq] | rw [df]) | (refine oL ?_; (first | refine sL1 hS rfl rfl rfl ?_ | refine sL2 hS rfl rfl rfl ?_ | refine sL3 hS rfl rfl ?_ | refine sL4 hS rfl rfl ?_ | refine sL5 hS rfl rfl ?_ | refine sL6 hS rfl rfl ?_ | refine sL7 hS rfl rfl ?_)) | (refine oS ?_; ((first | refine sS1 hS rfl rfl rfl ?_ | refine sS2 hS rfl rfl rfl ?_ | refine sS3 hS rfl rfl rfl ?_ | refine sS4 hS rfl rfl rfl ?_ | refine sS5 hS rfl rfl rfl ?_); clear hS; intro w hS)) | ((first | (refine oB ?_; first | refine sB1 hS rfl rfl ?_ | refine sB2 hS rfl rfl ?_) | refine sN1 hS rfl ?_); clear hS; first | ((fail_if_success guard_hyp g1); intro g1 w hS) | ((fail_if_success guard_hyp g2); intro g2 w hS) | ((fail_if_success guard_hyp g3); intro g3 w hS) | ((fail_if_success guard_hyp g4); intro g4 w hS) | ((fail_if_success guard_hyp g5); intro g5 w hS) | fail) | fail)
  go_cut [10] (fun s10 wx => ∃ (g L1g k1 : Nat) (L3 : Option Addr) (k3 : Nat), s10 = .pointer (some ⟨g, 0, none⟩) ∧ capOk p.len.length k1 ∧ capOk p.arcs.length k3 ∧ St w0 NoM [blk g [.slice (some ⟨L1g, 0, none⟩) p.len.length k1, .slice A2 p.ck.length c2, .slice L3 p.arcs.length k3] 28, row (.slice (some ⟨L1g, 0, none⟩) p.len.length k1) 3 1 p.len.length (ints p.len), row (.slice L3 p.arcs.length k3) 57 4 p.arcs.length (p.arcs.flatMap arcCells), blk g2 [.slice none 0 0, .slice none 0 0, .slice none 0 0] 28, blk g1 [.slice (some ⟨b1, o1, none⟩) p.len.length c1, .slice A2 p.ck.length c2, .slice A3 p.arcs.length c3] 28] wx)
  case first =>
    refine dr_start0 [10]  hS (by kernel_rfl) rfl ?_; clear hS; intro w hS
    refine dP hS 0 rfl rfl ?_
    (try simp only [Act.put, nA, nB, nC])
    first | refine dL1 hS 1 rfl rfl rfl rfl ?_ | refine dL2 hS 1 rfl rfl rfl rfl ?_ | refine dL3 hS 1 rfl rfl rfl ?_ | refine dL4 hS 1 rfl rfl rfl ?_ | refine dL5 hS 1 rfl rfl rfl ?_ | refine dL6 hS 1 rfl rfl rfl ?_ | refine dL7 hS 1 rfl rfl rfl ?_
    (try simp only [Act.put, nA, nB, nC])
    refine dP hS 3 rfl rfl ?_
    (try simp only [Act.put, nA, nB, nC])
    first | refine dL1 hS 4 rfl rfl rfl rfl ?_ | refine dL2 hS 4 rfl rfl rfl rfl ?_ | refine dL3 hS 4 rfl rfl rfl ?_ | refine dL4 hS 4 rfl rfl rfl ?_ | refine dL5 hS 4 rfl rfl rfl ?_ | refine dL6 hS 4 rfl rfl rfl ?_ | refine dL7 hS 4 rfl rfl rfl ?_
    (try simp only [Act.put, nA, nB, nC])
    refine dP hS 5 rfl rfl ?_
    (try simp only [Act.put, nA, nB, nC])
    first | refine dL1 hS 6 rfl rfl rfl rfl ?_ | refine dL2 hS 6 rfl rfl rfl rfl ?_ | refine dL3 hS 6 rfl rfl rfl ?_ | refine dL4 hS 6 rfl rfl rfl ?_ | refine dL5 hS 6 rfl rfl rfl ?_ | refine dL6 hS 6 rfl rfl rfl ?_ | refine dL7 hS 6 rfl rfl rfl ?_
    (try simp only [Act.put, nA, nB, nC])
    refine dr_two 2 9 (by kernel_rfl) rfl rfl ?_ ?_
    first | (refine st_appON hS rfl rfl rfl (h1.ext hS.toExt) rfl (by omega) ?_; clear hS; intro L1 k1 w hL1 hM1 hS) | (refine st_appOA hS rfl rfl rfl (h3.into (Into.ofExt hS.toExt)) rfl (by omega) ?_; clear hS; intro L3 k3 w hL3 hM3 hS) | ((first | refine sP1 hS rfl rfl rfl ?_ | refine sP2 hS rfl rfl rfl ?_ | refine sP3 hS rfl rfl rfl ?_); clear hS; first | ((fail_if_success guard_hyp L1); intro L1 cl1 w hL1 hM1 hS) | ((fail_if_success guard_hyp L2); intro L2 cl2 w hL2 hM2 hS) | ((fail_if_success guard_hyp L3); intro L3 cl3 w hL3 hM3 hS) | ((fail_if_success guard_hyp L4); intro L4 cl4 w hL4 hM4 hS) | fail) | fail
    (try simp only [Act.put, nA, nB, nC])
    refine dr_end hS ?_
    refine dr_two 7 9 (by kernel_rfl) rfl rfl ?_ ?_
    first | (refine st_appON hS rfl rfl rfl (h1.ext hS.toExt) rfl (by omega) ?_; clear hS; intro L1 k1 w hL1 hM1 hS) | (refine st_appOA hS rfl rfl rfl (h3.into (Into.ofExt hS.toExt)) rfl (by omega) ?_; clear hS; intro L3 k3 w hL3 hM3 hS) | ((first | refine sP1 hS rfl rfl rfl ?_ | refine sP2 hS rfl rfl rfl ?_ | refine sP3 hS rfl rfl rfl ?_); clear hS; first | ((fail_if_success guard_hyp L1); intro L1 cl1 w hL1 hM1 hS) | ((fail_if_success guard_hyp L2); intro L2 cl2 w hL2 hM2 hS) | ((fail_if_success guard_hyp L3); intro L3 cl3 w hL3 hM3 hS) | ((fail_if_success guard_hyp L4); intro L4 cl4 w hL4 hM4 hS) | fail) | fail
    (try simp only [Act.put, nA, nB, nC])
    refine dr_end hS ?_
    refine dP hS 8 rfl rfl ?_
    (try simp only [Act.put, nA, nB, nC])
    refine dr_one 9 (by kernel_rfl) rfl ?_
    first | (refine st_appON hS rfl rfl rfl (h1.ext hS.toExt) rfl (by omega) ?_; clear hS; intro L1 k1 w hL1 hM1 hS) | (refine st_appOA hS rfl rfl rfl (h3.into (Into.ofExt hS.toExt)) rfl (by omega) ?_; clear hS; intro L3 k3 w hL3 hM3 hS) | (refine sN1 hS rfl ?_; clear hS; first | ((fail_if_success guard_hyp g1); intro g1 w hS) | ((fail_if_success guard_hyp g2); intro g2 w hS) | ((fail_if_success guard_hyp g3); intro g3 w hS) | ((fail_if_success guard_hyp g4); intro g4 w hS) | ((fail_if_success guard_hyp g5); intro g5 w hS) | fail) | fail
    (try simp only [Act.put, nA, nB, nC])
    refine dr_end hS ?_
    refine dr_one 10 (by kernel_rfl) rfl ?_
    first | (refine st_appON hS rfl rfl rfl (h1.ext hS.toExt) rfl (by omega) ?_; clear hS; intro L1 k1 w hL1 hM1 hS) | (refine st_appOA hS rfl rfl rfl (h3.into (Into.ofExt hS.toExt)) rfl (by omega) ?_; clear hS; intro L3 k3 w hL3 hM3 hS) | ((first | refine sS1 hS rfl rfl rfl ?_ | refine sS2 hS rfl rfl rfl ?_ | refine sS3 hS rfl rfl rfl ?_ | refine sS4 hS rfl rfl rfl ?_ | refine sS5 hS rfl rfl rfl ?_); clear hS; intro w hS) | fail
    (try simp only [Act.put, nA, nB, nC])
    refine dr_late (by kernel_rfl) ?_
    refine dr_done (by kernel_rfl) ?_
    rotate_left
    first | (refine st_appON hS rfl rfl rfl (h1.ext hS.toExt) rfl (by omega) ?_; clear hS; intro L1 k1 w hL1 hM1 hS) | (refine st_appOA hS rfl rfl rfl (h3.into (Into.ofExt hS.toExt)) rfl (by omega) ?_; clear hS; intro L3 k3 w hL3 hM3 hS) | (refine sN1 hS rfl ?_; clear hS; first | ((fail_if_success guard_hyp g1); intro g1 w hS) | ((fail_if_success guard_hyp g2); intro g2 w hS) | ((fail_if_success guard_hyp g3); intro g3 w hS) | ((fail_if_success guard_hyp g4); intro g4 w hS) | ((fail_if_success guard_hyp g5); intro g5 w hS) | fail) | fail
    (try simp only [Act.put, nA, nB, nC])
    refine dr_end hS ?_
    refine dr_one 7 (by kernel_rfl) rfl ?_
    first | (refine st_appON hS rfl rfl rfl (h1.ext hS.toExt) rfl (by omega) ?_; clear hS; intro L1 k1 w hL1 hM1 hS) | (refine st_appOA hS rfl rfl rfl (h3.into (Into.ofExt hS.toExt)) rfl (by omega) ?_; clear hS; intro L3 k3 w hL3 hM3 hS) | ((first | refine sP1 hS rfl rfl rfl ?_ | refine sP2 hS rfl rfl rfl ?_ | refine sP3 hS rfl rfl rfl ?_); clear hS; first | ((fail_if_success guard_hyp L1); intro L1 cl1 w hL1 hM1 hS) | ((fail_if_success guard_hyp L2); intro L2 cl2 w hL2 hM2 hS) | ((fail_if_success guard_hyp L3); intro L3 cl3 w hL3 hM3 hS) | ((fail_if_success guard_hyp L4); intro L4 cl4 w hL4 hM4 hS) | fail) | fail
    (try simp only [Act.put, nA, nB, nC])
    refine dr_end hS ?_
    refine dP hS 8 rfl rfl ?_
    (try simp only [Act.put, nA, nB, nC])
    refine dr_one 10 (by kernel_rfl) rfl ?_
    first | (refine st_appON hS rfl rfl rfl (h1.ext hS.toExt) rfl (by omega) ?_; clear hS; intro L1 k1 w hL1 hM1 hS) | (refine st_appOA hS rfl rfl rfl (h3.into (Into.ofExt hS.toExt)) rfl (by omega) ?_; clear hS; intro L3 k3 w hL3 hM3 hS) | ((first | refine sS1 hS rfl rfl rfl ?_ | refine sS2 hS rfl rfl rfl ?_ | refine sS3 hS rfl rfl rfl ?_ | refine sS4 hS rfl rfl rfl ?_ | refine sS5 hS rfl rfl rfl ?_); clear hS; intro w hS) | fail
    (try simp only [Act.put, nA, nB, nC])
    refine dr_late (by kernel_rfl) ?_
    refine dr_done (by kernel_rfl) ?_
    rotate_left
    first | (refine st_appON hS rfl rfl rfl (h1.ext hS.toExt) rfl (by omega) ?_; clear hS; intro L1 k1 w hL1 hM1 hS) | (refine st_appOA hS rfl rfl rfl (h3.into (Into.ofExt hS.toExt)) rfl (by omega) ?_; clear hS; intro L3 k3 w hL3 hM3 hS) | (refine sN1 hS rfl ?_; clear hS; first | ((fail_if_success guard_hyp g1); intro g1 w hS) | ((fail_if_success guard_hyp g2); intro g2 w hS) | ((fail_if_success guard_hyp g3); intro g3 w hS) | ((fail_if_success guard_hyp g4); intro g4 w hS) | ((fail_if_success guard_hyp g5); intro g5 w hS) | fail) | fail
    (try simp only [Act.put, nA, nB, nC])
    refine dr_end hS ?_
    refine dr_one 2 (by kernel_rfl) rfl ?_
    first | (refine st_appON hS rfl rfl rfl (h1.ext hS.toExt) rfl (by omega) ?_; clear hS; intro L1 k1 w hL1 hM1 hS) | (refine st_appOA hS rfl rfl rfl (h3.into (Into.ofExt hS.toExt)) rfl (by omega) ?_; clear hS; intro L3 k3 w hL3 hM3 hS) | ((first | refine sP1 hS rfl rfl rfl ?_ | refine sP2 hS rfl rfl rfl ?_ | refine sP3 hS rfl rfl rfl ?_); clear hS; first | ((fail_if_success guard_hyp L1); intro L1 cl1 w hL1 hM1 hS) | ((fail_if_success guard_hyp L2); intro L2 cl2 w hL2 hM2 hS) | ((fail_if_success guard_hyp L3); intro L3 cl3 w hL3 hM3 hS) | ((fail_if_success guard_hyp L4); intro L4 cl4 w hL4 hM4 hS) | fail) | fail
    (try simp only [Act.put, nA, nB, nC])
    refine dr_end hS ?_
    refine dr_one 7 (by kernel_rfl) rfl ?_
    first | (refine st_appON hS rfl rfl rfl (h1.ext hS.toExt) rfl (by omega) ?_; clear hS; intro L1 k1 w hL1 hM1 hS) | (refine st_appOA hS rfl rfl rfl (h3.into (Into.ofExt hS.toExt)) rfl (by omega) ?_; clear hS; intro L3 k3 w hL3 hM3 hS) | ((first | refine sP1 hS rfl rfl rfl ?_ | refine sP2 hS rfl rfl rfl ?_ | refine sP3 hS rfl rfl rfl ?_); clear hS; first | ((fail_if_success guard_hyp L1); intro L1 cl1 w hL1 hM1 hS) | ((fail_if_success guard_hyp L2); intro L2 cl2 w hL2 hM2 hS) | ((fail_if_success guard_hyp L3); intro L3 cl3 w hL3 hM3 hS) | ((fail_if_success guard_hyp L4); intro L4 cl4 w hL4 hM4 hS) | fail) | fail
    (try simp only [Act.put, nA, nB, nC])
    refine dr_end hS ?_
    refine dP hS 8 rfl rfl ?_
    (try simp only [Act.put, nA, nB, nC])
    refine dr_one 10 (by kernel_rfl) rfl ?_
    first | (refine st_appON hS rfl rfl rfl (h1.ext hS.toExt) rfl (by omega) ?_; clear hS; intro L1 k1 w hL1 hM1 hS) | (refine st_appOA hS rfl rfl rfl (h3.into (Into.ofExt hS.toExt)) rfl (by omega) ?_; clear hS; intro L3 k3 w hL3 hM3 hS) | ((first | refine sS1 hS rfl rfl rfl ?_ | refine sS2 hS rfl rfl rfl ?_ | refine sS3 hS rfl rfl rfl ?_ | refine sS4 hS rfl rfl rfl ?_ | refine sS5 hS rfl rfl rfl ?_); clear hS; intro w hS) | fail
    (try simp only [Act.put, nA, nB, nC])
    refine dr_late (by kernel_rfl) ?_
    refine dr_done (by kernel_rfl) ?_
    rotate_left
    all_goals
      obtain ⟨gg, rfl⟩ := hS.rowSome L1 (by omega)
      go_wp2_with fail
      go_meet
      exact ⟨_, gg, k1, L3, k3, rfl, ⟨hL1, hM1⟩, ⟨hL3, hM3⟩, hS.re⟩
  case rest =>
    obtain ⟨g, L1g, k1, L3, k3, rfl, hc1, hc3, hS⟩ := hcut
    by_cases hfr : fr = -1
    · subst hfr
      have hr : res = (appPat p k (-1) se, true) := by rw [HA.out, if_pos (.inl rfl)]
      clear HA; subst hr
      have HPP := Lib.hid (show appPat p (k : Int) (-1) se = p.more k by simp [appPat])
      generalize appPat p (k : Int) (-1) se = p' at *
      go_wp2_with (first | (refine oL ?_; (first | refine sL1 hS rfl rfl rfl ?_ | refine sL2 hS rfl rfl rfl ?_ | refine sL3 hS rfl rfl ?_ | refine sL4 hS rfl rfl ?_ | refine sL5 hS rfl rfl ?_ | refine sL6 hS rfl rfl ?_ | refine sL7 hS rfl rfl ?_)) | (refine oS ?_; ((first | refine sS1 hS rfl rfl rfl ?_ | refine sS2 hS rfl rfl rfl ?_ | refine sS3 hS rfl rfl rfl ?_ | refine sS4 hS rfl rfl rfl ?_ | refine sS5 hS rfl rfl rfl ?_); clear hS; intro w hS)) | ((first | (refine oB ?_; first | refine sB1 hS rfl rfl ?_ | refine sB2 hS rfl rfl ?_) | refine sN1 hS rfl ?_); clear hS; first | ((fail_if_success guard_hyp g1); intro g1 w hS) | ((fail_if_success guard_hyp g2); intro g2 w hS) | ((fail_if_success guard_hyp g3); intro g3 w hS) | ((fail_if_success guard_hyp g4); intro g4 w hS) | ((fail_if_success guard_hyp g5); intro g5 w hS) | fail) | fail)
      refine st_retCT hS rfl rfl rfl rfl rfl ?_
      refine RetPB.mk (p := p') (by rw [HPP.out]; simp [Pat.more]) (by rw [HPP.out]; rfl) (by rw [HPP.out]; rfl) ?_ ?_ ?_ hc1 HP.out.1.b2 hc3 hS.toExt
      · rw [HPP.out, ← HM.out]; exact hS.riNew
      · rw [HPP.out]; exact HP.out.1.ck.into (Into.orNew hS.toExt)
      · rw [HPP.out]; exact hS.raNew
    have HF := Lib.hid hfr
    have hfr' : (fr == -1) = false := by simpa using hfr
    clear hfr
    by_cases hf : 0 ≤ fr ∧ fr < p.len.length
    rotate_left
    · have hr : res = (noPat, false) := by rw [HA.out, if_neg (fun h => h.elim HF.out (fun h => hf h.1))]
      clear HA; subst hr
      have df : decide (0 ≤ fr ∧ fr < (p.len.length : Int)) = false := decide_eq_false hf
      go_wp2_with (first | (go_at_call 70; refine (proc_any _ _ _ _ _ _ _ _ _ _ _).mono ?_; rintro e w ⟨rfl, hx1⟩; replace hS := hS.ext hx1; first | rw [dq] | rw [df]) | (refine oL ?_; (first | refine sL1 hS rfl rfl rfl ?_ | refine sL2 hS rfl rfl rfl ?_ | refine sL3 hS rfl rfl ?_ | refine sL4 hS rfl rfl ?_ | refine sL5 hS rfl rfl ?_ | refine sL6 hS rfl rfl ?_ | refine sL7 hS rfl rfl ?_)) | (refine oS ?_; ((first | refine sS1 hS rfl rfl rfl ?_ | refine sS2 hS rfl rfl rfl ?_ | refine sS3 hS rfl rfl rfl ?_ | refine sS4 hS rfl rfl rfl ?_ | refine sS5 hS rfl rfl rfl ?_); clear hS; intro w hS)) | ((first | (refine oB ?_; first | refine sB1 hS rfl rfl ?_ | refine sB2 hS rfl rfl ?_) | refine sN1 hS rfl ?_); clear hS; first | ((fail_if_success guard_hyp g1); intro g1 w hS) | ((fail_if_success guard_hyp g2); intro g2 w hS) | ((fail_if_success guard_hyp g3); intro g3 w hS) | ((fail_if_success guard_hyp g4); intro g4 w hS) | ((fail_if_success guard_hyp g5); intro g5 w hS) | fail) | fail)
      exact st_retCT hS rfl rfl rfl rfl rfl (RetPB.no hS.toExt)
    obtain ⟨j, rfl⟩ : ∃ j : Nat, fr = j := ⟨fr.toNat, by omega⟩
    have df : decide (0 ≤ (j : Int) ∧ (j : Int) < (p.len.length : Int)) = true := decide_eq_true hf
    have hj : j < p.len.length := by omega
    have hj' : (j : Int) < p.len.length := by omega
    by_cases hjk : j = k
    · have hr : res = (noPat, false) := by rw [HA.out, if_neg (fun h => h.elim HF.out (fun h => h.2.1 (by omega)))]
      clear HA; subst hr
      have djk : ((j : Int) == (k : Int)) = true := by simp [hjk]
      go_wp2_with (first | (go_at_call 70; refine (proc_any _ _ _ _ _ _ _ _ _ _ _).mono ?_; rintro e w ⟨rfl, hx1⟩; replace hS := hS.ext hx1; first | rw [dq] | rw [df]) | (refine oL ?_; (first | refine sL1 hS rfl rfl rfl ?_ | refine sL2 hS rfl rfl rfl ?_ | refine sL3 hS rfl rfl ?_ | refine sL4 hS rfl rfl ?_ | refine sL5 hS rfl rfl ?_ | refine sL6 hS rfl rfl ?_ | refine sL7 hS rfl rfl ?_)) | (refine oS ?_; ((first | refine sS1 hS rfl rfl rfl ?_ | refine sS2 hS rfl rfl rfl ?_ | refine sS3 hS rfl rfl rfl ?_ | refine sS4 hS rfl rfl rfl ?_ | refine sS5 hS rfl rfl rfl ?_); clear hS; intro w hS)) | ((first | (refine oB ?_; first | refine sB1 hS rfl rfl ?_ | refine sB2 hS rfl rfl ?_) | refine sN1 hS rfl ?_); clear hS; first | ((fail_if_success guard_hyp g1); intro g1 w hS) | ((fail_if_success guard_hyp g2); intro g2 w hS) | ((fail_if_success guard_hyp g3); intro g3 w hS) | ((fail_if_success guard_hyp g4); intro g4 w hS) | ((fail_if_success guard_hyp g5); intro g5 w hS) | fail) | fail)
      exact st_retCT hS rfl rfl rfl rfl rfl (RetPB.no hS.toExt)
    have djk : ((j : Int) == (k : Int)) = false := by simp; omega
    by_cases hse : se < 0
    · have hr : res = (noPat, false) := by rw [HA.out, if_neg (fun h => h.elim HF.out (fun h => absurd h.2.2.1 (by omega)))]
      clear HA; subst hr
      go_wp2_with (first | (go_at_call 70; refine (proc_any _ _ _ _ _ _ _ _ _ _ _).mono ?_; rintro e w ⟨rfl, hx1⟩; replace hS := hS.ext hx1; first | rw [dq] | rw [df]) | (refine oL ?_; (first | refine sL1 hS rfl rfl rfl ?_ | refine sL2 hS rfl rfl rfl ?_ | refine sL3 hS rfl rfl ?_ | refine sL4 hS rfl rfl ?_ | refine sL5 hS rfl rfl ?_ | refine sL6 hS rfl rfl ?_ | refine sL7 hS rfl rfl ?_)) | (refine oS ?_; ((first | refine sS1 hS rfl rfl rfl ?_ | refine sS2 hS rfl rfl rfl ?_ | refine sS3 hS rfl rfl rfl ?_ | refine sS4 hS rfl rfl rfl ?_ | refine sS5 hS rfl rfl rfl ?_); clear hS; intro w hS)) | ((first | (refine oB ?_; first | refine sB1 hS rfl rfl ?_ | refine sB2 hS rfl rfl ?_) | refine sN1 hS rfl ?_); clear hS; first | ((fail_if_success guard_hyp g1); intro g1 w hS) | ((fail_if_success guard_hyp g2); intro g2 w hS) | ((fail_if_success guard_hyp g3); intro g3 w hS) | ((fail_if_success guard_hyp g4); intro g4 w hS) | ((fail_if_success guard_hyp g5); intro g5 w hS) | fail) | fail)
      exact st_retCT hS rfl rfl rfl rfl rfl (RetPB.no hS.toExt)
    have dse : decide (se < 0) = false := by simp; omega
    obtain ⟨_, _, e9, _, hcj⟩ := h1.atNS hj
    injection e9 with e9; injection e9 with e9 e10; subst e9; subst e10
    by_cases hle : nth p.len j < se
    · have hr : res = (noPat, false) := by rw [HA.out, if_neg (fun h => h.elim HF.out (fun h => absurd h.2.2.2.1 (by simpa using hle)))]
      clear HA; subst hr
      generalize hy : nth p.len j = y at *
      have dle : decide (y < se) = true := by simp [hle]
      go_wp2_with (first | (go_at_call 70; refine (proc_any _ _ _ _ _ _ _ _ _ _ _).mono ?_; rintro e w ⟨rfl, hx1⟩; replace hS := hS.ext hx1; first | rw [dq] | rw [df]) | (refine oL ?_; (first | refine sL1 hS rfl rfl rfl ?_ | refine sL2 hS rfl rfl rfl ?_ | refine sL3 hS rfl rfl ?_ | refine sL4 hS rfl rfl ?_ | refine sL5 hS rfl rfl ?_ | refine sL6 hS rfl rfl ?_ | refine sL7 hS rfl rfl ?_)) | (refine oS ?_; ((first | refine sS1 hS rfl rfl rfl ?_ | refine sS2 hS rfl rfl rfl ?_ | refine sS3 hS rfl rfl rfl ?_ | refine sS4 hS rfl rfl rfl ?_ | refine sS5 hS rfl rfl rfl ?_); clear hS; intro w hS)) | ((first | (refine oB ?_; first | refine sB1 hS rfl rfl ?_ | refine sB2 hS rfl rfl ?_) | refine sN1 hS rfl ?_); clear hS; first | ((fail_if_success guard_hyp g1); intro g1 w hS) | ((fail_if_success guard_hyp g2); intro g2 w hS) | ((fail_if_success guard_hyp g3); intro g3 w hS) | ((fail_if_success guard_hyp g4); intro g4 w hS) | ((fail_if_success guard_hyp g5); intro g5 w hS) | fail) | fail)
      exact st_retCT hS rfl rfl rfl rfl rfl (RetPB.no hS.toExt)
    by_cases h256 : p.arcs.length < 256
    rotate_left
    · have hr : res = (noPat, false) := by rw [HA.out, if_neg (fun h => h.elim HF.out (fun h => h256 h.2.2.2.2))]
      clear HA; subst hr
      generalize hy : nth p.len j = y at *
      have dle : decide (y < se) = false := by simp; omega
      go_wp2_with (first | (go_at_call 70; refine (proc_any _ _ _ _ _ _ _ _ _ _ _).mono ?_; rintro e w ⟨rfl, hx1⟩; replace hS := hS.ext hx1; first | rw [dq] | rw [df]) | (refine oL ?_; (first | refine sL1 hS rfl rfl rfl ?_ | refine sL2 hS rfl rfl rfl ?_ | refine sL3 hS rfl rfl ?_ | refine sL4 hS rfl rfl ?_ | refine sL5 hS rfl rfl ?_ | refine sL6 hS rfl rfl ?_ | refine sL7 hS rfl rfl ?_)) | (refine oS ?_; ((first | refine sS1 hS rfl rfl rfl ?_ | refine sS2 hS rfl rfl rfl ?_ | refine sS3 hS rfl rfl rfl ?_ | refine sS4 hS rfl rfl rfl ?_ | refine sS5 hS rfl rfl rfl ?_); clear hS; intro w hS)) | ((first | (refine oB ?_; first | refine sB1 hS rfl rfl ?_ | refine sB2 hS rfl rfl ?_) | refine sN1 hS rfl ?_); clear hS; first | ((fail_if_success guard_hyp g1); intro g1 w hS) | ((fail_if_success guard_hyp g2); intro g2 w hS) | ((fail_if_success guard_hyp g3); intro g3 w hS) | ((fail_if_success guard_hyp g4); intro g4 w hS) | ((fail_if_success guard_hyp g5); intro g5 w hS) | fail) | fail)
      exact st_retCT hS rfl rfl rfl rfl rfl (RetPB.no hS.toExt)
    have hr : res = (appPat p k j se, true) := by rw [HA.out, if_pos (.inr ⟨hf, by omega, by omega, by simpa using hle, h256⟩)]
    clear HA; subst hr
    have HPP := Lib.hid (show appPat p (k : Int) (j : Int) se = (p.more k).send ⟨j, se, k, nth p.len k + 1⟩ by rw [appPat, if_neg HF.out]; rfl)
    rw [hx] at HPP
    generalize appPat p (k : Int) (j : Int) se = p' at *
    generalize hy : nth p.len j = y at *
    have dle : decide (y < se) = false := by simp; omega
    clear hf
    go_wp2_with (first | (go_at_call 70; refine (proc_any _ _ _ _ _ _ _ _ _ _ _).mono ?_; rintro e w ⟨rfl, hx1⟩; replace hS := hS.ext hx1; first | rw [dq] | rw [df]) | (refine oL ?_; (first | refine sL1 hS rfl rfl rfl ?_ | refine sL2 hS rfl rfl rfl ?_ | refine sL3 hS rfl rfl ?_ | refine sL4 hS rfl rfl ?_ | refine sL5 hS rfl rfl ?_ | refine sL6 hS rfl rfl ?_ | refine sL7 hS rfl rfl ?_)) | (refine oS ?_; ((first | refine sS1 hS rfl rfl rfl ?_ | refine sS2 hS rfl rfl rfl ?_ | refine sS3 hS rfl rfl rfl ?_ | refine sS4 hS rfl rfl rfl ?_ | refine sS5 hS rfl rfl rfl ?_); clear hS; intro w hS)) | ((first | (refine oB ?_; first | refine sB1 hS rfl rfl ?_ | refine sB2 hS rfl rfl ?_) | refine sN1 hS rfl ?_); clear hS; first | ((fail_if_success guard_hyp g1); intro g1 w hS) | ((fail_if_success guard_hyp g2); intro g2 w hS) | ((fail_if_success guard_hyp g3); intro g3 w hS) | ((fail_if_success guard_hyp g4); intro g4 w hS) | ((fail_if_success guard_hyp g5); intro g5 w hS) | fail) | fail)
    have hp0 : (ints (p.len.set k (x + 1)))[k]? = some (.int .i64 (x + 1)) := hcell2
    refine dr_start1 [14] 2 hS (by kernel_rfl) rfl ?_; clear hS; intro w hS
    refine dP hS 0 rfl rfl ?_
    (try simp only [Act.put, nA, nB, nC])
    first | refine dL1 hS 1 rfl rfl rfl rfl ?_ | refine dL2 hS 1 rfl rfl rfl rfl ?_ | refine dL3 hS 1 rfl rfl rfl ?_ | refine dL4 hS 1 rfl rfl rfl ?_ | refine dL5 hS 1 rfl rfl rfl ?_ | refine dL6 hS 1 rfl rfl rfl ?_ | refine dL7 hS 1 rfl rfl rfl ?_
    (try simp only [Act.put, nA, nB, nC])
    refine dM hS 2 rfl rfl rfl ?_
    (try simp only [Act.put, nA, nB, nC])
    refine dM hS 3 rfl rfl rfl ?_
    (try simp only [Act.put, nA, nB, nC])
    refine dM hS 4 rfl rfl rfl ?_
    (try simp only [Act.put, nA, nB, nC])
    refine dP hS 5 rfl rfl ?_
    (try simp only [Act.put, nA, nB, nC])
    first | refine dL1 hS 6 rfl rfl rfl rfl ?_ | refine dL2 hS 6 rfl rfl rfl rfl ?_ | refine dL3 hS 6 rfl rfl rfl ?_ | refine dL4 hS 6 rfl rfl rfl ?_ | refine dL5 hS 6 rfl rfl rfl ?_ | refine dL6 hS 6 rfl rfl rfl ?_ | refine dL7 hS 6 rfl rfl rfl ?_
    (try simp only [Act.put, nA, nB, nC])
    refine dM hS 7 rfl rfl rfl ?_
    (try simp only [Act.put, nA, nB, nC])
    refine dP hS 8 rfl rfl ?_
    (try simp only [Act.put, nA, nB, nC])
    first | refine dL1 hS 9 rfl rfl rfl rfl ?_ | refine dL2 hS 9 rfl rfl rfl rfl ?_ | refine dL3 hS 9 rfl rfl rfl ?_ | refine dL4 hS 9 rfl rfl rfl ?_ | refine dL5 hS 9 rfl rfl rfl ?_ | refine dL6 hS 9 rfl rfl rfl ?_ | refine dL7 hS 9 rfl rfl rfl ?_
    (try simp only [Act.put, nA, nB, nC])
    refine dP hS 10 rfl rfl ?_
    (try simp only [Act.put, nA, nB, nC])
    refine dr_one 11 (by kernel_rfl) rfl ?_
    first | (refine st_appA ⟨j, se, k, x + 1⟩ hS rfl rfl rfl (by rfl) (by omega) ?_; clear hS; intro L4 cl4 w hL4 hM4 hS) | ((first | refine sC0 hS rfl ?_ | refine sC1 hS rfl rfl ?_ | refine sC2 hS rfl rfl ?_ | refine sC3 hS rfl rfl rfl ?_ | refine sC4 hS rfl rfl rfl ?_); clear hS; first | ((fail_if_success guard_hyp g1); intro g1 w hS) | ((fail_if_success guard_hyp g2); intro g2 w hS) | ((fail_if_success guard_hyp g3); intro g3 w hS) | ((fail_if_success guard_hyp g4); intro g4 w hS) | ((fail_if_success guard_hyp g5); intro g5 w hS) | fail) | fail
    (try simp only [Act.put, nA, nB, nC])
    refine dr_end hS ?_
    refine dr_one 12 (by kernel_rfl) rfl ?_
    first | (refine st_appA ⟨j, se, k, x + 1⟩ hS rfl rfl rfl (by rfl) (by omega) ?_; clear hS; intro L4 cl4 w hL4 hM4 hS) | ((first | refine sP1 hS rfl rfl rfl ?_ | refine sP2 hS rfl rfl rfl ?_ | refine sP3 hS rfl rfl rfl ?_); clear hS; first | ((fail_if_success guard_hyp L1); intro L1 cl1 w hL1 hM1 hS) | ((fail_if_success guard_hyp L2); intro L2 cl2 w hL2 hM2 hS) | ((fail_if_success guard_hyp L3); intro L3 cl3 w hL3 hM3 hS) | ((fail_if_success guard_hyp L4); intro L4 cl4 w hL4 hM4 hS) | fail) | fail
    (try simp only [Act.put, nA, nB, nC])
    refine dr_end hS ?_
    refine dP hS 13 rfl rfl ?_
    (try simp only [Act.put, nA, nB, nC])
    refine dr_one 14 (by kernel_rfl) rfl ?_
    first | (refine st_appA ⟨j, se, k, x + 1⟩ hS rfl rfl rfl (by rfl) (by omega) ?_; clear hS; intro L4 cl4 w hL4 hM4 hS) | ((first | refine sS1 hS rfl rfl rfl ?_ | refine sS2 hS rfl rfl rfl ?_ | refine sS3 hS rfl rfl rfl ?_ | refine sS4 hS rfl rfl rfl ?_ | refine sS5 hS rfl rfl rfl ?_); clear hS; intro w hS) | fail
    (try simp only [Act.put, nA, nB, nC])
    refine dr_late (by kernel_rfl) ?_
    refine dr_done (by kernel_rfl) ?_
    all_goals
      go_wp2_with (first | (refine oL ?_; (first | refine sL1 hS rfl rfl rfl ?_ | refine sL2 hS rfl rfl rfl ?_ | refine sL3 hS rfl rfl ?_ | refine sL4 hS rfl rfl ?_ | refine sL5 hS rfl rfl ?_ | refine sL6 hS rfl rfl ?_ | refine sL7 hS rfl rfl ?_)) | (refine oS ?_; ((first | refine sS1 hS rfl rfl rfl ?_ | refine sS2 hS rfl rfl rfl ?_ | refine sS3 hS rfl rfl rfl ?_ | refine sS4 hS rfl rfl rfl ?_ | refine sS5 hS rfl rfl rfl ?_); clear hS; intro w hS)) | ((first | (refine oB ?_; first | refine sB1 hS rfl rfl ?_ | refine sB2 hS rfl rfl ?_) | refine sN1 hS rfl ?_); clear hS; first | ((fail_if_success guard_hyp g1); intro g1 w hS) | ((fail_if_success guard_hyp g2); intro g2 w hS) | ((fail_if_success guard_hyp g3); intro g3 w hS) | ((fail_if_success guard_hyp g4); intro g4 w hS) | ((fail_if_success guard_hyp g5); intro g5 w hS) | fail) | fail)
      refine st_retCT hS rfl rfl rfl rfl rfl ?_
      refine RetPB.mk (p := p') (by rw [HPP.out]; simp [Pat.more, Pat.send]) (by rw [HPP.out]; rfl) (by rw [HPP.out]; simp [Pat.more, Pat.send]) ?_ ?_ ?_ hc1 HP.out.1.b2 ⟨hL4, hM4⟩ hS.toExt
      · rw [HPP.out]; show RI _ _ _ (p.more k).len; rw [← HM.out]; exact hS.riNew
      · rw [HPP.out]; exact HP.out.1.ck.into (Into.orNew hS.toExt)
      · rw [HPP.out]; exact hS.raNew
end Go.Proofs.Ytkflmichekpfbaa
