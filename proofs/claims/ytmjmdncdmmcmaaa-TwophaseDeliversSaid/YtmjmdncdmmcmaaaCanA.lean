/- rollbacknetref16.Can. Conditions: the pattern is good and lies in memory, the list is a cut of it. -/
import Derived.Test.YtmjmdncdmmcmaaaOrdP
import Derived.Test.YtmjmdncdmmcmaaaRecvd
namespace Go.Proofs.Ytmjmdncdmmcmaaa
open Go.RowKit
set_option linter.unusedVariables false
set_option linter.unusedSimpArgs false
set_option linter.unusedSectionVars false

theorem recv_src {p : Pat} (hg : Good p) {q : Nat} {k z : Int} (hk : 1 ≤ k) (h : RecvIs p.arcs q k z) : (z = -1 ∧ srcF p.arcs (key (q, k)) = none) ∨ ∃ i : Nat, ∃ hi : i < p.arcs.length, z = i ∧ srcF p.arcs (key (q, k)) = some (p.arcs[i].fr, p.arcs[i].ix) := by
  rcases h with ⟨rfl, h⟩ | ⟨i, hi, rfl, hto, hat⟩
  · left
    refine ⟨rfl, ?_⟩
    cases hs : srcF p.arcs (key (q, k)) with
    | none => rfl
    | some s =>
      obtain ⟨a, ha, h1, h2, _⟩ := src_arc hs
      exact absurd h2 (h a ha h1)
  · right
    refine ⟨i, hi, rfl, ?_⟩
    have := arc_src hg (List.getElem_mem hi) (by rw [hat]; omega)
    rw [hto, hat] at this
    exact this
set_option maxRecDepth 100000 in
set_option maxHeartbeats 3200000 in
theorem can_any {S T : Nat → Prop} (v : PV) (p : Pat) (X : Option Addr) (cx : Nat) (x : List Int) (q : Nat) (w0 : World) (hp : PatAt S w0 v p) (hg : Good p) (hx : RI T w0 X x) (hv : validB p.len x = true) (hq : q < p.len.length) :
    Calls Try.prog 104 #[v.val p, .slice X p.len.length cx, .int .i64 (q : Int)] w0 fun e w' => e = .returned (.bool (canB p x q)) ∧ Ext w0 w' := by
  have hS := St.start w0 NoM
  have hn5 := hg.n5
  have hfew := hg.few
  obtain ⟨hxl, hxb⟩ := valid_iff.1 hv
  obtain ⟨b1, o1, hA1, _, hc1⟩ := hp.len.atNS hq
  obtain ⟨b2, o2, hX2, _, hc2⟩ := hx.atNS (k := q) (by rw [hxl]; exact hq)
  have hlo := (hxb q hq).1
  have hhi := hg.hi q hq
  have HP := Lib.hid (And.intro hp (And.intro hg (And.intro hx (And.intro hxl hxb))))
  have ha3 := hp.arcs
  clear hp hg hx hxl hxb hv
  obtain ⟨A1, c1, A2, c2, A3, c3⟩ := v
  simp only [PV.val] at *
  subst hA1
  subst hX2
  have hq' : (q : Int) < p.len.length := by omega
  by_cases hlt : nth x q < nth p.len q
  · have hcan : canB p x q = srcIn p x (q, nth x q + 1) := by rw [canB, decide_eq_true hlt, Bool.true_and]
    rw [hcan]
    have HSI := Lib.hid (show srcIn p x (q, nth x q + 1) = (match srcF p.arcs (key (q, nth x q + 1)) with | none => true | some s => decide (s.2 ≤ nth x s.1)) from rfl)
    have HRS : Hid (∀ z, RecvIs p.arcs q (nth x q + 1) z → _) := Lib.hid (fun z => recv_src (z := z) HP.out.2.1 (by omega))
    generalize hsi : srcIn p x (q, nth x q + 1) = si at *
    generalize hxq : nth x q = xq at *
    generalize nth p.len q = lq at *
    have d1 : decide (lq ≤ xq) = false := decide_eq_false (by omega)
    go_enter Try.func104, Try.ntmps104
    go_wp2_with ((((((refine oB ?_; (refine sB1 hS rfl rfl ?_)))); clear hS; (((fail_if_success guard_hyp g1); intro g1 w hS)))))
    refine dr_start0 []  hS (by kernel_rfl) rfl ?_; clear hS; intro w hS
    refine dM hS 0 rfl rfl rfl ?_
    (try simp only [Act.put, nA, nB, nC])
    refine dM hS 1 rfl rfl rfl ?_
    (try simp only [Act.put, nA, nB, nC])
    refine dP hS 2 rfl rfl ?_
    (try simp only [Act.put, nA, nB, nC])
    (refine dL4 hS 3 rfl rfl rfl ?_)
    (try simp only [Act.put, nA, nB, nC])
    refine dP hS 4 rfl rfl ?_
    (try simp only [Act.put, nA, nB, nC])
    (refine dL1 hS 5 rfl rfl rfl rfl ?_)
    (try simp only [Act.put, nA, nB, nC])
    refine dM hS 6 rfl rfl rfl ?_
    (try simp only [Act.put, nA, nB, nC])
    refine dP hS 7 rfl rfl ?_
    (try simp only [Act.put, nA, nB, nC])
    (refine dL4 hS 8 rfl rfl rfl ?_)
    (try simp only [Act.put, nA, nB, nC])
    refine dP hS 9 rfl rfl ?_
    (try simp only [Act.put, nA, nB, nC])
    refine dr_done (by kernel_rfl) ?_
    go_wp2_with (fail)
    go_cut [7] (fun s7 wx => ∃ z, s7 = .int .i64 z ∧ Hid (RecvIs p.arcs q (xq + 1) z) ∧ St w0 NoM [blk g1 [.slice (some ⟨b1, o1, none⟩) p.len.length c1, .slice A2 p.ck.length c2, .slice A3 p.arcs.length c3] 44] wx)
    case first =>
      refine dr_start0 []  hS (by kernel_rfl) rfl ?_; clear hS; intro w hS
      (refine dL2 hS 0 rfl rfl rfl rfl ?_)
      (try simp only [Act.put, nA, nB, nC])
      refine dM hS 1 rfl rfl rfl ?_
      (try simp only [Act.put, nA, nB, nC])
      refine dM hS 2 rfl rfl rfl ?_
      (try simp only [Act.put, nA, nB, nC])
      refine dM hS 3 rfl rfl rfl ?_
      (try simp only [Act.put, nA, nB, nC])
      refine dP hS 4 rfl rfl ?_
      (try simp only [Act.put, nA, nB, nC])
      (refine dL4 hS 5 rfl rfl rfl ?_)
      (try simp only [Act.put, nA, nB, nC])
      refine dP hS 6 rfl rfl ?_
      (try simp only [Act.put, nA, nB, nC])
      refine dr_one 7 (by kernel_rfl) rfl ?_
      (refine st_call rfl (by kernel_rfl) rfl ?_; go_at_call 119; refine (received_any _ _ _ _ _ _ _ _ p.arcs q (xq + 1) _ (HP.out.1.ext hS.toExt).arcs (by omega) (by omega)).mono ?_; rintro e w ⟨z, hz, rfl, hx1⟩; replace hS := hS.ext hx1)
      (try simp only [Act.put, nA, nB, nC])
      refine dr_end hS ?_
      refine dA hS 8 rfl rfl rfl ?_
      (try simp only [Act.put, nA, nB, nC])
      refine dr_done (by kernel_rfl) ?_
      go_wp2_with fail
      go_meet
      exact ⟨z, rfl, Lib.hid hz, hS.re⟩
    case rest =>
      clear hS
      obtain ⟨z, rfl, HZ, hS⟩ := hcut
      rcases HRS.out z HZ.out with ⟨rfl, hs⟩ | ⟨i, hi, rfl, hs⟩
      · have hsi2 : si = true := by rw [HSI.out, hs]
        subst hsi2
        clear HSI hs
        go_wp2_with (fail)
        refine dr_start0 []  hS (by kernel_rfl) rfl ?_; clear hS; intro w hS
        refine dM hS 0 rfl rfl rfl ?_
        (try simp only [Act.put, nA, nB, nC])
        refine dP hS 1 rfl rfl ?_
        (try simp only [Act.put, nA, nB, nC])
        refine dM hS 2 rfl rfl rfl ?_
        (try simp only [Act.put, nA, nB, nC])
        first | refine dP hS 3 rfl rfl ?_ | refine dQ hS 3 rfl rfl ?_
        (try simp only [Act.put, nA, nB, nC])
        (refine dQ hS 4 rfl rfl ?_)
        (try simp only [Act.put, nA, nB, nC])
        first | refine dM hS 5 rfl rfl rfl ?_ | refine dQ hS 5 rfl rfl ?_
        (try simp only [Act.put, nA, nB, nC])
        first | refine dP hS 6 rfl rfl ?_ | refine dQ hS 6 rfl rfl ?_
        (try simp only [Act.put, nA, nB, nC])
        first | refine dP hS 7 rfl rfl ?_ | refine dQ hS 7 rfl rfl ?_
        (try simp only [Act.put, nA, nB, nC])
        (refine dQ hS 8 rfl rfl ?_)
        (try simp only [Act.put, nA, nB, nC])
        first | refine dM hS 9 rfl rfl rfl ?_ | refine dQ hS 9 rfl rfl ?_
        (try simp only [Act.put, nA, nB, nC])
        first | refine dP hS 10 rfl rfl ?_ | refine dQ hS 10 rfl rfl ?_
        (try simp only [Act.put, nA, nB, nC])
        (refine dQ hS 11 rfl rfl ?_)
        (try simp only [Act.put, nA, nB, nC])
        first | refine dM hS 12 rfl rfl rfl ?_ | refine dQ hS 12 rfl rfl ?_
        (try simp only [Act.put, nA, nB, nC])
        first | refine dP hS 13 rfl rfl ?_ | refine dQ hS 13 rfl rfl ?_
        (try simp only [Act.put, nA, nB, nC])
        first | refine dP hS 14 rfl rfl ?_ | refine dQ hS 14 rfl rfl ?_
        (try simp only [Act.put, nA, nB, nC])
        (refine dQ hS 15 rfl rfl ?_)
        (try simp only [Act.put, nA, nB, nC])
        first | refine dP hS 16 rfl rfl ?_ | refine dQ hS 16 rfl rfl ?_
        (try simp only [Act.put, nA, nB, nC])
        (refine dQ hS 17 rfl rfl ?_)
        (try simp only [Act.put, nA, nB, nC])
        first | refine dP hS 18 rfl rfl ?_ | refine dQ hS 18 rfl rfl ?_
        (try simp only [Act.put, nA, nB, nC])
        refine dP hS 19 rfl rfl ?_
        (try simp only [Act.put, nA, nB, nC])
        refine dA hS 20 rfl rfl rfl ?_
        (try simp only [Act.put, nA, nB, nC])
        refine dr_done (by kernel_rfl) ?_
        go_wp2_with (fail)
        go_ret
        exact ⟨rfl, hS.toExt⟩
      · obtain ⟨b3, o3, hA3, _, hcs⟩ := ha3.cells hi
        subst hA3
        have hoa := HP.out.2.1.arc _ (List.getElem_mem hi)
        have hf := hcs 0 _ rfl
        have hf1 := hcs 1 _ rfl
        have hi' : (i : Int) < p.arcs.length := by omega
        have hsi2 : si = decide (p.arcs[i].ix ≤ nth x p.arcs[i].fr) := by rw [HSI.out, hs]
        generalize p.arcs[i] = ar at *
        obtain ⟨b4, o4, e4, _, hc4⟩ := HP.out.2.2.1.atNS (k := ar.fr) (by rw [HP.out.2.2.2.1]; exact hoa.fr)
        injection e4 with e4; injection e4 with e4 e5; subst e4; subst e5
        have hfr' : (ar.fr : Int) < p.len.length := by have := hoa.fr; omega
        subst hsi2
        clear HSI hs hcs
        generalize hxf : nth x ar.fr = xf at *
        simp only [Nat.add_zero] at hf
        have d2 : decide ((i : Int) < 0) = false := decide_eq_false (by omega)
        go_wp2_with (fail)
        refine dr_start0 []  hS (by kernel_rfl) rfl ?_; clear hS; intro w hS
        refine dM hS 0 rfl rfl rfl ?_
        (try simp only [Act.put, nA, nB, nC])
        refine dP hS 1 rfl rfl ?_
        (try simp only [Act.put, nA, nB, nC])
        refine dM hS 2 rfl rfl rfl ?_
        (try simp only [Act.put, nA, nB, nC])
        first | refine dP hS 3 rfl rfl ?_ | refine dQ hS 3 rfl rfl ?_
        (try simp only [Act.put, nA, nB, nC])
        (refine dL1 hS 4 rfl rfl rfl rfl ?_)
        (try simp only [Act.put, nA, nB, nC])
        first | refine dM hS 5 rfl rfl rfl ?_ | refine dQ hS 5 rfl rfl ?_
        (try simp only [Act.put, nA, nB, nC])
        first | refine dP hS 6 rfl rfl ?_ | refine dQ hS 6 rfl rfl ?_
        (try simp only [Act.put, nA, nB, nC])
        first | refine dP hS 7 rfl rfl ?_ | refine dQ hS 7 rfl rfl ?_
        (try simp only [Act.put, nA, nB, nC])
        (refine dL4 hS 8 rfl rfl rfl ?_)
        (try simp only [Act.put, nA, nB, nC])
        first | refine dM hS 9 rfl rfl rfl ?_ | refine dQ hS 9 rfl rfl ?_
        (try simp only [Act.put, nA, nB, nC])
        first | refine dP hS 10 rfl rfl ?_ | refine dQ hS 10 rfl rfl ?_
        (try simp only [Act.put, nA, nB, nC])
        (refine dL1 hS 11 rfl rfl rfl rfl ?_)
        (try simp only [Act.put, nA, nB, nC])
        first | refine dM hS 12 rfl rfl rfl ?_ | refine dQ hS 12 rfl rfl ?_
        (try simp only [Act.put, nA, nB, nC])
        first | refine dP hS 13 rfl rfl ?_ | refine dQ hS 13 rfl rfl ?_
        (try simp only [Act.put, nA, nB, nC])
        first | refine dP hS 14 rfl rfl ?_ | refine dQ hS 14 rfl rfl ?_
        (try simp only [Act.put, nA, nB, nC])
        (refine dL4 hS 15 rfl rfl rfl ?_)
        (try simp only [Act.put, nA, nB, nC])
        first | refine dP hS 16 rfl rfl ?_ | refine dQ hS 16 rfl rfl ?_
        (try simp only [Act.put, nA, nB, nC])
        (refine dL4 hS 17 rfl rfl rfl ?_)
        (try simp only [Act.put, nA, nB, nC])
        first | refine dP hS 18 rfl rfl ?_ | refine dQ hS 18 rfl rfl ?_
        (try simp only [Act.put, nA, nB, nC])
        refine dP hS 19 rfl rfl ?_
        (try simp only [Act.put, nA, nB, nC])
        refine dA hS 20 rfl rfl rfl ?_
        (try simp only [Act.put, nA, nB, nC])
        refine dr_done (by kernel_rfl) ?_
        go_wp2_with (fail)
        go_ret
        refine ⟨?_, hS.toExt⟩
        rw [hxf]; rfl
  · have hcan : canB p x q = false := by rw [canB, decide_eq_false hlt, Bool.false_and]
    rw [hcan]
    generalize nth x q = xq at *
    generalize nth p.len q = lq at *
    have d1 : decide (lq ≤ xq) = true := decide_eq_true (by omega)
    go_enter Try.func104, Try.ntmps104
    go_wp2_with ((((((refine oB ?_; (refine sB1 hS rfl rfl ?_)))); clear hS; (((fail_if_success guard_hyp g1); intro g1 w hS)))))
    refine dr_start0 []  hS (by kernel_rfl) rfl ?_; clear hS; intro w hS
    refine dM hS 0 rfl rfl rfl ?_
    (try simp only [Act.put, nA, nB, nC])
    refine dM hS 1 rfl rfl rfl ?_
    (try simp only [Act.put, nA, nB, nC])
    refine dP hS 2 rfl rfl ?_
    (try simp only [Act.put, nA, nB, nC])
    (refine dL4 hS 3 rfl rfl rfl ?_)
    (try simp only [Act.put, nA, nB, nC])
    refine dP hS 4 rfl rfl ?_
    (try simp only [Act.put, nA, nB, nC])
    (refine dL1 hS 5 rfl rfl rfl rfl ?_)
    (try simp only [Act.put, nA, nB, nC])
    refine dM hS 6 rfl rfl rfl ?_
    (try simp only [Act.put, nA, nB, nC])
    refine dP hS 7 rfl rfl ?_
    (try simp only [Act.put, nA, nB, nC])
    (refine dL4 hS 8 rfl rfl rfl ?_)
    (try simp only [Act.put, nA, nB, nC])
    refine dP hS 9 rfl rfl ?_
    (try simp only [Act.put, nA, nB, nC])
    refine dr_done (by kernel_rfl) ?_
    go_wp2_with (fail)
    go_ret
    exact ⟨rfl, hS.toExt⟩
end Go.Proofs.Ytmjmdncdmmcmaaa
