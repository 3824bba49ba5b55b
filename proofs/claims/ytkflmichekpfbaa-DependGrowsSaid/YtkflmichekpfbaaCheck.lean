/- pattern.Check: OK for a good pattern; what it says of a fair one. No condition beyond. -/
import Derived.Test.YtkflmichekpfbaaOrdPure
import Derived.BigRegion
namespace Go.Proofs.Ytkflmichekpfbaa
open Go.RowKit
set_option linter.unusedVariables false

set_option maxHeartbeats 800000 in
theorem ascending_any {S : Nat → Prop} (A : Option Addr) (c : Nat) (l : List Int) (m : Int) (w : World) (ha : RI S w A l) (hc : l.length ≤ c) (hc' : c ≤ 9223372036854775807) (hr : RowOk l m) (hm : m ≤ 64) :
    Calls Try.prog 87 #[.slice A l.length c, .int .i64 m] w fun e w' => e = .returned (.bool true) ∧ ∃ n, w' = w.drewN n := by
  obtain ⟨r, hl⟩ := hr.head
  have hpos : 0 < l.length := by rw [hl]; simp
  obtain ⟨b, o, rfl, h0⟩ := ha.atN hpos
  obtain ⟨_, _, e1, h1⟩ := ha.atN (k := l.length - 1) (by omega)
  injection e1 with e1
  injection e1 with e1 e2
  subst e1; subst e2
  have hn0 : nth l 0 = 0 := by rw [hl]; rfl
  rw [hn0, Nat.add_zero] at h0
  have hla : nth l (l.length - 1) ≤ m := hr.le _ (by rw [nth_eq (by omega)]; exact List.getElem_mem _)
  have hasc : ∀ i, 0 < i → i < l.length → nth l (i - 1) < nth l i := by
    intro i hi hil
    rw [nth_eq (by omega), nth_eq hil]
    exact List.pairwise_iff_getElem.1 hr.asc _ _ _ _ (by omega)
  have ht0 : ((l.length : Int) == 0) = false := beq_eq_false_iff_ne.2 (by omega)
  have hlt0 : (0 : Int) < l.length := by omega
  have HA := Lib.hid hasc
  clear hn0 hasc hl hr
  go_enter Try.func87, Try.ntmps87
  go_wp2
  go_loopw [5] (fun i wr => ∃ k n : Nat, 1 ≤ k ∧ k ≤ l.length ∧ i = .int .i64 k ∧ wr = w.drewN n) (fun i _ => l.length - (intOf i).toNat)
  case atStart => exact ⟨1, 0, by omega, by omega, rfl, rfl⟩
  case round =>
    obtain ⟨k, n, hk1, hk, rfl, rfl⟩ := hrel
    by_cases hlt : k < l.length
    · obtain ⟨_, _, e1, hk0⟩ := ha.atN hlt
      injection e1 with e1
      injection e1 with e1 e2
      subst e1; subst e2
      obtain ⟨_, _, e1, hk2⟩ := ha.atN (k := k - 1) (by omega)
      injection e1 with e1
      injection e1 with e1 e2
      subst e1; subst e2
      have hcmp := HA.out k (by omega) hlt
      have hltI : (k : Int) < l.length := by omega
      have hw1 : IntKind.i64.wrap ((k : Int) - 1) = (k : Int) - 1 := IntWalk.i64_in _ (by omega)
      have hw2 : ((k : Int) - 1).toNat = k - 1 := by omega
      have hw3 : (k : Int) - 1 < l.length := by omega
      have hw4 : 0 ≤ (k : Int) - 1 := by omega
      have hw5 : (1 : Int) ≤ k := by omega
      have hdec : decide (nth l k ≤ nth l (k - 1)) = false := by simp; omega
      go_wp2_with fail
      go_quiet (fail)
      clear hw1 hw2
      go_wp2
      go_roundw
      case rel => exact ⟨k + 1, _, by omega, by omega, by go_num, rfl⟩
      case measure => simp [intOf]; omega
    · go_wp2
      go_ret
      exact ⟨rfl, n, rfl⟩

set_option maxHeartbeats 1600000 in
theorem inRange_any {S : Nat → Prop} (v : PV) (p : Pat) (a : Arc) (w : World) (hp : PatAt S w v p) (hn : p.len.length ≤ 5) (ho : ArcOk p.len.length p.len a) (hb : a.ix ≤ 64 ∧ a.at_ ≤ 64) :
    Calls Try.prog 88 #[v.val p, .agg #[.int .i64 (a.fr : Int), .int .i64 a.ix, .int .i64 (a.to : Int), .int .i64 a.at_]] w fun e w' => e = .returned (.bool true) ∧ Ext w w' := by
  obtain ⟨A1, c1, A2, c2, A3, c3⟩ := v
  obtain ⟨h1, h2, h3, l1, m1, l2, m2, l3, m3⟩ := hp
  obtain ⟨fr, ix, to, at_⟩ := a
  obtain ⟨o1, o2, o3, o4, o5, o6, o7⟩ := ho
  simp only at h1 h2 h3 l1 m1 l2 m2 l3 m3 o1 o2 o3 o4 o5 o6 o7 hb
  simp only [PV.val]
  obtain ⟨b, o, rfl, hc1⟩ := h1.atN o1
  obtain ⟨_, _, e1, hc2⟩ := h1.atN o2
  injection e1 with e1
  injection e1 with e1 e2
  subst e1; subst e2
  have hbl := lt_of_cell hc1
  simp only at hbl
  have q1 : (fr : Int) < p.len.length := by omega
  have q2 : (to : Int) < p.len.length := by omega
  have q3 : ((fr : Int) == (to : Int)) = false := beq_eq_false_iff_ne.2 (by omega)
  have d1 : decide (0 ≤ ix) = true := by simpa using o4
  have d2 : decide (ix ≤ nth p.len fr) = true := by simpa using o5
  have d3 : decide (0 ≤ at_) = true := by simpa using o6
  have d4 : decide (at_ ≤ nth p.len to) = true := by simpa using o7
  generalize nth p.len fr = n1 at *
  generalize nth p.len to = n2 at *
  have f1 := cell_a4 hc1
  have f2 := cell_a4 hc2
  clear h1 h2 h3 o3 hc1 hc2
  go_enter Try.func88, Try.ntmps88
  go_wp2
  go_quiet (fail)
  go_wp2
  go_ret
  exact ⟨rfl, (((((Ext.refl' w).alloc' _).alloc' _).alloc' _).alloc' _).drewN' _⟩

/-- what pattern.Check asks of a pattern before it looks for circles -/
structure Shape (p : Pat) : Prop where
  fair : Fair p
  ckl : p.ck.length = p.len.length
  row : ∀ q, q < p.len.length → RowOk (rowOf p.ck q) (nth p.len q)
  few : p.arcs.length ≤ 256
theorem Good.shape {p : Pat} (h : Good p) : Shape p := ⟨h.fair, h.ckl, h.row, h.few⟩

set_option maxRecDepth 100000 in
set_option maxHeartbeats 3200000 in
theorem check_shape {S : Nat → Prop} (v : PV) (p : Pat) (f : Nat) (bo : Bool) (w : World) (hp : PatAt S w v p) (hs : Shape p) (hf : ordF (recvTo p.arcs p.arcs.length) p.arcs f p.len 0 zeros = some bo) :
    Calls Try.prog 80 #[v.val p] w fun e w' => e = .returned (.int .i64 (if bo then 0 else 7)) ∧ Ext w w' := by
  obtain ⟨hfair, hckl, hrow, hfew⟩ := hs
  have hn5 := hfair.n5
  have hp0 := hp
  obtain ⟨A1, c1, A2, c2, A3, c3⟩ := v
  obtain ⟨h1, h2, h3, l1, m1, l2, m2, l3, m3⟩ := hp
  simp only at h1 h2 h3 l1 m1 l2 m2 l3 m3
  have HP := Lib.hid hp0
  have HR := Lib.hid hrow
  have HFA := Lib.hid hfair
  have HF := Lib.hid hf
  clear hp0 hrow hf hfair
  simp only [PV.val]
  have ht : ((p.ck.length : Int) != (p.len.length : Int)) = false := by simp [hckl]
  have hck5 : p.ck.length ≤ 5 := by omega
  have HCK := Lib.hid hckl
  clear hckl
  have hx1 := (Ext.refl' w).alloc' (.cells #[.slice A1 p.len.length c1, .slice A2 p.ck.length c2, .slice A3 p.arcs.length c3] 28)
  go_enter Try.func80, Try.ntmps80
  go_wp2_with fail
  go_loop [30] (fun i => ∃ k : Nat, k ≤ p.len.length ∧ i = .int .i64 k) (fun i => p.len.length - (intOf i).toNat)
  case atStart => exact ⟨0, Nat.zero_le _, rfl⟩
  case round =>
    obtain ⟨k, hk, rfl⟩ := hrel
    by_cases hlt : k < p.len.length
    · obtain ⟨b1, o1, rfl, hcl⟩ := (h1.ext hx1).atN hlt
      have hlo := HFA.out.lo k hlt
      have hhi := HFA.out.hi k hlt
      generalize nth p.len k = y at *
      go_wp2_with fail
      go_round
      case rel => exact ⟨k + 1, by omega, by go_num⟩
      case measure => simp [intOf]; omega
    · skip
      go_wp2_with fail
      go_loopw [44] (fun i wr => ∃ k n : Nat, k ≤ p.ck.length ∧ i = .int .i64 k ∧ wr = (w.alloc (.cells #[.slice A1 p.len.length c1, .slice A2 p.ck.length c2, .slice A3 p.arcs.length c3] 28)).drewN n) (fun i _ => p.ck.length - (intOf i).toNat)
      case atStart => exact ⟨0, 0, Nat.zero_le _, rfl, rfl⟩
      case round =>
        obtain ⟨k, n, hk, rfl, rfl⟩ := hrel
        by_cases hlt : k < p.ck.length
        · have hlt' : k < p.len.length := by rw [← HCK.out]; exact hlt
          obtain ⟨b1, o1, rfl, hcl⟩ := (h1.ext hx1).atN hlt'
          obtain ⟨b2, o2, B, cc, rfl, hcr, hl2, hl3, hri⟩ := (h2.into (Into.ofExt hx1)).at_ hlt
          have hhi := HFA.out.hi k hlt'
          have hasc := ascending_any B cc (rowOf p.ck k) (nth p.len k) ((w.alloc (.cells #[.slice (some ⟨b1, o1, none⟩) p.len.length c1, .slice (some ⟨b2, o2, none⟩) p.ck.length c2, .slice A3 p.arcs.length c3] 28)).drewN n) hri hl2 hl3 (HR.out k hlt') hhi
          have HA := Lib.hid hasc
          clear hasc
          generalize nth p.len k = y at *
          go_wp2_with fail
          refine HA.out.mono ?_
          rintro e w' ⟨rfl, m, rfl⟩
          go_wp2_with fail
          go_roundw
          case rel => exact ⟨k + 1, _, by omega, by go_num, rfl⟩
          case measure => simp [intOf]; omega
        · skip
          have hb := heap2 w (.cells #[.slice A1 p.len.length c1, .slice A2 p.ck.length c2, .slice A3 p.arcs.length c3] 28) (.cells Try.zeroCells95 95)
          have hx2 := hx1.alloc' (.cells Try.zeroCells95 95)
          have HB := Lib.hid hb
          have HX := Lib.hid hx2
          clear hb hx2
          go_wp2_with fail
          go_loopw [61] (fun i wr => ∃ k : Nat, k ≤ p.arcs.length ∧ i = .int .i64 k ∧ Marks wr (w.heap.size + 1) (recvTo p.arcs k) ∧ (wr.cell? ⟨w.heap.size, 0, none⟩ = some (.slice A1 p.len.length c1) ∧ wr.cell? ⟨w.heap.size, 1, none⟩ = some (.slice A2 p.ck.length c2) ∧ wr.cell? ⟨w.heap.size, 2, none⟩ = some (.slice A3 p.arcs.length c3)) ∧ Ext w wr) (fun i _ => p.arcs.length - (intOf i).toNat)
          case atStart =>
            refine ⟨0, Nat.zero_le _, rfl, ⟨?_, zeros_length⟩, ⟨cell_of_heap HB.out.1 rfl, cell_of_heap HB.out.1 rfl, cell_of_heap HB.out.1 rfl⟩, HX.out.drewN' n⟩
            rw [show Try.zeroCells95 = (ints (recvTo p.arcs 0)).toArray from zeros_cells] at HB
            exact HB.out.2
          case round =>
            clear HB HX
            obtain ⟨k, hk, rfl, hm, ⟨g0, g1, g2⟩, hext⟩ := hrel
            have hsz := lt_of_block hm.1
            by_cases hlt : k < p.arcs.length
            · obtain ⟨b3, o3, rfl, a0, a1, a2, a3⟩ := (h3.into (Into.ofExt hext)).at_ hlt
              have ho := HFA.out.arc _ (arcOf_mem hlt)
              have hab := HFA.out.arcb (arcOf_mem hlt)
              have hfree := fun h0 => HFA.out.free hlt h0
              have hstep : recvTo p.arcs (k + 1) = if (arcOf p.arcs k).at_ = 0 then recvTo p.arcs k else (recvTo p.arcs k).set (gi (arcOf p.arcs k).to (arcOf p.arcs k).at_.toNat) ((k : Int) + 1) := rfl
              have HST := Lib.hid hstep
              have HFR := Lib.hid hfree
              have hx3 := (Ext.refl' wr).alloc' (.cells (arcCells (arcOf p.arcs k)).toArray 57)
              have hin := inRange_any _ p (arcOf p.arcs k) (wr.alloc (.cells (arcCells (arcOf p.arcs k)).toArray 57)) ((HP.out.ext hext).ext hx3) hn5 ho ⟨by omega, by omega⟩
              have HIN := Lib.hid hin
              clear hstep hfree hin ho
              have g0a := cell_a1 g0
              have g1a := cell_a1 g1
              have g2a := cell_a1 g2
              have hne : w.heap.size ≠ w.heap.size + 1 := by omega
              have hy2 : (wr.alloc (.cells (arcCells (arcOf p.arcs k)).toArray 57)).cell? ⟨wr.heap.size, 2, none⟩ = some (.int .i64 ((arcOf p.arcs k).to : Int)) := cell_of_heap (heap_new wr _) rfl
              have hy3 : (wr.alloc (.cells (arcCells (arcOf p.arcs k)).toArray 57)).cell? ⟨wr.heap.size, 3, none⟩ = some (.int .i64 (arcOf p.arcs k).at_) := cell_of_heap (heap_new wr _) rfl
              have HY2 := Lib.hid hy2
              have HY3 := Lib.hid hy3
              clear hy2 hy3
              go_wp2_with fail
              refine HIN.out.mono ?_
              rintro e w2 ⟨rfl, hx4⟩
              have hx5 := hx3.trans' hx4
              have hm2 := hm.ext hx5
              have k0 := hx5.cell g0
              have k1 := hx5.cell g1
              have k2 := hx5.cell g2
              have y2 := hx4.cell HY2.out
              have y3 := hx4.cell HY3.out
              have hext2 := hext.trans' hx5
              clear HIN HY2 HY3 hx4 hx3 hx5 g0 g1 g2 g0a g1a g2a hm
              obtain ⟨t, ht0⟩ : ∃ t : Nat, (arcOf p.arcs k).to = t := ⟨_, rfl⟩
              obtain ⟨z, hz0⟩ : ∃ z : Nat, (arcOf p.arcs k).at_ = (z : Int) := ⟨(arcOf p.arcs k).at_.toNat, by omega⟩
              rw [ht0] at y2
              rw [hz0] at y3
              have ht5 : t < 5 := by omega
              have hz64 : z ≤ 64 := by omega
              have hgl : t * 65 + z < 325 := by omega
              have HFR2 : Hid ((z : Int) ≠ 0 → nth (recvTo p.arcs k) (t * 65 + z) = 0) := by
                have h := HFR.out
                rw [hz0, ht0, Int.toNat_natCast] at h
                exact h
              have HST2 : Hid (recvTo p.arcs (k + 1) = if (z : Int) = 0 then recvTo p.arcs k else (recvTo p.arcs k).set (t * 65 + z) ((k : Int) + 1)) := by
                have h := HST.out
                rw [hz0, ht0, Int.toNat_natCast] at h
                exact h
              clear HFR HST ht0 hz0 hab a0 a1 a2 a3
              by_cases hz : z = 0
              · have hzb : ((z : Int) == 0) = true := by simp [hz]
                have hst := HST2.out
                rw [if_pos (by omega)] at hst
                have HST := Lib.hid hst
                clear hst hz HFR2 HST2
                go_wp2_with fail
                go_roundw
                case rel => exact ⟨k + 1, by omega, by go_num, by rw [HST.out]; exact hm2, ⟨k0, k1, k2⟩, hext2⟩
                case measure => simp [intOf]; omega
              · have hzb : ((z : Int) == 0) = false := beq_eq_false_iff_ne.2 (by omega)
                have hst := HST2.out
                rw [if_neg (by omega)] at hst
                have hfr := HFR2.out (by omega)
                have hcell := hm2.cell hgl
                rw [hfr] at hcell
                have hfz := hm2.fz (t * 65 + z)
                have hm3 := hm2.set (t * 65 + z) ((k : Int) + 1)
                rw [← hst] at hm3
                have HST := Lib.hid hst
                clear hst hz HFR2 HST2 hfr
                have ht5' : (t : Int) < 5 := by omega
                have hz65' : (z : Int) < 65 := by omega
                have hne1 : w.heap.size ≠ w.heap.size + 1 := by omega
                have s0 := World.cell?_setCell_other w2 ⟨w.heap.size + 1, t * 65 + z, none⟩ ⟨w.heap.size, 0, none⟩ (.int .i64 ((k : Int) + 1)) (by simp)
                have s1 := World.cell?_setCell_other w2 ⟨w.heap.size + 1, t * 65 + z, none⟩ ⟨w.heap.size, 1, none⟩ (.int .i64 ((k : Int) + 1)) (by simp)
                have s2 := World.cell?_setCell_other w2 ⟨w.heap.size + 1, t * 65 + z, none⟩ ⟨w.heap.size, 2, none⟩ (.int .i64 ((k : Int) + 1)) (by simp)
                rw [k0] at s0
                rw [k1] at s1
                rw [k2] at s2
                have hext3 := hext2.setCell' (p := ⟨w.heap.size + 1, t * 65 + z, none⟩) (by show w.heap.size ≤ w.heap.size + 1; omega) (.int .i64 ((k : Int) + 1))
                have S0 := Lib.hid s0
                have S1 := Lib.hid s1
                have S2 := Lib.hid s2
                clear s0 s1 s2
                go_wp2_with fail
                go_quiet (fail)
                go_wp2_with fail
                have hw1 : IntKind.i64.wrap ((k : Int) + 1) = (k : Int) + 1 := IntWalk.i64_in _ (by omega)
                have y2' : (w2.drewN nq).cell? ⟨wr.heap.size, 2, none⟩ = some (.int .i64 (t : Int)) := y2
                have y3' : (w2.drewN nq).cell? ⟨wr.heap.size, 3, none⟩ = some (.int .i64 (z : Int)) := y3
                have hcell' : (w2.drewN nq).cell? ⟨w.heap.size + 1, t * 65 + z, none⟩ = some (.int .i64 0) := hcell
                have hfz' : (w2.drewN nq).frozen? ⟨w.heap.size + 1, t * 65 + z, none⟩ = false := hfz
                clear y2 y3 hcell hfz
                generalize hw3 : w2.drewN nq = w3 at y2' y3' hcell' hfz' ⊢
                have HW := Lib.hid hw3
                clear hw3
                refine wp_region_still_tail 8 (by kernel_rfl) (by kernel_rfl) ?_
                simp only [List.take_succ_cons, List.take_zero, List.drop_succ_cons, List.drop_zero]
                repeat still_step
                refine wpStill_nil ?_
                change wpList _ _ _ _ _ w3.drew
                clear hw1
                go_wp2_with fail
                go_roundw
                case rel =>
                  refine ⟨k + 1, by omega, by go_num, ?_, ?_, ?_⟩
                  · rw [← HW.out]; exact hm3
                  · rw [← HW.out]; exact ⟨S0.out, S1.out, S2.out⟩
                  · rw [← HW.out]; exact hext3.drewN' (nq + 1)
                case measure => simp [intOf]; omega
            · obtain rfl : k = p.arcs.length := by omega
              have hca : RI All wr (some ⟨w.heap.size + 1, 0, none⟩) (recvTo p.arcs p.arcs.length) := fun j u hu => by
                rw [List.getElem?_map] at hu
                cases hz : (recvTo p.arcs p.arcs.length)[j]? with
                | none => rw [hz] at hu; cases hu
                | some x =>
                  rw [hz] at hu
                  injection hu with hu
                  obtain ⟨hj, hx⟩ := List.getElem?_eq_some_iff.1 hz
                  rw [recvTo_length] at hj
                  refine ⟨_, _, rfl, trivial, ?_⟩
                  rw [Nat.zero_add, hm.cell hj, nth_eq (by rw [recvTo_length]; exact hj), hx, ← hu]
              have hord := ordered_any (S := All) ⟨A1, c1, A2, c2, A3, c3⟩ p (w.heap.size + 1) f (recvTo p.arcs p.arcs.length) bo wr ((HP.out.ext hext).into (Into.sub _ fun _ _ => trivial)) hn5 (fun q hq => ⟨HFA.out.lo q hq, HFA.out.hi q hq⟩) hca (recvTo_length _ _) hfew (fun j _ => recvTo_bd _ _ _) (fun a ha => by have := HFA.out.arcb ha; omega) HF.out
              have HO := Lib.hid hord
              clear hord hca hm
              go_wp2_with fail
              refine HO.out.mono ?_
              rintro e w2 ⟨rfl, hx4⟩
              have hext2 := hext.trans' hx4
              clear HO hx4
              cases bo with
              | true =>
                go_wp2_with fail
                go_ret
                exact ⟨rfl, hext2⟩
              | false =>
                go_wp2_with fail
                go_ret
                exact ⟨rfl, hext2⟩

theorem check_good {S : Nat → Prop} (v : PV) (p : Pat) (w : World) (hp : PatAt S w v p) (hg : Good p) : Calls Try.prog 80 #[v.val p] w fun e w' => e = .returned (.int .i64 0) ∧ Ext w w' := by
  obtain ⟨f, hf⟩ := hg.ordF
  exact check_shape v p f true w hp hg.shape hf
end Go.Proofs.Ytkflmichekpfbaa
