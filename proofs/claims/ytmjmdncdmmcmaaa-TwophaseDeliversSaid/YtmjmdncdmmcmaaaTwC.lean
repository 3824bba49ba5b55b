/- Two-phase checkpointing: reached, Least, Undo: what they return. Conditions: the pattern is good and lies in memory. -/
import Derived.Test.YtmjmdncdmmcmaaaTwB
import Derived.Test.YtmjmdncdmmcmaaaRowLd
import Derived.Test.YtmjmdncdmmcmaaaTail
namespace Go.Proofs.Ytmjmdncdmmcmaaa
open Go.RowKit
set_option linter.unusedVariables false
set_option linter.unusedSimpArgs false
set_option linter.unusedSectionVars false

/-- those of which a process is a source -/
def undL (p : Pat) (q : Nat) : List Nat := (List.range p.len.length).filter (fun r => decide (q ∈ srcL p r))
theorem undL_mem {p : Pat} {r q : Nat} : r ∈ undL p q ↔ r < p.len.length ∧ q ∈ srcL p r := by simp [undL]
theorem srcL_len (p : Pat) (q : Nat) : (srcL p q).length ≤ p.len.length := by
  have := List.length_filter_le (fun r => isSrc p r q) (List.range p.len.length)
  simpa [srcL] using this
theorem undL_len (p : Pat) (q : Nat) : (undL p q).length ≤ p.len.length := by
  have := List.length_filter_le (fun r => decide (q ∈ srcL p r)) (List.range p.len.length)
  simpa [undL] using this
theorem filter_range_succ (f : Nat → Bool) (k : Nat) : (List.range (k + 1)).filter f = (List.range k).filter f ++ (if f k = true then [k] else []) := by
  rw [List.range_succ, List.filter_append]
  by_cases h : f k = true
  · simp [h]
  · simp [h]
set_option maxRecDepth 100000 in
set_option maxHeartbeats 1600000 in
theorem lead1_any {S : Nat → Prop} (A1 : Option Addr) (c1 : Nat) (A2 : Option Addr) (c2 : Nat) (A3 : Option Addr) (c3 : Nat) (p : Pat) (q g : Nat) (w0 : World) (hp : PatAt S w0 ⟨A1, c1, A2, c2, A3, c3⟩ p) (hg : Good p) (hq : q < p.len.length) (hc : Cells w0 g 0 [.slice A1 p.len.length c1, .slice A2 p.ck.length c2, .slice A3 p.arcs.length c3]) :
    Calls Try.prog 54 #[.int .i64 (q : Int), .pointer (some ⟨g, 0, none⟩)] w0 (RetRow w0 3 1 (srcL p q).length (ints (nats (srcL p q)))) := by
  have hS := St.start w0 NoM
  have HP := Lib.hid (And.intro hp hg)
  clear hp hg
  go_enter Try.func54, Try.ntmps54
  go_wp2_with (first | (go_at_call 55; refine (sources_any ⟨A1, c1, A2, c2, A3, c3⟩ p q _ (HP.out.1.ext hS.toExt) HP.out.2 hq).mono ?_; rintro e w ⟨L, c, rfl, ho, hx⟩; replace hS := hS.addRow ho hx; clear ho hx) | (refine oL ?_; ((refine sL3 hS rfl rfl ?_))))
  go_ret
  exact hS.ret rfl
set_option maxRecDepth 100000 in
set_option maxHeartbeats 1600000 in
theorem lead2_any {S : Nat → Prop} (A1 : Option Addr) (c1 : Nat) (A2 : Option Addr) (c2 : Nat) (A3 : Option Addr) (c3 : Nat) (p : Pat) (q g : Nat) (w0 : World) (hp : PatAt S w0 ⟨A1, c1, A2, c2, A3, c3⟩ p) (hg : Good p) (hq : q < p.len.length) (hc : Cells w0 g 0 [.slice A1 p.len.length c1, .slice A2 p.ck.length c2, .slice A3 p.arcs.length c3]) :
    Calls Try.prog 56 #[.int .i64 (q : Int), .pointer (some ⟨g, 0, none⟩)] w0 (RetRow w0 3 1 (undL p q).length (ints (nats (undL p q)))) := by
  have hS := St.start w0 NoM
  have HP := Lib.hid (And.intro hp hg)
  have hn5 := hg.n5
  have hc0 : w0.cell? ⟨g, 0, none⟩ = some (.slice A1 p.len.length c1) := hc 0 _ rfl
  clear hp hg
  go_enter Try.func56, Try.ntmps56
  go_wp2_with (((refine oL ?_; ((refine sL4 hS rfl rfl ?_)))))
  replace hS := hS.addNil 3 1
  go_loopw [4, 5, 9] (fun s4 s5 s9 wr => ∃ (j c4 m : Nat) (L : Option Addr), j ≤ p.len.length ∧ m ≤ j ∧ s9 = .int .i64 j ∧ s4 = .slice L m c4 ∧ Hid (((List.range j).filter (fun r => decide (q ∈ srcL p r))).length = m) ∧ St w0 NoM [row (.slice L m c4) 3 1 m (ints (nats ((List.range j).filter (fun r => decide (q ∈ srcL p r)))))] wr) (fun _ _ s9 _ => p.len.length - (intOf s9).toNat)
  case atStart => exact ⟨0, 0, 0, none, by omega, by omega, rfl, rfl, Lib.hid rfl, hS⟩
  case round =>
    clear hS
    obtain ⟨j, c4, m, L, hj, hm, rfl, rfl, HM, hS⟩ := hrel
    by_cases hjl : j < p.len.length
    · have hjl' : (j : Int) < p.len.length := by omega
      have HFS := Lib.hid (filter_range_succ (fun r => decide (q ∈ srcL p r)) j)
      have hsl := srcL_len p j
      have HMM := Lib.hid (show decide ((q : Int) ∈ nats (srcL p j)) = decide (q ∈ srcL p j) by
        congr 1
        rw [nats_mem, eq_iff_iff]
        constructor
        · rintro ⟨k, hk, e⟩; rw [← (show k = q by omega)]; exact hk
        · intro h; exact ⟨q, h, rfl⟩)
      have HNL := Lib.hid (show (nats (srcL p j)).length = (srcL p j).length by simp)
      by_cases hin : q ∈ srcL p j
      · have HN := Lib.hid (show (List.range (j + 1)).filter (fun r => decide (q ∈ srcL p r)) = (List.range j).filter (fun r => decide (q ∈ srcL p r)) ++ [j] by rw [HFS.out, if_pos (by simpa using hin)])
        have hdt : decide (q ∈ srcL p j) = true := decide_eq_true hin
        rw [hdt] at HMM
        clear hin HFS hdt
        go_wp2_with (first | (go_at_call 55; refine (sources_any ⟨A1, c1, A2, c2, A3, c3⟩ p j _ (HP.out.1.ext hS.toExt) HP.out.2 hjl).mono ?_; rintro e w ⟨L5, c5, rfl, ho, hx⟩; replace hS := hS.addRow ho hx; clear ho hx) | (go_at_call 57; refine (containsC (S := All) L5 c5 _ (nats (srcL p j)) (q : Int) _ hS.rv HNL.out (by omega)).mono ?_; rintro e w ⟨rfl, rfl⟩; rw [HMM.out]) | (refine oL ?_; ((refine sL3 hS rfl rfl ?_))) | (refine oP ?_; (((refine sP2 hS rfl rfl rfl ?_)); clear hS; (((fail_if_success guard_hyp L1); intro L1 cl1 w hL1 hM1 hS)))) | ((((refine oC ?_; (refine sC1 hS rfl rfl ?_)))); clear hS; (((fail_if_success guard_hyp g1); intro g1 w hS))))
        go_roundw
        case measure => simp [intOf]; try omega
        refine ⟨j + 1, cl1, m + 1, L1, by omega, by omega, by go_num, rfl, Lib.hid ?_, ?_⟩
        · rw [HN.out, List.length_append, HM.out]; rfl
        · rw [HN.out]
          have e : ints (nats ((List.range j).filter (fun r => decide (q ∈ srcL p r)) ++ [j])) = ints (nats ((List.range j).filter (fun r => decide (q ∈ srcL p r)))) ++ [.int .i64 (j : Int)] := by simp [ints, nats]
          rw [e]
          exact hS.re
      · have HN := Lib.hid (show (List.range (j + 1)).filter (fun r => decide (q ∈ srcL p r)) = (List.range j).filter (fun r => decide (q ∈ srcL p r)) by rw [HFS.out, if_neg (by simpa using hin), List.append_nil])
        have hdt : decide (q ∈ srcL p j) = false := decide_eq_false hin
        rw [hdt] at HMM
        clear hin HFS hdt
        go_wp2_with (first | (go_at_call 55; refine (sources_any ⟨A1, c1, A2, c2, A3, c3⟩ p j _ (HP.out.1.ext hS.toExt) HP.out.2 hjl).mono ?_; rintro e w ⟨L5, c5, rfl, ho, hx⟩; replace hS := hS.addRow ho hx; clear ho hx) | (go_at_call 57; refine (containsC (S := All) L5 c5 _ (nats (srcL p j)) (q : Int) _ hS.rv HNL.out (by omega)).mono ?_; rintro e w ⟨rfl, rfl⟩; rw [HMM.out]) | (refine oL ?_; ((refine sL3 hS rfl rfl ?_))))
        go_roundw
        case measure => simp [intOf]; try omega
        refine ⟨j + 1, c4, m, L, by omega, by omega, by go_num, rfl, Lib.hid ?_, ?_⟩
        · rw [HN.out, HM.out]
        · rw [HN.out]; exact hS.re
    · have HE := Lib.hid (show j = p.len.length by omega)
      have hjl' : ¬ (j : Int) < p.len.length := by omega
      go_wp2_with (fail)
      go_ret
      have e : (List.range j).filter (fun r => decide (q ∈ srcL p r)) = undL p q := by rw [HE.out]; rfl
      rw [e] at hS HM
      rw [HM.out]
      have h9 := hS.ret (L := L) (c := c4) (k := m) rfl
      simp only [ints, nats, List.map_map] at h9
      exact h9
theorem lead_src (p : Pat) (hg : Good p) : ∀ x y, y ∈ srcL p x → y < p.len.length := fun x y h => (srcL_mem.1 h).1
theorem lead_und (p : Pat) (hg : Good p) : ∀ x y, y ∈ undL p x → y < p.len.length := fun x y h => (undL_mem.1 h).1
set_option maxRecDepth 100000 in
set_option maxHeartbeats 3200000 in
theorem reach1_any {S : Nat → Prop} (A1 : Option Addr) (c1 : Nat) (A2 : Option Addr) (c2 : Nat) (A3 : Option Addr) (c3 : Nat) (p : Pat) (r g : Nat) (w0 : World) (hp : PatAt S w0 ⟨A1, c1, A2, c2, A3, c3⟩ p) (hg : Good p) (hr : r < p.len.length) (hc : Cells w0 g 0 [.slice A1 p.len.length c1, .slice A2 p.ck.length c2, .slice A3 p.arcs.length c3]) :
    Calls Try.prog 53 #[.agg #[.slice A1 p.len.length c1, .slice A2 p.ck.length c2, .slice A3 p.arcs.length c3], .int .i64 (r : Int), .func (.func 54) #[] #[.pointer (some ⟨g, 0, none⟩)]] w0 (fun e w' => ∃ m, IsRch (srcL p) r m ∧ RetRow w0 3 1 m.length (ints (nats m)) e w') := by
  have hS := St.start w0 NoM
  have HP := Lib.hid (And.intro hp (And.intro hg hc))
  have hn5 := hg.n5
  have HLT := Lib.hid (lead_src p hg)
  have d0 : decide ((r : Int) < 0) = false := decide_eq_false (by omega)
  have d1 : decide ((p.len.length : Int) ≤ (r : Int)) = false := decide_eq_false (by omega)
  have d1n : decide (p.len.length ≤ r) = false := decide_eq_false (by omega)
  clear hp hg hc
  go_enter Try.func53, Try.ntmps53
  go_upto_region 1 with ((((((refine oB ?_; (refine sB1 hS rfl rfl ?_)))); clear hS; (((fail_if_success guard_hyp g1); intro g1 w hS)))))
  refine lR ?_
  (refine ⟨?_⟩; (((refine sL2 hS rfl rfl rfl ?_))); refine WL.h ?_)
  (try simp only [Act.put, nA, nB, nC])
  (refine ⟨?_⟩; (refine st_call rfl (by kernel_rfl) rfl ?_; go_at_call 61; refine (check_good ⟨A1, c1, A2, c2, A3, c3⟩ p _ (HP.out.1.ext hS.toExt) HP.out.2.1).mono ?_; rintro e w ⟨rfl, hx1⟩; replace hS := hS.ext hx1; clear hx1); refine WL.h ?_)
  (try simp only [Act.put, nA, nB, nC])
  refine lP rfl ?_
  (try simp only [Act.put, nA, nB, nC])
  refine lM rfl rfl ?_
  (try simp only [Act.put, nA, nB, nC])
  first | refine lQ rfl ?_ | refine lM rfl rfl ?_ | fail
  (try simp only [Act.put, nA, nB, nC])
  first | refine lQ rfl ?_ | refine lP rfl ?_ | fail
  (try simp only [Act.put, nA, nB, nC])
  refine lP rfl ?_
  (try simp only [Act.put, nA, nB, nC])
  refine lM rfl rfl ?_
  (try simp only [Act.put, nA, nB, nC])
  first | refine lQ rfl ?_ | refine lM rfl rfl ?_ | fail
  (try simp only [Act.put, nA, nB, nC])
  first | refine lQ rfl ?_ | refine lP rfl ?_ | fail
  (try simp only [Act.put, nA, nB, nC])
  ((refine ⟨?_⟩; (((refine sL1 hS rfl rfl rfl ?_))); refine WL.h ?_))
  (try simp only [Act.put, nA, nB, nC])
  first | refine lQ rfl ?_ | refine lP rfl ?_ | fail
  (try simp only [Act.put, nA, nB, nC])
  first | refine lQ rfl ?_ | refine lP rfl ?_ | fail
  (try simp only [Act.put, nA, nB, nC])
  refine lP rfl ?_
  (try simp only [Act.put, nA, nB, nC])
  refine lZ ?_
  clear d0 d1 d1n
  go_wp2_with ((((((refine oC ?_; (refine sC1 hS rfl rfl ?_)))); clear hS; (((fail_if_success guard_hyp g2); intro g2 w hS)))))
  have hb := hS.blkRw (g := g2) (n := 1) (sz := 1) (by rfl) (by omega)
  replace hS : St w0 NoM [row (.slice (some ⟨g2, 0, none⟩) 1 1) 3 1 1 (ints (nats [r])), blk g1 [.slice A1 p.len.length c1, .slice A2 p.ck.length c2, .slice A3 p.arcs.length c3] 44] _ := hb
  clear hb
  go_loopw [7, 8, 10] (fun s7 s8 s10 wr => ∃ (i c7 m : Nat) (L : Option Addr) (l : List Nat), i ≤ m ∧ m ≤ 5 ∧ s8 = .int .i64 i ∧ s7 = .slice L m c7 ∧ Hid (Bfs p.len.length (srcL p) r l i 0 ∧ l.length = m) ∧ St w0 NoM [row (.slice L m c7) 3 1 m (ints (nats l)), blk g1 [.slice A1 p.len.length c1, .slice A2 p.ck.length c2, .slice A3 p.arcs.length c3] 44] wr) (fun _ s8 _ _ => 5 - (intOf s8).toNat)
  case atStart => exact ⟨0, 1, 1, some ⟨g2, 0, none⟩, [r], by omega, by omega, rfl, rfl, Lib.hid ⟨Bfs.start hr, rfl⟩, hS⟩
  case round =>
    clear hS
    obtain ⟨i, c7, m, L, l, him, hm5, rfl, rfl, HB, hS⟩ := hrel
    by_cases hlt : i < m
    · have hlt' : (i : Int) < (m : Int) := by omega
      have hil : i < l.length := by rw [HB.out.2]; exact hlt
      obtain ⟨gL, rfl⟩ := hS.rowSome L (by omega)
      have hx0 := List.getElem?_eq_getElem hil
      have HX := Lib.hid hx0
      have hgx : (ints (nats l))[i]? = some (.int .i64 ((l[i] : Nat) : Int)) := by simp [ints, nats, hil]
      have hxn : l[i] < p.len.length := HB.out.1.lt _ (List.getElem_mem hil)
      clear hx0
      generalize l[i] = x at *
      have hfl := srcL_len p x
      have HFL := Lib.hid (show (srcL p x).length ≤ 5 by omega)
      go_wp2_with (first | (go_at_call 54; refine (lead1_any A1 c1 A2 c2 A3 c3 p x g _ (HP.out.1.ext hS.toExt) HP.out.2.1 hxn (fun i u hi => hS.oldCell (HP.out.2.2 i u hi) id)).mono ?_; rintro e w ⟨L5, c5, rfl, ho, hx⟩; replace hS := hS.addRow ho hx; clear ho hx) | (refine oL ?_; ((refine sL5 hS rfl rfl ?_))))
      clear hgx
      generalize hfx : (srcL p x).length = k at *
      have HFX := Lib.hid hfx
      clear hfx hfl
      have hk5 := HFL.out
      go_loopw [7, 10, 40] (fun s7 s10 s40 wr => ∃ (j c7 m : Nat) (L : Option Addr) (l : List Nat), j ≤ k ∧ i < m ∧ m ≤ 5 ∧ s40 = .int .i64 j ∧ s7 = .slice L m c7 ∧ Hid (Bfs p.len.length (srcL p) r l i j ∧ l.length = m ∧ l[i]? = some x) ∧ St w0 NoM [row (.slice L m c7) 3 1 m (ints (nats l)), row (.slice L5 k c5) 3 1 k (ints (nats (srcL p x))), blk g1 [.slice A1 p.len.length c1, .slice A2 p.ck.length c2, .slice A3 p.arcs.length c3] 44] wr) (fun _ _ s40 _ => k - (intOf s40).toNat)
      case atStart => exact ⟨0, c7, m, _, l, by omega, by omega, by omega, rfl, rfl, Lib.hid ⟨HB.out.1, HB.out.2, HX.out⟩, hS.re⟩
      case round =>
        clear hS HB HX hlt' hil hlt
        obtain ⟨j, c7, m, L, l, hj, him, hm5, rfl, rfl, HB, hS⟩ := hrel
        by_cases hjk : j < k
        · have hjk' : (j : Int) < (k : Int) := by omega
          have hjl : j < (srcL p x).length := by rw [HFX.out]; exact hjk
          obtain ⟨gF, rfl⟩ := hS.rowSome L5 (by omega)
          have hgy : (ints (nats (srcL p x)))[j]? = some (.int .i64 (((srcL p x)[j] : Nat) : Int)) := by simp [ints, nats, hjl]
          have HY := Lib.hid (HB.out.1.add HB.out.2.2 (List.getElem?_eq_getElem hjl) HLT.out)
          have hyn : (srcL p x)[j] < p.len.length := HLT.out x _ (List.getElem_mem hjl)
          have hnl : (nats l).length = m := by rw [List.length_map]; exact HB.out.2.1
          have HXI := Lib.hid HB.out.2.2
          generalize (srcL p x)[j] = y at *
          have HMM := Lib.hid (show decide ((y : Int) ∈ nats l) = decide (y ∈ l) by
            congr 1
            rw [nats_mem, eq_iff_iff]
            constructor
            · rintro ⟨k, hk, e⟩; rw [← (show k = y by omega)]; exact hk
            · intro h; exact ⟨y, h, rfl⟩)
          have HML := Lib.hid HY.out.len
          by_cases hin : y ∈ l
          · have hdt : decide (y ∈ l) = true := decide_eq_true hin
            rw [hdt] at HMM
            have HA := Lib.hid (show addN l y = l by unfold addN; rw [if_pos hin])
            rw [HA.out] at HY
            clear hin hdt
            go_wp2_with (first | (go_at_call 57; refine (containsC (S := All) L c7 m (nats l) (y : Int) _ hS.rv hnl (by omega)).mono ?_; rintro e w ⟨rfl, rfl⟩; rw [HMM.out]) | (refine oL ?_; ((refine sL5 hS rfl rfl ?_))))
            go_roundw
            case measure => simp [intOf]; try omega
            exact ⟨j + 1, c7, m, L, l, by omega, by omega, by omega, by go_num, rfl, Lib.hid ⟨HY.out, HB.out.2⟩, hS⟩
          · have hdt : decide (y ∈ l) = false := decide_eq_false hin
            rw [hdt] at HMM
            have HA := Lib.hid (show addN l y = l ++ [y] by unfold addN; rw [if_neg hin])
            rw [HA.out] at HY HML
            have hm4 : m + 1 ≤ 5 := by have := HML.out; rw [List.length_append] at this; have := HB.out.2.1; simp at *; omega
            clear hin hdt
            go_wp2_with (first | (go_at_call 57; refine (containsC (S := All) L c7 m (nats l) (y : Int) _ hS.rv hnl (by omega)).mono ?_; rintro e w ⟨rfl, rfl⟩; rw [HMM.out]) | (refine oL ?_; ((refine sL5 hS rfl rfl ?_))) | (refine oP ?_; (((refine sP2 hS rfl rfl rfl ?_)); clear hS; (((fail_if_success guard_hyp L1); intro L1 cl1 w hL1 hM1 hS)))) | ((((refine oC ?_; (refine sC1 hS rfl rfl ?_)))); clear hS; (((fail_if_success guard_hyp g3); intro g3 w hS))))
            go_roundw
            case measure => simp [intOf]; try omega
            have e : ints (nats (l ++ [y])) = ints (nats l) ++ [.int .i64 (y : Int)] := by simp [ints, nats]
            refine ⟨j + 1, cl1, m + 1, L1, l ++ [y], by omega, by omega, by omega, by go_num, rfl, Lib.hid ⟨HY.out, by rw [List.length_append, HB.out.2.1]; rfl, ?_⟩, by rw [e]; exact hS.re⟩
            have h3 := HXI.out
            rw [List.getElem?_append_left (List.getElem?_eq_some_iff.1 h3).1]
            exact h3
        · have hjk' : ¬ (j : Int) < (k : Int) := by omega
          have HNX := Lib.hid (HB.out.1.next HB.out.2.2 (by rw [HFX.out]; omega))
          go_wp2_with (fail)
          go_roundw
          case measure => simp [intOf]; try omega
          exact ⟨i + 1, c7, m, L, l, by omega, by omega, by go_num, rfl, Lib.hid ⟨HNX.out, HB.out.2.1⟩, hS.re⟩
    · have hlt' : ¬ (i : Int) < (m : Int) := by omega
      obtain ⟨res, hres, hsort⟩ := HB.out.1.res (by rw [HB.out.2]; omega)
      have HR := Lib.hid (And.intro hres hsort)
      have hnl : (nats l).length = m := by rw [List.length_map]; exact HB.out.2
      have HRL := Lib.hid (show res.length = m by
        have := congrArg List.length hsort
        rw [sortI_length, List.length_map, List.length_map] at this
        rw [← this]; exact HB.out.2)
      clear hres hsort
      go_wp2_with (((go_at_call 43; refine (sortC L c7 m (nats l) _ hS.rowOk hnl (by omega)).mono ?_; rintro e w ⟨rfl, ho1, hk1⟩; replace hS := hS.rowTurn ho1 hk1; clear ho1 hk1; rw [HR.out.2] at hS)))
      go_ret
      refine ⟨res, HR.out.1, ?_⟩
      rw [HRL.out]
      exact hS.ret rfl
set_option maxRecDepth 100000 in
set_option maxHeartbeats 3200000 in
theorem reach2_any {S : Nat → Prop} (A1 : Option Addr) (c1 : Nat) (A2 : Option Addr) (c2 : Nat) (A3 : Option Addr) (c3 : Nat) (p : Pat) (r g : Nat) (w0 : World) (hp : PatAt S w0 ⟨A1, c1, A2, c2, A3, c3⟩ p) (hg : Good p) (hr : r < p.len.length) (hc : Cells w0 g 0 [.slice A1 p.len.length c1, .slice A2 p.ck.length c2, .slice A3 p.arcs.length c3]) :
    Calls Try.prog 53 #[.agg #[.slice A1 p.len.length c1, .slice A2 p.ck.length c2, .slice A3 p.arcs.length c3], .int .i64 (r : Int), .func (.func 56) #[] #[.pointer (some ⟨g, 0, none⟩)]] w0 (fun e w' => ∃ m, IsRch (undL p) r m ∧ RetRow w0 3 1 m.length (ints (nats m)) e w') := by
  have hS := St.start w0 NoM
  have HP := Lib.hid (And.intro hp (And.intro hg hc))
  have hn5 := hg.n5
  have HLT := Lib.hid (lead_und p hg)
  have d0 : decide ((r : Int) < 0) = false := decide_eq_false (by omega)
  have d1 : decide ((p.len.length : Int) ≤ (r : Int)) = false := decide_eq_false (by omega)
  have d1n : decide (p.len.length ≤ r) = false := decide_eq_false (by omega)
  clear hp hg hc
  go_enter Try.func53, Try.ntmps53
  go_upto_region 1 with ((((((refine oB ?_; (refine sB1 hS rfl rfl ?_)))); clear hS; (((fail_if_success guard_hyp g1); intro g1 w hS)))))
  refine lR ?_
  (refine ⟨?_⟩; (((refine sL2 hS rfl rfl rfl ?_))); refine WL.h ?_)
  (try simp only [Act.put, nA, nB, nC])
  (refine ⟨?_⟩; (refine st_call rfl (by kernel_rfl) rfl ?_; go_at_call 61; refine (check_good ⟨A1, c1, A2, c2, A3, c3⟩ p _ (HP.out.1.ext hS.toExt) HP.out.2.1).mono ?_; rintro e w ⟨rfl, hx1⟩; replace hS := hS.ext hx1; clear hx1); refine WL.h ?_)
  (try simp only [Act.put, nA, nB, nC])
  refine lP rfl ?_
  (try simp only [Act.put, nA, nB, nC])
  refine lM rfl rfl ?_
  (try simp only [Act.put, nA, nB, nC])
  first | refine lQ rfl ?_ | refine lM rfl rfl ?_ | fail
  (try simp only [Act.put, nA, nB, nC])
  first | refine lQ rfl ?_ | refine lP rfl ?_ | fail
  (try simp only [Act.put, nA, nB, nC])
  refine lP rfl ?_
  (try simp only [Act.put, nA, nB, nC])
  refine lM rfl rfl ?_
  (try simp only [Act.put, nA, nB, nC])
  first | refine lQ rfl ?_ | refine lM rfl rfl ?_ | fail
  (try simp only [Act.put, nA, nB, nC])
  first | refine lQ rfl ?_ | refine lP rfl ?_ | fail
  (try simp only [Act.put, nA, nB, nC])
  ((refine ⟨?_⟩; (((refine sL1 hS rfl rfl rfl ?_))); refine WL.h ?_))
  (try simp only [Act.put, nA, nB, nC])
  first | refine lQ rfl ?_ | refine lP rfl ?_ | fail
  (try simp only [Act.put, nA, nB, nC])
  first | refine lQ rfl ?_ | refine lP rfl ?_ | fail
  (try simp only [Act.put, nA, nB, nC])
  refine lP rfl ?_
  (try simp only [Act.put, nA, nB, nC])
  refine lZ ?_
  clear d0 d1 d1n
  go_wp2_with ((((((refine oC ?_; (refine sC1 hS rfl rfl ?_)))); clear hS; (((fail_if_success guard_hyp g2); intro g2 w hS)))))
  have hb := hS.blkRw (g := g2) (n := 1) (sz := 1) (by rfl) (by omega)
  replace hS : St w0 NoM [row (.slice (some ⟨g2, 0, none⟩) 1 1) 3 1 1 (ints (nats [r])), blk g1 [.slice A1 p.len.length c1, .slice A2 p.ck.length c2, .slice A3 p.arcs.length c3] 44] _ := hb
  clear hb
  go_loopw [7, 8, 10] (fun s7 s8 s10 wr => ∃ (i c7 m : Nat) (L : Option Addr) (l : List Nat), i ≤ m ∧ m ≤ 5 ∧ s8 = .int .i64 i ∧ s7 = .slice L m c7 ∧ Hid (Bfs p.len.length (undL p) r l i 0 ∧ l.length = m) ∧ St w0 NoM [row (.slice L m c7) 3 1 m (ints (nats l)), blk g1 [.slice A1 p.len.length c1, .slice A2 p.ck.length c2, .slice A3 p.arcs.length c3] 44] wr) (fun _ s8 _ _ => 5 - (intOf s8).toNat)
  case atStart => exact ⟨0, 1, 1, some ⟨g2, 0, none⟩, [r], by omega, by omega, rfl, rfl, Lib.hid ⟨Bfs.start hr, rfl⟩, hS⟩
  case round =>
    clear hS
    obtain ⟨i, c7, m, L, l, him, hm5, rfl, rfl, HB, hS⟩ := hrel
    by_cases hlt : i < m
    · have hlt' : (i : Int) < (m : Int) := by omega
      have hil : i < l.length := by rw [HB.out.2]; exact hlt
      obtain ⟨gL, rfl⟩ := hS.rowSome L (by omega)
      have hx0 := List.getElem?_eq_getElem hil
      have HX := Lib.hid hx0
      have hgx : (ints (nats l))[i]? = some (.int .i64 ((l[i] : Nat) : Int)) := by simp [ints, nats, hil]
      have hxn : l[i] < p.len.length := HB.out.1.lt _ (List.getElem_mem hil)
      clear hx0
      generalize l[i] = x at *
      have hfl := undL_len p x
      have HFL := Lib.hid (show (undL p x).length ≤ 5 by omega)
      go_wp2_with (first | (go_at_call 56; refine (lead2_any A1 c1 A2 c2 A3 c3 p x g _ (HP.out.1.ext hS.toExt) HP.out.2.1 hxn (fun i u hi => hS.oldCell (HP.out.2.2 i u hi) id)).mono ?_; rintro e w ⟨L5, c5, rfl, ho, hx⟩; replace hS := hS.addRow ho hx; clear ho hx) | (refine oL ?_; ((refine sL5 hS rfl rfl ?_))))
      clear hgx
      generalize hfx : (undL p x).length = k at *
      have HFX := Lib.hid hfx
      clear hfx hfl
      have hk5 := HFL.out
      go_loopw [7, 10, 40] (fun s7 s10 s40 wr => ∃ (j c7 m : Nat) (L : Option Addr) (l : List Nat), j ≤ k ∧ i < m ∧ m ≤ 5 ∧ s40 = .int .i64 j ∧ s7 = .slice L m c7 ∧ Hid (Bfs p.len.length (undL p) r l i j ∧ l.length = m ∧ l[i]? = some x) ∧ St w0 NoM [row (.slice L m c7) 3 1 m (ints (nats l)), row (.slice L5 k c5) 3 1 k (ints (nats (undL p x))), blk g1 [.slice A1 p.len.length c1, .slice A2 p.ck.length c2, .slice A3 p.arcs.length c3] 44] wr) (fun _ _ s40 _ => k - (intOf s40).toNat)
      case atStart => exact ⟨0, c7, m, _, l, by omega, by omega, by omega, rfl, rfl, Lib.hid ⟨HB.out.1, HB.out.2, HX.out⟩, hS.re⟩
      case round =>
        clear hS HB HX hlt' hil hlt
        obtain ⟨j, c7, m, L, l, hj, him, hm5, rfl, rfl, HB, hS⟩ := hrel
        by_cases hjk : j < k
        · have hjk' : (j : Int) < (k : Int) := by omega
          have hjl : j < (undL p x).length := by rw [HFX.out]; exact hjk
          obtain ⟨gF, rfl⟩ := hS.rowSome L5 (by omega)
          have hgy : (ints (nats (undL p x)))[j]? = some (.int .i64 (((undL p x)[j] : Nat) : Int)) := by simp [ints, nats, hjl]
          have HY := Lib.hid (HB.out.1.add HB.out.2.2 (List.getElem?_eq_getElem hjl) HLT.out)
          have hyn : (undL p x)[j] < p.len.length := HLT.out x _ (List.getElem_mem hjl)
          have hnl : (nats l).length = m := by rw [List.length_map]; exact HB.out.2.1
          have HXI := Lib.hid HB.out.2.2
          generalize (undL p x)[j] = y at *
          have HMM := Lib.hid (show decide ((y : Int) ∈ nats l) = decide (y ∈ l) by
            congr 1
            rw [nats_mem, eq_iff_iff]
            constructor
            · rintro ⟨k, hk, e⟩; rw [← (show k = y by omega)]; exact hk
            · intro h; exact ⟨y, h, rfl⟩)
          have HML := Lib.hid HY.out.len
          by_cases hin : y ∈ l
          · have hdt : decide (y ∈ l) = true := decide_eq_true hin
            rw [hdt] at HMM
            have HA := Lib.hid (show addN l y = l by unfold addN; rw [if_pos hin])
            rw [HA.out] at HY
            clear hin hdt
            go_wp2_with (first | (go_at_call 57; refine (containsC (S := All) L c7 m (nats l) (y : Int) _ hS.rv hnl (by omega)).mono ?_; rintro e w ⟨rfl, rfl⟩; rw [HMM.out]) | (refine oL ?_; ((refine sL5 hS rfl rfl ?_))))
            go_roundw
            case measure => simp [intOf]; try omega
            exact ⟨j + 1, c7, m, L, l, by omega, by omega, by omega, by go_num, rfl, Lib.hid ⟨HY.out, HB.out.2⟩, hS⟩
          · have hdt : decide (y ∈ l) = false := decide_eq_false hin
            rw [hdt] at HMM
            have HA := Lib.hid (show addN l y = l ++ [y] by unfold addN; rw [if_neg hin])
            rw [HA.out] at HY HML
            have hm4 : m + 1 ≤ 5 := by have := HML.out; rw [List.length_append] at this; have := HB.out.2.1; simp at *; omega
            clear hin hdt
            go_wp2_with (first | (go_at_call 57; refine (containsC (S := All) L c7 m (nats l) (y : Int) _ hS.rv hnl (by omega)).mono ?_; rintro e w ⟨rfl, rfl⟩; rw [HMM.out]) | (refine oL ?_; ((refine sL5 hS rfl rfl ?_))) | (refine oP ?_; (((refine sP2 hS rfl rfl rfl ?_)); clear hS; (((fail_if_success guard_hyp L1); intro L1 cl1 w hL1 hM1 hS)))) | ((((refine oC ?_; (refine sC1 hS rfl rfl ?_)))); clear hS; (((fail_if_success guard_hyp g3); intro g3 w hS))))
            go_roundw
            case measure => simp [intOf]; try omega
            have e : ints (nats (l ++ [y])) = ints (nats l) ++ [.int .i64 (y : Int)] := by simp [ints, nats]
            refine ⟨j + 1, cl1, m + 1, L1, l ++ [y], by omega, by omega, by omega, by go_num, rfl, Lib.hid ⟨HY.out, by rw [List.length_append, HB.out.2.1]; rfl, ?_⟩, by rw [e]; exact hS.re⟩
            have h3 := HXI.out
            rw [List.getElem?_append_left (List.getElem?_eq_some_iff.1 h3).1]
            exact h3
        · have hjk' : ¬ (j : Int) < (k : Int) := by omega
          have HNX := Lib.hid (HB.out.1.next HB.out.2.2 (by rw [HFX.out]; omega))
          go_wp2_with (fail)
          go_roundw
          case measure => simp [intOf]; try omega
          exact ⟨i + 1, c7, m, L, l, by omega, by omega, by go_num, rfl, Lib.hid ⟨HNX.out, HB.out.2.1⟩, hS.re⟩
    · have hlt' : ¬ (i : Int) < (m : Int) := by omega
      obtain ⟨res, hres, hsort⟩ := HB.out.1.res (by rw [HB.out.2]; omega)
      have HR := Lib.hid (And.intro hres hsort)
      have hnl : (nats l).length = m := by rw [List.length_map]; exact HB.out.2
      have HRL := Lib.hid (show res.length = m by
        have := congrArg List.length hsort
        rw [sortI_length, List.length_map, List.length_map] at this
        rw [← this]; exact HB.out.2)
      clear hres hsort
      go_wp2_with (((go_at_call 43; refine (sortC L c7 m (nats l) _ hS.rowOk hnl (by omega)).mono ?_; rintro e w ⟨rfl, ho1, hk1⟩; replace hS := hS.rowTurn ho1 hk1; clear ho1 hk1; rw [HR.out.2] at hS)))
      go_ret
      refine ⟨res, HR.out.1, ?_⟩
      rw [HRL.out]
      exact hS.ret rfl
set_option maxRecDepth 100000 in
set_option maxHeartbeats 1600000 in
theorem least_any {S : Nat → Prop} (v : PV) (p : Pat) (r : Nat) (w0 : World) (hp : PatAt S w0 v p) (hg : Good p) (hr : r < p.len.length) :
    Calls Try.prog 23 #[v.val p, .int .i64 (r : Int)] w0 (fun e w' => ∃ m, IsRch (srcL p) r m ∧ RetRow w0 3 1 m.length (ints (nats m)) e w') := by
  have hS := St.start w0 NoM
  obtain ⟨A1, c1, A2, c2, A3, c3⟩ := v
  have HP := Lib.hid (And.intro hp hg)
  clear hp hg
  simp only [PV.val]
  have hmf : ∀ (fn : Fn) (first cap : Array Value) (w : World), (Instr.makeFunc fn first cap).run Try.prog w = .ok (.func fn first cap) w := fun _ _ _ _ => rfl
  go_enter Try.func23, Try.ntmps23
  go_wp2_with (first | (go_at_call 53; refine (reach1_any A1 c1 A2 c2 A3 c3 p r g1 _ (HP.out.1.ext hS.toExt) HP.out.2 hr (fun i u hi => by rw [Nat.zero_add]; exact hS.cellB (g := g1) hi)).mono ?_; rintro e w ⟨m, hm, L5, c5, rfl, ho, hx⟩; replace hS := hS.addRow ho hx; clear ho hx; have HM := Lib.hid hm; clear hm) | (refine oL ?_; ((refine sL2 hS rfl rfl rfl ?_))) | ((((refine oB ?_; (refine sB1 hS rfl rfl ?_)))); clear hS; (((fail_if_success guard_hyp g1); intro g1 w hS))))
  go_ret
  exact ⟨m, HM.out, hS.ret rfl⟩
set_option maxRecDepth 100000 in
set_option maxHeartbeats 1600000 in
theorem undo_any {S : Nat → Prop} (v : PV) (p : Pat) (r : Nat) (w0 : World) (hp : PatAt S w0 v p) (hg : Good p) (hr : r < p.len.length) :
    Calls Try.prog 26 #[v.val p, .int .i64 (r : Int)] w0 (fun e w' => ∃ m, IsRch (undL p) r m ∧ RetRow w0 3 1 m.length (ints (nats m)) e w') := by
  have hS := St.start w0 NoM
  obtain ⟨A1, c1, A2, c2, A3, c3⟩ := v
  have HP := Lib.hid (And.intro hp hg)
  clear hp hg
  simp only [PV.val]
  have hmf : ∀ (fn : Fn) (first cap : Array Value) (w : World), (Instr.makeFunc fn first cap).run Try.prog w = .ok (.func fn first cap) w := fun _ _ _ _ => rfl
  go_enter Try.func26, Try.ntmps26
  go_wp2_with (first | (go_at_call 53; refine (reach2_any A1 c1 A2 c2 A3 c3 p r g1 _ (HP.out.1.ext hS.toExt) HP.out.2 hr (fun i u hi => by rw [Nat.zero_add]; exact hS.cellB (g := g1) hi)).mono ?_; rintro e w ⟨m, hm, L5, c5, rfl, ho, hx⟩; replace hS := hS.addRow ho hx; clear ho hx; have HM := Lib.hid hm; clear hm) | (refine oL ?_; ((refine sL2 hS rfl rfl rfl ?_))) | ((((refine oB ?_; (refine sB1 hS rfl rfl ?_)))); clear hS; (((fail_if_success guard_hyp g1); intro g1 w hS))))
  go_ret
  exact ⟨m, HM.out, hS.ret rfl⟩
end Go.Proofs.Ytmjmdncdmmcmaaa
