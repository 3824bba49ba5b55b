/- rollbacknetref17.Clocks: the clocks of all points. Conditions: the pattern is good and lies in memory. -/
import Derived.Test.YtkflmichekpfbaaFam
import Derived.Test.YtkflmichekpfbaaTop17
import Derived.Test.YtkflmichekpfbaaOrdR
import Derived.Test.YtkflmichekpfbaaOrdAt
namespace Go.Proofs.Ytkflmichekpfbaa
open Go.RowKit
set_option linter.unusedVariables false
set_option linter.unusedSimpArgs false
set_option linter.unusedSectionVars false

/-- the slice of the clock of point k of process q -/
def ClkV (p : Pat) (T : Nat → Prop) (u : World) (q k : Nat) (v : Value) : Prop := ∃ (L : Option Addr) (cap : Nat) (c : List Int), v = .slice L p.len.length cap ∧ IsClk p q (k : Int) c ∧ RI T u L c
theorem ClkV.into {p : Pat} {T T' : Nat → Prop} {u u' : World} {q k : Nat} {v : Value} (h : ClkV p T u q k v) (hi : Into T T' u u') : ClkV p T' u' q k v := by
  obtain ⟨L, cap, c, h1, h2, h3⟩ := h
  exact ⟨L, cap, c, h1, h2, h3.into hi⟩
/-- the clocks of process q, m of them -/
structure RowC (p : Pat) (T : Nat → Prop) (u : World) (q m : Nat) (r : RowD) : Prop where
  f : ∃ L c, r.1 = .slice L r.2.length c
  n : r.2.length = m
  k : ∀ j (h : j < r.2.length), ClkV p T u q j r.2[j]
theorem RowC.into {p : Pat} {T T' : Nat → Prop} {u u' : World} {q m : Nat} {r : RowD} (h : RowC p T u q m r) (hi : Into T T' u u') : RowC p T' u' q m r := ⟨h.f, h.n, fun j hj => (h.k j hj).into hi⟩
/-- the clocks of the events of a cut, a row for each process -/
structure FamC (p : Pat) (T : Nat → Prop) (u : World) (x : List Int) (rs : List RowD) : Prop where
  n : rs.length = p.len.length
  r : ∀ q (h : q < rs.length), RowC p T u q (nth x q + 1).toNat rs[q]
theorem FamC.into {p : Pat} {T T' : Nat → Prop} {u u' : World} {x : List Int} {rs : List RowD} (h : FamC p T u x rs) (hi : Into T T' u u') : FamC p T' u' x rs := ⟨h.n, fun q hq => (h.r q hq).into hi⟩
theorem FamC.put {p : Pat} {T : Nat → Prop} {u : World} {x : List Int} {rs : List RowD} {q : Nat} {r : RowD} (h : FamC p T u x rs) (hx : x.length = p.len.length) (hq : q < p.len.length) (hr : RowC p T u q (nth x q + 2).toNat r) : FamC p T u (goOn x q) (rs.set q r) := by
  refine ⟨by rw [List.length_set, h.n], fun i hi => ?_⟩
  rw [goOn_nth (by rw [hx]; exact hq), List.getElem_set]
  by_cases e : q = i
  · subst e
    rw [if_pos rfl, if_pos rfl, show nth x q + 1 + 1 = nth x q + 2 by omega]
    exact hr
  · rw [if_neg e, if_neg e]
    exact h.r i (by simpa using hi)
/-- one row becomes data, beside the data -/
theorem St.freezeI {w0 w u : World} {M T : Nat → Prop} {cs : List (Chunk w0 M)} {f : Chunk w0 M → List (Chunk w0 M)} {L : Option Addr} {n c : Nat} {e : TypeId} {xs : List Int} (h : St w0 M (row (.slice L n c) e 1 n (ints xs) :: cs) w) [hp : PickF cs T u f] :
    ∃ T' : Nat → Prop, St w0 M (f (froz T' w)) w ∧ Into T T' u w ∧ RI T' w L xs := by
  have hi : Into T T u w := h.frozInto (hp := (inferInstance : PickF (row (.slice L n c) e 1 n (ints xs) :: cs) T u (fun d => row (.slice L n c) e 1 n (ints xs) :: f d)))
  have ho : RI (fun b => (Value.slice L n c).ownBlock = some b) w L xs := h.rvOwn (e := e) (n := n) (f := fun d => d :: cs)
  exact ⟨_, h.freeze, hi.widen (fun k hk => .inr hk), ho.sub (fun k hk => .inl hk)⟩
theorem map_fst_at {rs : List RowD} {q : Nat} {v : Value} {us : List Value} (h : rs[q]? = some (v, us)) : (rs.map Prod.fst)[q]? = some v := by rw [List.getElem?_map, h]; rfl
theorem set_set_back {rs : List RowD} {q i : Nat} {r s : RowD} (hne : i ≠ q) (h : rs[i]? = some s) : ((rs.set q r).set i nilR).set i s = rs.set q r := by
  rw [List.set_set]
  apply List.ext_getElem? 
  intro j
  obtain ⟨hi, he⟩ := List.getElem?_eq_some_iff.1 h
  by_cases e : i = j
  · subst e
    rw [List.getElem?_set_self (by simpa using hi), List.getElem?_set_ne (Ne.symm hne), h]
  · rw [List.getElem?_set_ne e]
/-- what Clocks returns: for each process the slice of its clocks -/
def ClocksRes (p : Pat) (w0 : World) (e : Ending) (w' : World) : Prop := ∃ (L : Option Addr) (c : Nat) (rs : List RowD), e = .returned (.slice L p.len.length c) ∧ Ext w0 w' ∧ RV (fun b => w0.heap.size ≤ b) w' L (rs.map Prod.fst) ∧ FamC p (fun b => w0.heap.size ≤ b) w' p.len rs ∧ ∀ q (h : q < rs.length), ∃ A c, rs[q].1 = .slice A rs[q].2.length c ∧ RV (fun b => w0.heap.size ≤ b) w' A rs[q].2
set_option maxRecDepth 100000 in
set_option maxHeartbeats 6400000 in
theorem clocks_any {S : Nat → Prop} (v : PV) (p : Pat) (w0 : World) (hp : PatAt S w0 v p) (hg : Good p) :
    Calls Try.prog 65 #[v.val p] w0 (ClocksRes p w0) := by
  have hS := St.start w0 NoM
  have hn5 := hg.n5
  have hn2 := hg.n2
  have hfew := hg.few
  have HP := Lib.hid (And.intro hp hg)
  clear hp hg
  obtain ⟨A1, c1, A2, c2, A3, c3⟩ := v
  simp only [PV.val] at *
  go_enter Try.func65, Try.ntmps65
  go_wp2_with (first | (refine oL ?_; (first | refine sL1 hS rfl rfl rfl ?_ | refine sL2 hS rfl rfl rfl ?_ | refine sL3 hS rfl rfl ?_ | refine sL4 hS rfl rfl ?_ | refine sL5 hS rfl rfl ?_ | refine sL6 hS rfl rfl ?_ | refine sL7 hS rfl rfl ?_)) | (refine oS ?_; ((first | refine sS1 hS rfl rfl rfl ?_ | refine sS2 hS rfl rfl rfl ?_ | refine sS3 hS rfl rfl rfl ?_ | refine sS4 hS rfl rfl rfl ?_ | refine sS5 hS rfl rfl rfl ?_); clear hS; intro w hS)) | (refine oP ?_; ((first | refine sP1 hS rfl rfl rfl ?_ | refine sP2 hS rfl rfl rfl ?_ | refine sP3 hS rfl rfl rfl ?_); clear hS; first | ((fail_if_success guard_hyp L1); intro L1 cl1 w hL1 hM1 hS) | ((fail_if_success guard_hyp L2); intro L2 cl2 w hL2 hM2 hS) | ((fail_if_success guard_hyp L3); intro L3 cl3 w hL3 hM3 hS) | ((fail_if_success guard_hyp L4); intro L4 cl4 w hL4 hM4 hS) | fail)) | ((first | (refine oB ?_; first | refine sB1 hS rfl rfl ?_ | refine sB2 hS rfl rfl ?_) | (refine oC ?_; first | refine sC0 hS rfl ?_ | refine sC1 hS rfl rfl ?_ | refine sC2 hS rfl rfl ?_ | refine sC3 hS rfl rfl rfl ?_ | refine sC4 hS rfl rfl rfl ?_) | refine sM1 hS rfl rfl rfl ?_); clear hS; first | ((fail_if_success guard_hyp g1); intro g1 w hS) | ((fail_if_success guard_hyp g2); intro g2 w hS) | ((fail_if_success guard_hyp g3); intro g3 w hS) | ((fail_if_success guard_hyp g4); intro g4 w hS) | ((fail_if_success guard_hyp g5); intro g5 w hS) | ((fail_if_success guard_hyp g6); intro g6 w hS) | fail) | fail)
  replace hS := hS.frozNil
  go_loopw [4, 5] (fun s4 s5 wr => ∃ (q : Nat) (Lo : Option Addr) (co : Nat) (rs : List RowD) (T : Nat → Prop) (u : World), q ≤ p.len.length ∧ s5 = .int .i64 q ∧ s4 = .slice Lo q co ∧ Hid (rs.length = q ∧ ∀ i (h : i < rs.length), RowC p T u i 1 rs[i]) ∧ St w0 NoM [row (.slice Lo q co) 25 1 q (rs.map Prod.fst), fam 24 rs, froz T u, blk g1 [.slice A1 p.len.length c1, .slice A2 p.ck.length c2, .slice A3 p.arcs.length c3] 28] wr) (fun _ s5 _ => p.len.length - (intOf s5).toNat)
  case atStart => exact ⟨0, none, 0, [], fun _ => False, w, by omega, rfl, rfl, Lib.hid ⟨rfl, fun i h => absurd h (by simp)⟩, St.addNil (St.famNil hS.re _) _ _⟩
  case round =>
    obtain ⟨q, Lo, co, rs, T, u, hq, rfl, rfl, HR, hS⟩ := hrel
    by_cases hlt : q < p.len.length
    · go_wp2_with (first | (refine oL ?_; (first | refine sL1 hS rfl rfl rfl ?_ | refine sL2 hS rfl rfl rfl ?_ | refine sL3 hS rfl rfl ?_ | refine sL4 hS rfl rfl ?_ | refine sL5 hS rfl rfl ?_ | refine sL6 hS rfl rfl ?_ | refine sL7 hS rfl rfl ?_)) | (refine oS ?_; ((first | refine sS1 hS rfl rfl rfl ?_ | refine sS2 hS rfl rfl rfl ?_ | refine sS3 hS rfl rfl rfl ?_ | refine sS4 hS rfl rfl rfl ?_ | refine sS5 hS rfl rfl rfl ?_); clear hS; intro w hS)) | (refine oP ?_; ((first | refine sP1 hS rfl rfl rfl ?_ | refine sP2 hS rfl rfl rfl ?_ | refine sP3 hS rfl rfl rfl ?_); clear hS; first | ((fail_if_success guard_hyp L1); intro L1 cl1 w hL1 hM1 hS) | ((fail_if_success guard_hyp L2); intro L2 cl2 w hL2 hM2 hS) | ((fail_if_success guard_hyp L3); intro L3 cl3 w hL3 hM3 hS) | ((fail_if_success guard_hyp L4); intro L4 cl4 w hL4 hM4 hS) | fail)) | ((first | (refine oB ?_; first | refine sB1 hS rfl rfl ?_ | refine sB2 hS rfl rfl ?_) | (refine oC ?_; first | refine sC0 hS rfl ?_ | refine sC1 hS rfl rfl ?_ | refine sC2 hS rfl rfl ?_ | refine sC3 hS rfl rfl rfl ?_ | refine sC4 hS rfl rfl rfl ?_) | refine sM1 hS rfl rfl rfl ?_); clear hS; first | ((fail_if_success guard_hyp g1); intro g1 w hS) | ((fail_if_success guard_hyp g2); intro g2 w hS) | ((fail_if_success guard_hyp g3); intro g3 w hS) | ((fail_if_success guard_hyp g4); intro g4 w hS) | ((fail_if_success guard_hyp g5); intro g5 w hS) | ((fail_if_success guard_hyp g6); intro g6 w hS) | fail) | fail)
      replace hS := hS.blkRow (g := g3) (n := 1) (sz := 1) rfl (by decide)
      replace hS : St w0 NoM [row (.slice (some ⟨g3, 0, none⟩) 1 1) 24 1 1 [.slice (some ⟨g2, 0, none⟩) p.len.length p.len.length], fam 24 rs, row (.slice (some ⟨g2, 0, none⟩) p.len.length p.len.length) 3 1 p.len.length (ints (List.replicate p.len.length 0)), row (.slice L1 (q + 1) cl1) 25 1 (q + 1) (rs.map Prod.fst ++ [.slice (some ⟨g3, 0, none⟩) 1 1]), froz T u, blk g1 [.slice A1 p.len.length c1, .slice A2 p.ck.length c2, .slice A3 p.arcs.length c3] 28] w := hS.re
      replace hS := St.famSnoc (vs := [.slice (some ⟨g2, 0, none⟩) p.len.length p.len.length]) hS
      replace hS : St w0 NoM [row (.slice (some ⟨g2, 0, none⟩) p.len.length p.len.length) 3 1 p.len.length (ints (List.replicate p.len.length 0)), fam 24 (rs ++ [(.slice (some ⟨g3, 0, none⟩) 1 1, [.slice (some ⟨g2, 0, none⟩) p.len.length p.len.length])]), row (.slice L1 (q + 1) cl1) 25 1 (q + 1) (rs.map Prod.fst ++ [.slice (some ⟨g3, 0, none⟩) 1 1]), froz T u, blk g1 [.slice A1 p.len.length c1, .slice A2 p.ck.length c2, .slice A3 p.arcs.length c3] 28] w := hS.re
      obtain ⟨T1, hS1, hi1, hri1⟩ := hS.freezeI
      go_roundw
      case measure => simp [intOf]; omega
      refine ⟨q + 1, L1, cl1, rs ++ [(.slice (some ⟨g3, 0, none⟩) 1 1, [.slice (some ⟨g2, 0, none⟩) p.len.length p.len.length])], T1, w, by omega, by go_num, rfl, Lib.hid ⟨by simp [HR.out.1], fun i hi => ?_⟩, ?_⟩
      · rw [List.getElem_append]
        split
        · exact (HR.out.2 i _).into hi1
        · have hie : i = q := by simp [HR.out.1] at hi; have := HR.out.1; omega
          subst hie
          simp only [HR.out.1, Nat.sub_self, List.getElem_cons_zero]
          exact ⟨⟨_, _, rfl⟩, rfl, fun j hj => by
            have : j = 0 := by simpa using hj
            subst this
            exact ⟨_, _, _, rfl, clk_zero HP.out.2 hlt, hri1⟩⟩
      · rw [List.map_append, List.map_cons, List.map_nil]
        exact hS1.re
    · have hqe : q = p.len.length := by omega
      subst hqe
      have HF := Lib.hid (show FamC p T u (List.replicate p.len.length 0) rs from ⟨HR.out.1, fun q hq => by rw [nth_rep]; exact HR.out.2 q hq⟩)
      clear HR
      go_wp2_with (first | (go_at_call 44; refine (rorder_any ⟨A1, c1, A2, c2, A3, c3⟩ p _ (HP.out.1.ext hS.toExt) HP.out.2).mono ?_; rintro e w ⟨nn, l, hos, hnq, hl320, Lp, cp, rfl, ho, hx1⟩; replace hS := hS.addRow ho hx1; clear ho; have HO := Lib.hid (And.intro hos hnq); clear hos hnq) | (refine oL ?_; (first | refine sL1 hS rfl rfl rfl ?_ | refine sL2 hS rfl rfl rfl ?_ | refine sL3 hS rfl rfl ?_ | refine sL4 hS rfl rfl ?_ | refine sL5 hS rfl rfl ?_ | refine sL6 hS rfl rfl ?_ | refine sL7 hS rfl rfl ?_)) | (refine oS ?_; ((first | refine sS1 hS rfl rfl rfl ?_ | refine sS2 hS rfl rfl rfl ?_ | refine sS3 hS rfl rfl rfl ?_ | refine sS4 hS rfl rfl rfl ?_ | refine sS5 hS rfl rfl rfl ?_); clear hS; intro w hS)) | (refine oP ?_; ((first | refine sP1 hS rfl rfl rfl ?_ | refine sP2 hS rfl rfl rfl ?_ | refine sP3 hS rfl rfl rfl ?_); clear hS; first | ((fail_if_success guard_hyp L1); intro L1 cl1 w hL1 hM1 hS) | ((fail_if_success guard_hyp L2); intro L2 cl2 w hL2 hM2 hS) | ((fail_if_success guard_hyp L3); intro L3 cl3 w hL3 hM3 hS) | ((fail_if_success guard_hyp L4); intro L4 cl4 w hL4 hM4 hS) | fail)) | ((first | (refine oB ?_; first | refine sB1 hS rfl rfl ?_ | refine sB2 hS rfl rfl ?_) | (refine oC ?_; first | refine sC0 hS rfl ?_ | refine sC1 hS rfl rfl ?_ | refine sC2 hS rfl rfl ?_ | refine sC3 hS rfl rfl rfl ?_ | refine sC4 hS rfl rfl rfl ?_) | refine sM1 hS rfl rfl rfl ?_); clear hS; first | ((fail_if_success guard_hyp g1); intro g1 w hS) | ((fail_if_success guard_hyp g2); intro g2 w hS) | ((fail_if_success guard_hyp g3); intro g3 w hS) | ((fail_if_success guard_hyp g4); intro g4 w hS) | ((fail_if_success guard_hyp g5); intro g5 w hS) | ((fail_if_success guard_hyp g6); intro g6 w hS) | fail) | fail)
      go_loopw [7] (fun s7 wr => ∃ (i : Nat) (x : List Int) (rs : List RowD) (T : Nat → Prop) (u : World), i ≤ l.length ∧ s7 = .int .i64 i ∧ Hid ((ordSt p i).2 = x ∧ FamC p T u x rs) ∧ St w0 NoM [row (.slice Lp l.length cp) 37 2 l.length (l.flatMap ptCells), row (.slice Lo p.len.length co) 25 1 p.len.length (rs.map Prod.fst), fam 24 rs, froz T u, blk g1 [.slice A1 p.len.length c1, .slice A2 p.ck.length c2, .slice A3 p.arcs.length c3] 28] wr) (fun s7 _ => l.length - (intOf s7).toNat)
      case atStart => exact ⟨0, List.replicate p.len.length 0, rs, T, u, by omega, rfl, Lib.hid ⟨rfl, HF.out⟩, hS.re⟩
      case round =>
        clear HF
        obtain ⟨i, x, rs, T, u, hi, rfl, HX, hS⟩ := hrel
        have HV := Lib.hid (show validB p.len x = true by rw [← HX.out.1]; exact ordSt_valid HP.out.2 i)
        have HXL := Lib.hid (valid_iff.1 HV.out).1
        by_cases hlt : i < l.length
        · obtain ⟨gp, rfl⟩ := hS.rowSome Lp (by omega)
          obtain ⟨go, rfl⟩ := hS.rowSome Lo (by omega)
          have HPT := Lib.hid (pt_at' hlt)
          obtain ⟨q, hnq, hat⟩ := ord_at nn i (by rw [HO.out.1]; exact hlt)
          rw [HO.out.1, HX.out.1] at hat
          rw [HX.out.1] at hnq
          simp only [List.getElem?_eq_getElem hlt, Option.some.injEq] at hat
          rw [hat] at HPT
          simp only at HPT
          obtain ⟨hq, hcan, _⟩ := nextQ_some hnq
          have HST := Lib.hid (show (ordSt p (i + 1)).2 = goOn x q by rw [ordSt_some (q := q) (by rw [HX.out.1]; exact hnq), HX.out.1])
          have HC := Lib.hid hcan
          have hxb := (valid_iff.1 HV.out).2 q hq
          have hlq := canB_lt hcan
          have hhi := HP.out.2.hi q hq
          have hq' : (q : Int) < p.len.length := by omega
          have hp0 := HPT.out 0 _ rfl
          have hp1 := HPT.out 1 _ rfl
          simp only [Nat.add_zero] at hp0
          obtain ⟨xq, hxq⟩ : ∃ xq : Nat, nth x q = xq := ⟨(nth x q).toNat, by omega⟩
          rw [hxq] at hp1 hxb hlq
          have hqrs : q < rs.length := by rw [HX.out.2.n]; exact hq
          obtain ⟨⟨vq, usq⟩, hrq⟩ : ∃ r, rs[q] = r := ⟨_, rfl⟩
          have HRQ := Lib.hid (show RowC p T u q (xq + 1) (vq, usq) by have := HX.out.2.r q hqrs; rw [hrq, hxq, show ((xq : Int) + 1).toNat = xq + 1 by omega] at this; exact this)
          have hrq? : rs[q]? = some (vq, usq) := by rw [List.getElem?_eq_getElem hqrs, hrq]
          obtain ⟨Lq, cq, hvq⟩ := HRQ.out.f
          simp only at hvq
          subst hvq
          have HUN := Lib.hid HRQ.out.n
          simp only at HUN
          have hco := map_fst_at hrq?
          replace hS : St w0 NoM [fam 24 rs, row (.slice (some ⟨gp, 0, none⟩) l.length cp) 37 2 l.length (l.flatMap ptCells), row (.slice (some ⟨go, 0, none⟩) p.len.length co) 25 1 p.len.length (rs.map Prod.fst), froz T u, blk g1 [.slice A1 p.len.length c1, .slice A2 p.ck.length c2, .slice A3 p.arcs.length c3] 28] wr := hS.re
          replace hS := hS.famTake hrq?
          obtain ⟨gq, rfl⟩ := hS.rowSome Lq (by rw [HUN.out]; omega)
          obtain ⟨Lc, capc, cc, hcv, hclk, hric⟩ := HRQ.out.k xq (by simp only; rw [HUN.out]; omega)
          simp only at hcv
          have hcu : usq[xq]? = some (.slice Lc p.len.length capc) := by rw [List.getElem?_eq_getElem (by rw [HUN.out]; omega), hcv]
          have HCK := Lib.hid (show IsClk p q ((xq : Int) + 1 - 1) cc by rw [show (xq : Int) + 1 - 1 = xq by omega]; exact hclk)
          have HCL := Lib.hid hclk.len
          have hxu : (xq : Int) < usq.length := by have := HUN.out; omega
          have hub : usq.length ≤ 100 := by have := HUN.out; omega
          have hqm : q < (rs.map Prod.fst).length := by rw [List.length_map]; exact hqrs
          have hk1 : (1 : Int) ≤ (xq : Int) + 1 := by omega
          have hkl : (xq : Int) + 1 ≤ nth p.len q := by omega
          clear hclk hcv hat hnq hcan
          go_wp2_with (first | (refine oL ?_; (first | refine sL1 hS rfl rfl rfl ?_ | refine sL2 hS rfl rfl rfl ?_ | refine sL3 hS rfl rfl ?_ | refine sL4 hS rfl rfl ?_ | refine sL5 hS rfl rfl ?_ | refine sL6 hS rfl rfl ?_ | refine sL7 hS rfl rfl ?_)) | (refine oS ?_; ((first | refine sS1 hS rfl rfl rfl ?_ | refine sS2 hS rfl rfl rfl ?_ | refine sS3 hS rfl rfl rfl ?_ | refine sS4 hS rfl rfl rfl ?_ | refine sS5 hS rfl rfl rfl ?_); clear hS; intro w hS)) | (refine oP ?_; ((first | refine sP1 hS rfl rfl rfl ?_ | refine sP2 hS rfl rfl rfl ?_ | refine sP3 hS rfl rfl rfl ?_); clear hS; first | ((fail_if_success guard_hyp L1); intro L1 cl1 w hL1 hM1 hS) | ((fail_if_success guard_hyp L2); intro L2 cl2 w hL2 hM2 hS) | ((fail_if_success guard_hyp L3); intro L3 cl3 w hL3 hM3 hS) | ((fail_if_success guard_hyp L4); intro L4 cl4 w hL4 hM4 hS) | fail)) | ((first | (refine oB ?_; first | refine sB1 hS rfl rfl ?_ | refine sB2 hS rfl rfl ?_) | (refine oC ?_; first | refine sC0 hS rfl ?_ | refine sC1 hS rfl rfl ?_ | refine sC2 hS rfl rfl ?_ | refine sC3 hS rfl rfl rfl ?_ | refine sC4 hS rfl rfl rfl ?_) | refine sM1 hS rfl rfl rfl ?_); clear hS; first | ((fail_if_success guard_hyp g1); intro g1 w hS) | ((fail_if_success guard_hyp g2); intro g2 w hS) | ((fail_if_success guard_hyp g3); intro g3 w hS) | ((fail_if_success guard_hyp g4); intro g4 w hS) | ((fail_if_success guard_hyp g5); intro g5 w hS) | ((fail_if_success guard_hyp g6); intro g6 w hS) | fail) | fail)
          refine dr_start0 []  hS (by kernel_rfl) rfl ?_; clear hS; intro w hS
          refine dM hS 0 rfl rfl rfl ?_
          (try simp only [Act.put, nA, nB, nC])
          refine dM hS 1 rfl rfl rfl ?_
          (try simp only [Act.put, nA, nB, nC])
          refine dP hS 2 rfl rfl ?_
          (try simp only [Act.put, nA, nB, nC])
          refine dP hS 3 rfl rfl ?_
          (try simp only [Act.put, nA, nB, nC])
          first | refine dL1 hS 4 rfl rfl rfl rfl ?_ | refine dL2 hS 4 rfl rfl rfl rfl ?_ | refine dL3 hS 4 rfl rfl rfl ?_ | refine dL4 hS 4 rfl rfl rfl ?_ | refine dL5 hS 4 rfl rfl rfl ?_ | refine dL6 hS 4 rfl rfl rfl ?_ | refine dL7 hS 4 rfl rfl rfl ?_
          (try simp only [Act.put, nA, nB, nC])
          refine dM hS 5 rfl rfl rfl ?_
          (try simp only [Act.put, nA, nB, nC])
          refine dM hS 6 rfl rfl rfl ?_
          (try simp only [Act.put, nA, nB, nC])
          refine dP hS 7 rfl rfl ?_
          (try simp only [Act.put, nA, nB, nC])
          refine dP hS 8 rfl rfl ?_
          (try simp only [Act.put, nA, nB, nC])
          first | refine dL1 hS 9 rfl rfl rfl rfl ?_ | refine dL2 hS 9 rfl rfl rfl rfl ?_ | refine dL3 hS 9 rfl rfl rfl ?_ | refine dL4 hS 9 rfl rfl rfl ?_ | refine dL5 hS 9 rfl rfl rfl ?_ | refine dL6 hS 9 rfl rfl rfl ?_ | refine dL7 hS 9 rfl rfl rfl ?_
          (try simp only [Act.put, nA, nB, nC])
          refine dA hS 10 rfl rfl rfl ?_
          (try simp only [Act.put, nA, nB, nC])
          refine dA hS 11 rfl rfl rfl ?_
          (try simp only [Act.put, nA, nB, nC])
          refine dr_done (by kernel_rfl) ?_
          go_wp2_with (first | (refine st_appON hS rfl rfl rfl (hric.into hS.frozInto) HCL.out (by omega) ?_; clear hS; intro L2 cl2 w hL2 hM2 hS) | (refine oL ?_; (first | refine sL1 hS rfl rfl rfl ?_ | refine sL2 hS rfl rfl rfl ?_ | refine sL3 hS rfl rfl ?_ | refine sL4 hS rfl rfl ?_ | refine sL5 hS rfl rfl ?_ | refine sL6 hS rfl rfl ?_ | refine sL7 hS rfl rfl ?_)) | (refine oS ?_; ((first | refine sS1 hS rfl rfl rfl ?_ | refine sS2 hS rfl rfl rfl ?_ | refine sS3 hS rfl rfl rfl ?_ | refine sS4 hS rfl rfl rfl ?_ | refine sS5 hS rfl rfl rfl ?_); clear hS; intro w hS)) | (refine oP ?_; ((first | refine sP1 hS rfl rfl rfl ?_ | refine sP2 hS rfl rfl rfl ?_ | refine sP3 hS rfl rfl rfl ?_); clear hS; first | ((fail_if_success guard_hyp L1); intro L1 cl1 w hL1 hM1 hS) | ((fail_if_success guard_hyp L2); intro L2 cl2 w hL2 hM2 hS) | ((fail_if_success guard_hyp L3); intro L3 cl3 w hL3 hM3 hS) | ((fail_if_success guard_hyp L4); intro L4 cl4 w hL4 hM4 hS) | fail)) | ((first | (refine oB ?_; first | refine sB1 hS rfl rfl ?_ | refine sB2 hS rfl rfl ?_) | (refine oC ?_; first | refine sC0 hS rfl ?_ | refine sC1 hS rfl rfl ?_ | refine sC2 hS rfl rfl ?_ | refine sC3 hS rfl rfl rfl ?_ | refine sC4 hS rfl rfl rfl ?_) | refine sM1 hS rfl rfl rfl ?_); clear hS; first | ((fail_if_success guard_hyp g1); intro g1 w hS) | ((fail_if_success guard_hyp g2); intro g2 w hS) | ((fail_if_success guard_hyp g3); intro g3 w hS) | ((fail_if_success guard_hyp g4); intro g4 w hS) | ((fail_if_success guard_hyp g5); intro g5 w hS) | ((fail_if_success guard_hyp g6); intro g6 w hS) | fail) | fail)
          simp only [irow, HCL.out] at hS ⊢
          refine (received_any _ _ _ _ _ _ _ _ p.arcs q ((xq : Int) + 1) _ (HP.out.1.ext hS.toExt).arcs (by omega) (by omega)).mono ?_
          rintro e w ⟨z, hz, rfl, hx1⟩
          replace hS := hS.ext hx1
          obtain ⟨gc, rfl⟩ := hS.rowSome L2 (by omega)
          rcases recv_src HP.out.2 hk1 hz with ⟨rfl, hs⟩ | ⟨i2, hi2, rfl, hs⟩
          · have HSTEP := Lib.hid (clk_step HP.out.2 hq hk1 hkl HCK.out (srcF_none (q := q) hs (by omega)))
            clear hs hz
            have hqc : q < (cc).length := by rw [HCL.out]; exact hq
            go_wp2_with (first | (refine oL ?_; (first | refine sL1 hS rfl rfl rfl ?_ | refine sL2 hS rfl rfl rfl ?_ | refine sL3 hS rfl rfl ?_ | refine sL4 hS rfl rfl ?_ | refine sL5 hS rfl rfl ?_ | refine sL6 hS rfl rfl ?_ | refine sL7 hS rfl rfl ?_)) | (refine oS ?_; ((first | refine sS1 hS rfl rfl rfl ?_ | refine sS2 hS rfl rfl rfl ?_ | refine sS3 hS rfl rfl rfl ?_ | refine sS4 hS rfl rfl rfl ?_ | refine sS5 hS rfl rfl rfl ?_); clear hS; intro w hS)) | (refine oP ?_; ((first | refine sP1 hS rfl rfl rfl ?_ | refine sP2 hS rfl rfl rfl ?_ | refine sP3 hS rfl rfl rfl ?_); clear hS; first | ((fail_if_success guard_hyp L1); intro L1 cl1 w hL1 hM1 hS) | ((fail_if_success guard_hyp L2); intro L2 cl2 w hL2 hM2 hS) | ((fail_if_success guard_hyp L3); intro L3 cl3 w hL3 hM3 hS) | ((fail_if_success guard_hyp L4); intro L4 cl4 w hL4 hM4 hS) | fail)) | ((first | (refine oB ?_; first | refine sB1 hS rfl rfl ?_ | refine sB2 hS rfl rfl ?_) | (refine oC ?_; first | refine sC0 hS rfl ?_ | refine sC1 hS rfl rfl ?_ | refine sC2 hS rfl rfl ?_ | refine sC3 hS rfl rfl rfl ?_ | refine sC4 hS rfl rfl rfl ?_) | refine sM1 hS rfl rfl rfl ?_); clear hS; first | ((fail_if_success guard_hyp g1); intro g1 w hS) | ((fail_if_success guard_hyp g2); intro g2 w hS) | ((fail_if_success guard_hyp g3); intro g3 w hS) | ((fail_if_success guard_hyp g4); intro g4 w hS) | ((fail_if_success guard_hyp g5); intro g5 w hS) | ((fail_if_success guard_hyp g6); intro g6 w hS) | fail) | fail)
            have HLN := Lib.hid (show (usq ++ [(Value.slice (some ⟨gc, 0, none⟩) p.len.length cl2)]).length = usq.length + 1 by simp)
            replace hS : St w0 NoM [row (.slice L1 (usq.length + 1) cl1) 24 1 (usq ++ [(Value.slice (some ⟨gc, 0, none⟩) p.len.length cl2)]).length (usq ++ [(Value.slice (some ⟨gc, 0, none⟩) p.len.length cl2)]), fam 24 (rs.set q nilR), row (.slice (some ⟨gc, 0, none⟩) p.len.length cl2) 3 1 p.len.length (ints ((cc).set q ((xq : Int) + 1))), row (.slice (some ⟨gp, 0, none⟩) l.length cp) 37 2 l.length (l.flatMap ptCells), row (.slice (some ⟨go, 0, none⟩) p.len.length co) 25 1 p.len.length ((rs.map Prod.fst).set q (.slice L1 (usq.length + 1) cl1)), froz T u, blk g1 [.slice A1 p.len.length c1, .slice A2 p.ck.length c2, .slice A3 p.arcs.length c3] 28] w := by rw [HLN.out]; exact hS.re
            replace hS := St.famPut (j := q) hS
            rw [List.set_set] at hS
            replace hS : St w0 NoM [row (.slice (some ⟨gc, 0, none⟩) p.len.length cl2) 3 1 p.len.length (ints ((cc).set q ((xq : Int) + 1))), fam 24 (rs.set q (.slice L1 (usq.length + 1) cl1, usq ++ [(Value.slice (some ⟨gc, 0, none⟩) p.len.length cl2)])), row (.slice (some ⟨gp, 0, none⟩) l.length cp) 37 2 l.length (l.flatMap ptCells), row (.slice (some ⟨go, 0, none⟩) p.len.length co) 25 1 p.len.length ((rs.map Prod.fst).set q (.slice L1 (usq.length + 1) cl1)), froz T u, blk g1 [.slice A1 p.len.length c1, .slice A2 p.ck.length c2, .slice A3 p.arcs.length c3] 28] w := hS.re
            obtain ⟨T1, hS1, hi1, hri1⟩ := hS.freezeI
            go_roundw
            case measure => simp [intOf]; omega
            refine ⟨i + 1, goOn x q, rs.set q (.slice L1 (usq.length + 1) cl1, usq ++ [(Value.slice (some ⟨gc, 0, none⟩) p.len.length cl2)]), T1, w, by omega, by go_num, Lib.hid ⟨HST.out, (HX.out.2.into hi1).put HXL.out hq ⟨⟨L1, cl1, by simp⟩, by simp only [HLN.out, HUN.out]; omega, fun j hj => ?_⟩⟩, ?_⟩
            · simp only [HLN.out] at hj
              by_cases hju : j < usq.length
              · simp only [List.getElem_append_left hju]
                exact (HRQ.out.k j hju).into hi1
              · have hje : j = xq + 1 := by have := HUN.out; omega
                subst hje
                rw [List.getElem_append_right (by omega)]
                simp only [HUN.out, Nat.sub_self, List.getElem_cons_zero]
                exact ⟨_, _, _, rfl, by rw [show ((xq + 1 : Nat) : Int) = (xq : Int) + 1 by omega]; exact HSTEP.out, hri1⟩
            · rw [List.map_set]
              exact hS1.re
          · rcases hz with ⟨h, _⟩ | ⟨i3, hi3, e3, hto, hat⟩
            · exact absurd h (by omega)
            have e3' : i2 = i3 := by omega
            subst e3'
            have hoa := HP.out.2.arc _ (List.getElem_mem hi2)
            have hsin : p.arcs[i2].ix ≤ nth x p.arcs[i2].fr := by
              have h := HC.out
              rw [canB, Bool.and_eq_true] at h
              have h2 := h.2
              rw [srcIn, hxq, hs] at h2
              simpa using h2
            have HAR := Lib.hid (And.intro (List.getElem_mem hi2) (And.intro hto hat))
            obtain ⟨b3, o3, hA3, _, hcs⟩ := HP.out.1.arcs.cells hi2
            simp only at hA3
            subst hA3
            have hf0 := hcs 0 _ rfl
            have hf1 := hcs 1 _ rfl
            simp only [Nat.add_zero] at hf0
            have hi2' : (i2 : Int) < p.arcs.length := by omega
            clear hcs e3 hs
            generalize p.arcs[i2] = ar at *
            obtain ⟨ixn, hixn⟩ : ∃ n : Nat, ar.ix = n := ⟨ar.ix.toNat, by have := hoa.ix0; omega⟩
            rw [hixn] at hf1 hsin
            have hfrq : ar.fr ≠ q := fun e => hoa.ne (by rw [e, HAR.out.2.1])
            have hfr : ar.fr < p.len.length := hoa.fr
            have hfr' : (ar.fr : Int) < p.len.length := by omega
            have hfrs : ar.fr < rs.length := by rw [HX.out.2.n]; exact hfr
            obtain ⟨⟨vf, usf⟩, hrf⟩ : ∃ r, rs[ar.fr] = r := ⟨_, rfl⟩
            have HRF := Lib.hid (show RowC p T u ar.fr (nth x ar.fr + 1).toNat (vf, usf) by have := HX.out.2.r ar.fr hfrs; rw [hrf] at this; exact this)
            have hrf? : rs[ar.fr]? = some (vf, usf) := by rw [List.getElem?_eq_getElem hfrs, hrf]
            have hrf2 : (rs.set q nilR)[ar.fr]? = some (vf, usf) := by rw [List.getElem?_set_ne (Ne.symm hfrq)]; exact hrf?
            obtain ⟨Lf, cf, hvf⟩ := HRF.out.f
            simp only at hvf
            subst hvf
            have hfl : ixn < usf.length := by have := HRF.out.n; simp only at this; omega
            have hfl' : (ixn : Int) < usf.length := by omega
            have hcof := map_fst_at hrf?
            replace hS : St w0 NoM [fam 24 (rs.set q nilR), row (.slice (some ⟨gc, 0, none⟩) p.len.length cl2) 3 1 p.len.length (ints cc), row (.slice (some ⟨gq, 0, none⟩) usq.length cq) 24 1 usq.length usq, row (.slice (some ⟨gp, 0, none⟩) l.length cp) 37 2 l.length (l.flatMap ptCells), row (.slice (some ⟨go, 0, none⟩) p.len.length co) 25 1 p.len.length (rs.map Prod.fst), froz T u, blk g1 [.slice A1 p.len.length c1, .slice A2 p.ck.length c2, .slice (some ⟨b3, o3, none⟩) p.arcs.length c3] 28] w := hS.re
            replace hS := hS.famTake hrf2
            obtain ⟨gf, rfl⟩ := hS.rowSome Lf (by omega)
            obtain ⟨Ld, capd, dd, hdv, hdclk, hrid⟩ := HRF.out.k ixn hfl
            simp only at hdv
            have hdu : usf[ixn]? = some (.slice Ld p.len.length capd) := by rw [List.getElem?_eq_getElem hfl, hdv]
            have HDL := Lib.hid hdclk.len
            obtain ⟨rk, _, hrk, _⟩ := HP.out.2.rank
            have HSTEP := Lib.hid (clk_recv HP.out.2 hrk HAR.out.1 HAR.out.2.1 HAR.out.2.2 hk1 HCK.out (show IsClk p ar.fr ar.ix dd by rw [hixn]; exact hdclk))
            have HZL := Lib.hid (show (List.zipWith max cc dd).length = p.len.length by simp [HCL.out, HDL.out])
            have d2 : decide ((0 : Int) ≤ (i2 : Int)) = true := decide_eq_true (by omega)
            clear hto hat hdv hdclk hrk hixn hoa
            go_wp2_with (first | (refine oL ?_; (first | refine sL1 hS rfl rfl rfl ?_ | refine sL2 hS rfl rfl rfl ?_ | refine sL3 hS rfl rfl ?_ | refine sL4 hS rfl rfl ?_ | refine sL5 hS rfl rfl ?_ | refine sL6 hS rfl rfl ?_ | refine sL7 hS rfl rfl ?_)) | (refine oS ?_; ((first | refine sS1 hS rfl rfl rfl ?_ | refine sS2 hS rfl rfl rfl ?_ | refine sS3 hS rfl rfl rfl ?_ | refine sS4 hS rfl rfl rfl ?_ | refine sS5 hS rfl rfl rfl ?_); clear hS; intro w hS)) | (refine oP ?_; ((first | refine sP1 hS rfl rfl rfl ?_ | refine sP2 hS rfl rfl rfl ?_ | refine sP3 hS rfl rfl rfl ?_); clear hS; first | ((fail_if_success guard_hyp L1); intro L1 cl1 w hL1 hM1 hS) | ((fail_if_success guard_hyp L2); intro L2 cl2 w hL2 hM2 hS) | ((fail_if_success guard_hyp L3); intro L3 cl3 w hL3 hM3 hS) | ((fail_if_success guard_hyp L4); intro L4 cl4 w hL4 hM4 hS) | fail)) | ((first | (refine oB ?_; first | refine sB1 hS rfl rfl ?_ | refine sB2 hS rfl rfl ?_) | (refine oC ?_; first | refine sC0 hS rfl ?_ | refine sC1 hS rfl rfl ?_ | refine sC2 hS rfl rfl ?_ | refine sC3 hS rfl rfl rfl ?_ | refine sC4 hS rfl rfl rfl ?_) | refine sM1 hS rfl rfl rfl ?_); clear hS; first | ((fail_if_success guard_hyp g1); intro g1 w hS) | ((fail_if_success guard_hyp g2); intro g2 w hS) | ((fail_if_success guard_hyp g3); intro g3 w hS) | ((fail_if_success guard_hyp g4); intro g4 w hS) | ((fail_if_success guard_hyp g5); intro g5 w hS) | ((fail_if_success guard_hyp g6); intro g6 w hS) | fail) | fail)
            refine dr_start0 []  hS (by kernel_rfl) rfl ?_; clear hS; intro w hS
            refine dM hS 0 rfl rfl rfl ?_
            (try simp only [Act.put, nA, nB, nC])
            refine dM hS 1 rfl rfl rfl ?_
            (try simp only [Act.put, nA, nB, nC])
            refine dP hS 2 rfl rfl ?_
            (try simp only [Act.put, nA, nB, nC])
            first | refine dL1 hS 3 rfl rfl rfl rfl ?_ | refine dL2 hS 3 rfl rfl rfl rfl ?_ | refine dL3 hS 3 rfl rfl rfl ?_ | refine dL4 hS 3 rfl rfl rfl ?_ | refine dL5 hS 3 rfl rfl rfl ?_ | refine dL6 hS 3 rfl rfl rfl ?_ | refine dL7 hS 3 rfl rfl rfl ?_
            (try simp only [Act.put, nA, nB, nC])
            refine dM hS 4 rfl rfl rfl ?_
            (try simp only [Act.put, nA, nB, nC])
            refine dP hS 5 rfl rfl ?_
            (try simp only [Act.put, nA, nB, nC])
            refine dP hS 6 rfl rfl ?_
            (try simp only [Act.put, nA, nB, nC])
            first | refine dL1 hS 7 rfl rfl rfl rfl ?_ | refine dL2 hS 7 rfl rfl rfl rfl ?_ | refine dL3 hS 7 rfl rfl rfl ?_ | refine dL4 hS 7 rfl rfl rfl ?_ | refine dL5 hS 7 rfl rfl rfl ?_ | refine dL6 hS 7 rfl rfl rfl ?_ | refine dL7 hS 7 rfl rfl rfl ?_
            (try simp only [Act.put, nA, nB, nC])
            refine dP hS 8 rfl rfl ?_
            (try simp only [Act.put, nA, nB, nC])
            first | refine dL1 hS 9 rfl rfl rfl rfl ?_ | refine dL2 hS 9 rfl rfl rfl rfl ?_ | refine dL3 hS 9 rfl rfl rfl ?_ | refine dL4 hS 9 rfl rfl rfl ?_ | refine dL5 hS 9 rfl rfl rfl ?_ | refine dL6 hS 9 rfl rfl rfl ?_ | refine dL7 hS 9 rfl rfl rfl ?_
            (try simp only [Act.put, nA, nB, nC])
            refine dP hS 10 rfl rfl ?_
            (try simp only [Act.put, nA, nB, nC])
            first | refine dL1 hS 11 rfl rfl rfl rfl ?_ | refine dL2 hS 11 rfl rfl rfl rfl ?_ | refine dL3 hS 11 rfl rfl rfl ?_ | refine dL4 hS 11 rfl rfl rfl ?_ | refine dL5 hS 11 rfl rfl rfl ?_ | refine dL6 hS 11 rfl rfl rfl ?_ | refine dL7 hS 11 rfl rfl rfl ?_
            (try simp only [Act.put, nA, nB, nC])
            refine dM hS 12 rfl rfl rfl ?_
            (try simp only [Act.put, nA, nB, nC])
            refine dP hS 13 rfl rfl ?_
            (try simp only [Act.put, nA, nB, nC])
            refine dP hS 14 rfl rfl ?_
            (try simp only [Act.put, nA, nB, nC])
            first | refine dL1 hS 15 rfl rfl rfl rfl ?_ | refine dL2 hS 15 rfl rfl rfl rfl ?_ | refine dL3 hS 15 rfl rfl rfl ?_ | refine dL4 hS 15 rfl rfl rfl ?_ | refine dL5 hS 15 rfl rfl rfl ?_ | refine dL6 hS 15 rfl rfl rfl ?_ | refine dL7 hS 15 rfl rfl rfl ?_
            (try simp only [Act.put, nA, nB, nC])
            refine dP hS 16 rfl rfl ?_
            (try simp only [Act.put, nA, nB, nC])
            first | refine dL1 hS 17 rfl rfl rfl rfl ?_ | refine dL2 hS 17 rfl rfl rfl rfl ?_ | refine dL3 hS 17 rfl rfl rfl ?_ | refine dL4 hS 17 rfl rfl rfl ?_ | refine dL5 hS 17 rfl rfl rfl ?_ | refine dL6 hS 17 rfl rfl rfl ?_ | refine dL7 hS 17 rfl rfl rfl ?_
            (try simp only [Act.put, nA, nB, nC])
            refine dr_one 18 (by kernel_rfl) rfl ?_
            (refine st_call rfl (by kernel_rfl) rfl ?_; go_at_call 78; refine (top_any _ _ _ _ _ cc dd _ hS.ri (hrid.into hS.frozInto) HCL.out HDL.out (by omega) (by omega)).mono ?_; rintro e w ⟨L5, c5, rfl, ho, hx1⟩; replace hS := hS.addRow ho hx1; clear ho)
            (try simp only [Act.put, nA, nB, nC])
            refine dr_end hS ?_
            refine dA hS 19 rfl rfl rfl ?_
            (try simp only [Act.put, nA, nB, nC])
            refine dr_done (by kernel_rfl) ?_
            obtain ⟨g5, rfl⟩ := hS.rowSome L5 (by omega)
            replace hS : St w0 NoM [row (.slice (some ⟨gf, 0, none⟩) usf.length cf) 24 1 usf.length usf, fam 24 ((rs.set q nilR).set ar.fr nilR), row (.slice (some ⟨g5, 0, none⟩) p.len.length c5) 3 1 p.len.length (ints (List.zipWith max cc dd)), row (.slice (some ⟨gq, 0, none⟩) usq.length cq) 24 1 usq.length usq, row (.slice (some ⟨gp, 0, none⟩) l.length cp) 37 2 l.length (l.flatMap ptCells), row (.slice (some ⟨go, 0, none⟩) p.len.length co) 25 1 p.len.length (rs.map Prod.fst), froz T u, blk g1 [.slice A1 p.len.length c1, .slice A2 p.ck.length c2, .slice (some ⟨b3, o3, none⟩) p.arcs.length c3] 28] w := hS.re
            replace hS := St.famPut (j := ar.fr) hS
            rw [set_set_back hfrq hrf?] at hS
            have hqc : q < (List.zipWith max cc dd).length := by rw [HZL.out]; exact hq
            go_wp2_with (first | (refine oL ?_; (first | refine sL1 hS rfl rfl rfl ?_ | refine sL2 hS rfl rfl rfl ?_ | refine sL3 hS rfl rfl ?_ | refine sL4 hS rfl rfl ?_ | refine sL5 hS rfl rfl ?_ | refine sL6 hS rfl rfl ?_ | refine sL7 hS rfl rfl ?_)) | (refine oS ?_; ((first | refine sS1 hS rfl rfl rfl ?_ | refine sS2 hS rfl rfl rfl ?_ | refine sS3 hS rfl rfl rfl ?_ | refine sS4 hS rfl rfl rfl ?_ | refine sS5 hS rfl rfl rfl ?_); clear hS; intro w hS)) | (refine oP ?_; ((first | refine sP1 hS rfl rfl rfl ?_ | refine sP2 hS rfl rfl rfl ?_ | refine sP3 hS rfl rfl rfl ?_); clear hS; first | ((fail_if_success guard_hyp L1); intro L1 cl1 w hL1 hM1 hS) | ((fail_if_success guard_hyp L2); intro L2 cl2 w hL2 hM2 hS) | ((fail_if_success guard_hyp L3); intro L3 cl3 w hL3 hM3 hS) | ((fail_if_success guard_hyp L4); intro L4 cl4 w hL4 hM4 hS) | fail)) | ((first | (refine oB ?_; first | refine sB1 hS rfl rfl ?_ | refine sB2 hS rfl rfl ?_) | (refine oC ?_; first | refine sC0 hS rfl ?_ | refine sC1 hS rfl rfl ?_ | refine sC2 hS rfl rfl ?_ | refine sC3 hS rfl rfl rfl ?_ | refine sC4 hS rfl rfl rfl ?_) | refine sM1 hS rfl rfl rfl ?_); clear hS; first | ((fail_if_success guard_hyp g1); intro g1 w hS) | ((fail_if_success guard_hyp g2); intro g2 w hS) | ((fail_if_success guard_hyp g3); intro g3 w hS) | ((fail_if_success guard_hyp g4); intro g4 w hS) | ((fail_if_success guard_hyp g5); intro g5 w hS) | ((fail_if_success guard_hyp g6); intro g6 w hS) | fail) | fail)
            have HLN := Lib.hid (show (usq ++ [(Value.slice (some ⟨g5, 0, none⟩) p.len.length c5)]).length = usq.length + 1 by simp)
            replace hS : St w0 NoM [row (.slice L1 (usq.length + 1) cl1) 24 1 (usq ++ [(Value.slice (some ⟨g5, 0, none⟩) p.len.length c5)]).length (usq ++ [(Value.slice (some ⟨g5, 0, none⟩) p.len.length c5)]), fam 24 (rs.set q nilR), row (.slice (some ⟨g5, 0, none⟩) p.len.length c5) 3 1 p.len.length (ints ((List.zipWith max cc dd).set q ((xq : Int) + 1))), row (.slice (some ⟨gp, 0, none⟩) l.length cp) 37 2 l.length (l.flatMap ptCells), row (.slice (some ⟨go, 0, none⟩) p.len.length co) 25 1 p.len.length ((rs.map Prod.fst).set q (.slice L1 (usq.length + 1) cl1)), froz T u, blk g1 [.slice A1 p.len.length c1, .slice A2 p.ck.length c2, .slice (some ⟨b3, o3, none⟩) p.arcs.length c3] 28] w := by rw [HLN.out]; exact hS.re
            replace hS := St.famPut (j := q) hS
            rw [List.set_set] at hS
            replace hS : St w0 NoM [row (.slice (some ⟨g5, 0, none⟩) p.len.length c5) 3 1 p.len.length (ints ((List.zipWith max cc dd).set q ((xq : Int) + 1))), fam 24 (rs.set q (.slice L1 (usq.length + 1) cl1, usq ++ [(Value.slice (some ⟨g5, 0, none⟩) p.len.length c5)])), row (.slice (some ⟨gp, 0, none⟩) l.length cp) 37 2 l.length (l.flatMap ptCells), row (.slice (some ⟨go, 0, none⟩) p.len.length co) 25 1 p.len.length ((rs.map Prod.fst).set q (.slice L1 (usq.length + 1) cl1)), froz T u, blk g1 [.slice A1 p.len.length c1, .slice A2 p.ck.length c2, .slice (some ⟨b3, o3, none⟩) p.arcs.length c3] 28] w := hS.re
            obtain ⟨T1, hS1, hi1, hri1⟩ := hS.freezeI
            go_roundw
            case measure => simp [intOf]; omega
            refine ⟨i + 1, goOn x q, rs.set q (.slice L1 (usq.length + 1) cl1, usq ++ [(Value.slice (some ⟨g5, 0, none⟩) p.len.length c5)]), T1, w, by omega, by go_num, Lib.hid ⟨HST.out, (HX.out.2.into hi1).put HXL.out hq ⟨⟨L1, cl1, by simp⟩, by simp only [HLN.out, HUN.out]; omega, fun j hj => ?_⟩⟩, ?_⟩
            · simp only [HLN.out] at hj
              by_cases hju : j < usq.length
              · simp only [List.getElem_append_left hju]
                exact (HRQ.out.k j hju).into hi1
              · have hje : j = xq + 1 := by have := HUN.out; omega
                subst hje
                rw [List.getElem_append_right (by omega)]
                simp only [HUN.out, Nat.sub_self, List.getElem_cons_zero]
                exact ⟨_, _, _, rfl, by rw [show ((xq + 1 : Nat) : Int) = (xq : Int) + 1 by omega]; exact HSTEP.out, hri1⟩
            · rw [List.map_set]
              exact hS1.re
        · have hie : i = l.length := by omega
          subst hie
          have HE := Lib.hid (show x = p.len by rw [← HX.out.1, ord_end HO.out.1 HO.out.2])
          go_wp2_with (first | (refine oL ?_; (first | refine sL1 hS rfl rfl rfl ?_ | refine sL2 hS rfl rfl rfl ?_ | refine sL3 hS rfl rfl ?_ | refine sL4 hS rfl rfl ?_ | refine sL5 hS rfl rfl ?_ | refine sL6 hS rfl rfl ?_ | refine sL7 hS rfl rfl ?_)) | (refine oS ?_; ((first | refine sS1 hS rfl rfl rfl ?_ | refine sS2 hS rfl rfl rfl ?_ | refine sS3 hS rfl rfl rfl ?_ | refine sS4 hS rfl rfl rfl ?_ | refine sS5 hS rfl rfl rfl ?_); clear hS; intro w hS)) | (refine oP ?_; ((first | refine sP1 hS rfl rfl rfl ?_ | refine sP2 hS rfl rfl rfl ?_ | refine sP3 hS rfl rfl rfl ?_); clear hS; first | ((fail_if_success guard_hyp L1); intro L1 cl1 w hL1 hM1 hS) | ((fail_if_success guard_hyp L2); intro L2 cl2 w hL2 hM2 hS) | ((fail_if_success guard_hyp L3); intro L3 cl3 w hL3 hM3 hS) | ((fail_if_success guard_hyp L4); intro L4 cl4 w hL4 hM4 hS) | fail)) | ((first | (refine oB ?_; first | refine sB1 hS rfl rfl ?_ | refine sB2 hS rfl rfl ?_) | (refine oC ?_; first | refine sC0 hS rfl ?_ | refine sC1 hS rfl rfl ?_ | refine sC2 hS rfl rfl ?_ | refine sC3 hS rfl rfl rfl ?_ | refine sC4 hS rfl rfl rfl ?_) | refine sM1 hS rfl rfl rfl ?_); clear hS; first | ((fail_if_success guard_hyp g1); intro g1 w hS) | ((fail_if_success guard_hyp g2); intro g2 w hS) | ((fail_if_success guard_hyp g3); intro g3 w hS) | ((fail_if_success guard_hyp g4); intro g4 w hS) | ((fail_if_success guard_hyp g5); intro g5 w hS) | ((fail_if_success guard_hyp g6); intro g6 w hS) | fail) | fail)
          go_ret
          have hnew : ∀ b, Orn (fun _ => False) w0 b → w0.heap.size ≤ b := fun b hb => hb.resolve_left id
          have hx := HX.out.2
          rw [HE.out] at hx
          have hfam := hS.all (fam 24 rs) (by simp)
          refine ⟨Lo, co, rs, rfl, hS.toExt, (hS.rvNew (S := fun _ => False)).sub hnew, (hx.into (hS.frozOrn (S := fun _ => False))).into (Into.sub _ hnew), fun q hq => ?_⟩
          obtain ⟨A, c, hA⟩ := (hx.r q hq).f
          refine ⟨A, c, hA, ?_⟩
          have hown := hfam.1 _ (List.getElem_mem hq)
          have hb : ∀ k, rs[q].1.ownBlock = some k → w0.heap.size ≤ k := fun k hk => (hS.new (fam 24 rs) (by simp) k ⟨_, List.getElem_mem hq, hk⟩).resolve_right id
          have hown2 := own_rebase hown hb
          rw [hA] at hown2
          exact RV.ofOwn hown2
end Go.Proofs.Ytkflmichekpfbaa
