/- rollbacknetref16.Same of two equal good patterns. Conditions: they lie in memory. -/
import Derived.Test.YtmjmdncdmmcmaaaTwR
import Derived.Test.YtmjmdncdmmcmaaaRChk
import Derived.Test.YtmjmdncdmmcmaaaTwX
import Derived.Test.YtmjmdncdmmcmaaaSameI
namespace Go.Proofs.Ytmjmdncdmmcmaaa
open Go.RowKit Tph
set_option linter.unusedVariables false

theorem good_rows {p : Pat} (hg : Good p) : ∀ l ∈ p.ck, l.length ≤ 1000 := fun l hl => by
  obtain ⟨q, hq, rfl⟩ := List.getElem_of_mem hl
  have hq2 : q < p.len.length := by rw [← hg.ckl]; exact hq
  have h1 := row_short (hg.row q hq2) (hg.hi q hq2)
  have h2 : rowOf p.ck q = p.ck[q] := rowOf_eq hq
  rw [h2] at h1
  omega
theorem rsame_good {S T : Nat → Prop} {A1 A2 A3 B1 B2 B3 : Option Addr} {c1 c2 c3 d1 d2 d3 : Nat} {p : Pat} {w0 : World} (hp : PatAt S w0 ⟨A1, c1, A2, c2, A3, c3⟩ p) (hq : PatAt T w0 ⟨B1, d1, B2, d2, B3, d3⟩ p) (hg : Good p) :
    Calls Try.prog 39 #[.agg #[.slice A1 p.len.length c1, .slice A2 p.ck.length c2, .slice A3 p.arcs.length c3], .agg #[.slice B1 p.len.length d1, .slice B2 p.ck.length d2, .slice B3 p.arcs.length d3]] w0 fun e w' => e = .returned (.bool true) ∧ Ext w0 w' :=
  same_eq A1 A2 A3 B1 B2 B3 c1 c2 c3 d1 d2 d3 p w0 hp.len hp.ck hp.arcs hq.len hq.ck hq.arcs (by have := hg.n5; omega) (by have := hg.n5; have := hg.ckl; omega) (fun l hl => Nat.le_trans (good_rows hg l hl) (by omega)) (by have := hg.few; omega)
end Go.Proofs.Ytmjmdncdmmcmaaa

/- rollbacknetref24.Same of two equal machines. Conditions: they lie in memory, their lists are short. -/
namespace Go.Proofs.Ytmjmdncdmmcmaaa
open Go.RowKit Tph
set_option linter.unusedVariables false
set_option linter.unusedSimpArgs false
set_option linter.unusedSectionVars false

theorem RB.at_ {S : Nat → Prop} {w : World} {A : Option Addr} {bs : List Bool} (h : RV S w A (bools bs)) {k : Nat} (hk : k < bs.length) : ∃ b o, A = some ⟨b, o, none⟩ ∧ S b ∧ w.cell? ⟨b, o + k, none⟩ = some (.bool (opOf bs k)) := h k _ (bools_get hk)
set_option maxHeartbeats 1600000 in
theorem sameB_eq {S T : Nat → Prop} (A B : Option Addr) (c d : Nat) (bs : List Bool) (w0 : World) (ha : RV S w0 A (bools bs)) (hb : RV T w0 B (bools bs)) (hl : bs.length ≤ 1000000) :
    Calls Try.prog 73 #[.slice A bs.length c, .slice B bs.length d] w0 fun e w' => e = .returned (.bool true) ∧ Ext w0 w' := by
  have hS := St.start w0 NoM
  have e2 : ((bs.length : Int) != (bs.length : Int)) = false := by simp
  go_enter Try.func73, Try.ntmps73
  go_wp2_with (fail)
  clear e2
  go_loopw [5] (fun i wr => ∃ k : Nat, k ≤ bs.length ∧ i = .int .i64 k ∧ St w0 NoM [] wr) (fun i _ => bs.length - (intOf i).toNat)
  case atStart => exact ⟨0, Nat.zero_le _, rfl, hS⟩
  case round =>
    obtain ⟨k, hk, rfl, hS⟩ := hrel
    by_cases hlt : k < bs.length
    · obtain ⟨b1, o1, rfl, _, hca⟩ := RB.at_ ha hlt
      obtain ⟨b2, o2, rfl, _, hcb⟩ := RB.at_ hb hlt
      generalize opOf bs k = x at *
      have e3 : (x != x) = false := by simp
      go_wp2_with (fail)
      refine dr_start0 []  hS (by kernel_rfl) rfl ?_; clear hS; intro w hS
      refine dM hS 0 rfl rfl rfl ?_
      (try simp only [Act.put, nA, nB, nC])
      refine dM hS 1 rfl rfl rfl ?_
      (try simp only [Act.put, nA, nB, nC])
      refine dP hS 2 rfl rfl ?_
      (try simp only [Act.put, nA, nB, nC])
      (refine dL4 hS 3 rfl rfl rfl ?_)
      (try simp only [Act.put, nA, nB, nC])
      refine dM hS 4 rfl rfl rfl ?_
      (try simp only [Act.put, nA, nB, nC])
      refine dM hS 5 rfl rfl rfl ?_
      (try simp only [Act.put, nA, nB, nC])
      refine dP hS 6 rfl rfl ?_
      (try simp only [Act.put, nA, nB, nC])
      (refine dL4 hS 7 rfl rfl rfl ?_)
      (try simp only [Act.put, nA, nB, nC])
      refine dP hS 8 rfl rfl ?_
      (try simp only [Act.put, nA, nB, nC])
      refine dr_done (by kernel_rfl) ?_
      go_wp2_with (fail)
      go_roundw
      case measure => simp [intOf]; omega
      exact ⟨k + 1, by omega, by go_num, hS⟩
    · go_wp2_with (fail)
      go_ret
      exact ⟨rfl, hS.toExt⟩
theorem RW2.atR {S : Nat → Prop} {w : World} {A : Option Addr} {ls : List (List Int)} (h : RW2 ReV S w A ls) {k : Nat} (hk : k < ls.length) : ∃ b o B c, A = some ⟨b, o, none⟩ ∧ S b ∧ w.cell? ⟨b, o + k, none⟩ = some (.slice B (rowOf ls k).length c) ∧ (rowOf ls k).length ≤ c ∧ c ≤ 9223372036854775807 ∧ RI S w B (rowOf ls k) := by
  obtain ⟨vs, h1, h2⟩ := h
  have hv : k < vs.length := by rw [h2.n]; exact hk
  obtain ⟨b, o, e, hs, hc⟩ := h1.row2 hv
  obtain ⟨B, c, hv2, h3, h4, h5⟩ := h2.k k hv hk
  rw [rowOf_eq hk]
  exact ⟨b, o, B, c, e, hs, by rw [hc, hv2], h3, h4, h5⟩
set_option maxHeartbeats 1600000 in
theorem sameL_eq {S T : Nat → Prop} (A B : Option Addr) (c d : Nat) (ls : List (List Int)) (w0 : World) (ha : RW2 ReV S w0 A ls) (hb : RW2 ReV T w0 B ls) (hl : ls.length ≤ 1000000) (hr : ∀ l ∈ ls, l.length ≤ 1000000) :
    Calls Try.prog 74 #[.slice A ls.length c, .slice B ls.length d] w0 fun e w' => e = .returned (.bool true) ∧ Ext w0 w' := by
  have hS := St.start w0 NoM
  have e2 : ((ls.length : Int) != (ls.length : Int)) = false := by simp
  have HR := Lib.hid hr
  clear hr
  go_enter Try.func74, Try.ntmps74
  go_wp2_with (fail)
  clear e2
  go_loopw [5] (fun i wr => ∃ k : Nat, k ≤ ls.length ∧ i = .int .i64 k ∧ St w0 NoM [] wr) (fun i _ => ls.length - (intOf i).toNat)
  case atStart => exact ⟨0, Nat.zero_le _, rfl, hS⟩
  case round =>
    obtain ⟨k, hk, rfl, hS⟩ := hrel
    by_cases hlt : k < ls.length
    · obtain ⟨b1, o1, B1, c1, rfl, _, hca, _, _, hra⟩ := ha.atR hlt
      obtain ⟨b2, o2, B2, c2, rfl, _, hcb, _, _, hrb⟩ := hb.atR hlt
      have hrl : (rowOf ls k).length ≤ 1000000 := by rw [rowOf_eq hlt]; exact HR.out _ (List.getElem_mem hlt)
      generalize rowOf ls k = l at *
      go_wp2_with (fail)
      refine dr_start0 []  hS (by kernel_rfl) rfl ?_; clear hS; intro w hS
      refine dM hS 0 rfl rfl rfl ?_
      (try simp only [Act.put, nA, nB, nC])
      refine dM hS 1 rfl rfl rfl ?_
      (try simp only [Act.put, nA, nB, nC])
      refine dP hS 2 rfl rfl ?_
      (try simp only [Act.put, nA, nB, nC])
      (refine dL4 hS 3 rfl rfl rfl ?_)
      (try simp only [Act.put, nA, nB, nC])
      refine dM hS 4 rfl rfl rfl ?_
      (try simp only [Act.put, nA, nB, nC])
      refine dM hS 5 rfl rfl rfl ?_
      (try simp only [Act.put, nA, nB, nC])
      refine dP hS 6 rfl rfl ?_
      (try simp only [Act.put, nA, nB, nC])
      (refine dL4 hS 7 rfl rfl rfl ?_)
      (try simp only [Act.put, nA, nB, nC])
      refine dr_one 8 (by kernel_rfl) rfl ?_
      (refine st_call rfl (by kernel_rfl) rfl ?_; go_at_call 31; refine (sameI_eq _ _ _ _ l _ (hra.ext hS.toExt) (hrb.ext hS.toExt) hrl).mono ?_; rintro e w ⟨rfl, hx1⟩; replace hS := hS.ext hx1)
      (try simp only [Act.put, nA, nB, nC])
      refine dr_end hS ?_
      refine dP hS 9 rfl rfl ?_
      (try simp only [Act.put, nA, nB, nC])
      refine dr_done (by kernel_rfl) ?_
      go_wp2_with (fail)
      go_roundw
      case measure => simp [intOf]; omega
      exact ⟨k + 1, by omega, by go_num, hS⟩
    · go_wp2_with (fail)
      go_ret
      exact ⟨rfl, hS.toExt⟩
theorem sameB_n {S T : Nat → Prop} {A B : Option Addr} {c d n : Nat} {bs : List Bool} {w0 : World} (hn : bs.length = n) (ha : RV S w0 A (bools bs)) (hb : RV T w0 B (bools bs)) (hl : n ≤ 1000000) :
    Calls Try.prog 73 #[.slice A n c, .slice B n d] w0 fun e w' => e = .returned (.bool true) ∧ Ext w0 w' := by subst hn; exact sameB_eq A B c d bs w0 ha hb hl
theorem sameL_n {S T : Nat → Prop} {A B : Option Addr} {c d n : Nat} {ls : List (List Int)} {w0 : World} (hn : ls.length = n) (ha : RW2 ReV S w0 A ls) (hb : RW2 ReV T w0 B ls) (hl : n ≤ 1000000) (hr : ∀ l ∈ ls, l.length ≤ 1000000) :
    Calls Try.prog 74 #[.slice A n c, .slice B n d] w0 fun e w' => e = .returned (.bool true) ∧ Ext w0 w' := by subst hn; exact sameL_eq A B c d ls w0 ha hb hl hr
/-- what is short in a pattern -/
structure PShort (p : Pat) : Prop where
  l : p.len.length ≤ 1000000
  c : p.ck.length ≤ 1000000
  r : ∀ l ∈ p.ck, l.length ≤ 1000000
  a : p.arcs.length ≤ 1000000
theorem Good.short {p : Pat} (hg : Good p) : PShort p := ⟨by have := hg.n5; omega, by have := hg.n5; have := hg.ckl; omega, fun l hl => Nat.le_trans (good_rows hg l hl) (by omega), by have := hg.few; omega⟩
def pat0 : Pat := ⟨[], [], []⟩
theorem pat0_short : PShort pat0 := ⟨by simp [pat0], by simp [pat0], by simp [pat0], by simp [pat0]⟩
theorem nt_cells {S : Nat → Prop} {w : World} {A : Option Addr} {l : List Nt} (h : RV S w A (ntc l)) {i : Nat} (hi : i < l.length) : ∃ b o, A = some ⟨b, o, none⟩ ∧ S b ∧ Cells w b (o + i * 3) [.int .i64 l[i].kd, .int .i64 (l[i].fr : Int), .int .i64 (l[i].to : Int)] := by
  have hat := fun j v hv => flat_at (f := ntCells) (sz := 3) (fun _ => rfl) hi j v hv
  obtain ⟨b, o, rfl, ht, hc⟩ := h (i * 3 + 0) _ (hat 0 _ rfl)
  refine ⟨b, o, rfl, ht, fun j v hv => ?_⟩
  obtain ⟨b', o', e, _, hc'⟩ := h (i * 3 + j) v (hat j v hv)
  injection e with e
  injection e with e1 e2
  subst e1 e2
  rw [Nat.add_assoc]
  exact hc'
theorem nats_row {ch : List (List Nat)} (h : ∀ l ∈ ch, l.length ≤ 1000) : ∀ l ∈ ch.map nats, l.length ≤ 1000000 := fun l hl => by
  obtain ⟨x, hx, rfl⟩ := List.mem_map.1 hl
  rw [List.length_map]
  exact Nat.le_trans (h x hx) (by omega)
set_option maxRecDepth 100000 in
set_option maxHeartbeats 6400000 in
theorem rsameT {S T : Nat → Prop} (x y : TX) (p : Pat) (t : TS) (n nf : Nat) (w0 : World) (hx : TpAt S w0 x p t) (hy : TpAt T w0 y p t) (hl : TsL n t) (hn : n ≤ 5) (hnf : t.fl.length = nf) (hb : nf ≤ 3000) (hsm : ∀ l ∈ t.ch, l.length ≤ 1000) (hps : PShort p) :
    Calls Try.prog 36 #[x.val p t.root n nf, y.val p t.root n nf] w0 fun e w' => e = .returned (.bool true) ∧ Ext w0 w' := by
  have hS := St.start w0 NoM
  obtain ⟨A1, c1, A2, c2, A3, c3, UA, uc, PA, pc, EA, ec, WA, wc, RA0, rc, CA, cc, DA, dc, FA, fc⟩ := x
  obtain ⟨B1, d1, B2, d2, B3, d3, UB, ud, PB, pd, EB, ed, WB, wd, RB0, rd, CB, cd, DB, dd, FB, fd⟩ := y
  obtain ⟨root, unw, par, tent, aw, ref, ch, dec, fl⟩ := t
  have HX := Lib.hid (And.intro hx hy)
  have HL := Lib.hid (And.intro hl (And.intro (nats_row hsm) hps))
  have HLC := Lib.hid (show (ch.map nats).length = n by rw [List.length_map]; exact hl.c)
  have HNF := Lib.hid hnf
  have e1 : ((root : Int) != (root : Int)) = false := by simp
  have e2 : ((nf : Int) != (nf : Int)) = false := by simp
  simp only [TX.val, TX.cells]
  clear hx hy hl hsm hps hnf
  go_enter Try.func36, Try.ntmps36
  go_upto_region 1 with ((((((refine oB ?_; (refine sB1 hS rfl rfl ?_)))); clear hS; first | ((fail_if_success guard_hyp g1); intro g1 w hS) | ((fail_if_success guard_hyp g2); intro g2 w hS))))
  refine lR ?_
  refine lP rfl ?_
  (try simp only [Act.put, nA, nB, nC])
  (refine ⟨?_⟩; (refine st_ldp (us := [.slice A1 p.len.length c1, .slice A2 p.ck.length c2, .slice A3 p.arcs.length c3]) hS rfl rfl (by rfl) rfl ?_); refine WL.h ?_)
  (try simp only [Act.put, nA, nB, nC])
  refine lP rfl ?_
  (try simp only [Act.put, nA, nB, nC])
  (refine ⟨?_⟩; (refine st_ldp (us := [.slice B1 p.len.length d1, .slice B2 p.ck.length d2, .slice B3 p.arcs.length d3]) hS rfl rfl (by rfl) rfl ?_); refine WL.h ?_)
  (try simp only [Act.put, nA, nB, nC])
  (refine ⟨?_⟩; (refine st_call rfl (by kernel_rfl) rfl ?_; go_at_call 39; refine (same_eq A1 A2 A3 B1 B2 B3 c1 c2 c3 d1 d2 d3 p _ (HX.out.1.ext hS.toExt).pat.len (HX.out.1.ext hS.toExt).pat.ck (HX.out.1.ext hS.toExt).pat.arcs (HX.out.2.ext hS.toExt).pat.len (HX.out.2.ext hS.toExt).pat.ck (HX.out.2.ext hS.toExt).pat.arcs HL.out.2.2.l HL.out.2.2.c HL.out.2.2.r HL.out.2.2.a).mono ?_; rintro e w ⟨rfl, hx1⟩; replace hS := hS.ext hx1; clear hx1); refine WL.h ?_)
  (try simp only [Act.put, nA, nB, nC])
  refine lP rfl ?_
  (try simp only [Act.put, nA, nB, nC])
  refine lM rfl rfl ?_
  (try simp only [Act.put, nA, nB, nC])
  first | refine lQ rfl ?_ | refine lP rfl ?_ | fail
  (try simp only [Act.put, nA, nB, nC])
  ((refine ⟨?_⟩; (((refine sL1 hS rfl rfl rfl ?_))); refine WL.h ?_))
  (try simp only [Act.put, nA, nB, nC])
  first | refine lQ rfl ?_ | refine lP rfl ?_ | fail
  (try simp only [Act.put, nA, nB, nC])
  ((refine ⟨?_⟩; (((refine sL1 hS rfl rfl rfl ?_))); refine WL.h ?_))
  (try simp only [Act.put, nA, nB, nC])
  first | refine lQ rfl ?_ | refine lP rfl ?_ | fail
  (try simp only [Act.put, nA, nB, nC])
  refine lP rfl ?_
  (try simp only [Act.put, nA, nB, nC])
  refine lM rfl rfl ?_
  (try simp only [Act.put, nA, nB, nC])
  first | refine lQ rfl ?_ | refine lP rfl ?_ | fail
  (try simp only [Act.put, nA, nB, nC])
  ((refine ⟨?_⟩; (((refine sL1 hS rfl rfl rfl ?_))); refine WL.h ?_))
  (try simp only [Act.put, nA, nB, nC])
  first | refine lQ rfl ?_ | refine lP rfl ?_ | fail
  (try simp only [Act.put, nA, nB, nC])
  ((refine ⟨?_⟩; (((refine sL1 hS rfl rfl rfl ?_))); refine WL.h ?_))
  (try simp only [Act.put, nA, nB, nC])
  ((refine ⟨?_⟩; (refine st_call rfl (by kernel_rfl) rfl ?_; go_at_call 73; refine (sameB_n HL.out.1.u (HX.out.1.un.ext hS.toExt) (HX.out.2.un.ext hS.toExt) (by omega)).mono ?_; rintro e w ⟨rfl, hx1⟩; replace hS := hS.ext hx1; clear hx1); refine WL.h ?_))
  (try simp only [Act.put, nA, nB, nC])
  first | refine lQ rfl ?_ | refine lP rfl ?_ | fail
  (try simp only [Act.put, nA, nB, nC])
  refine lP rfl ?_
  (try simp only [Act.put, nA, nB, nC])
  refine lM rfl rfl ?_
  (try simp only [Act.put, nA, nB, nC])
  first | refine lQ rfl ?_ | refine lP rfl ?_ | fail
  (try simp only [Act.put, nA, nB, nC])
  ((refine ⟨?_⟩; (((refine sL1 hS rfl rfl rfl ?_))); refine WL.h ?_))
  (try simp only [Act.put, nA, nB, nC])
  first | refine lQ rfl ?_ | refine lP rfl ?_ | fail
  (try simp only [Act.put, nA, nB, nC])
  ((refine ⟨?_⟩; (((refine sL1 hS rfl rfl rfl ?_))); refine WL.h ?_))
  (try simp only [Act.put, nA, nB, nC])
  ((refine ⟨?_⟩; (refine st_call rfl (by kernel_rfl) rfl ?_; go_at_call 31; refine (sameI_n HL.out.1.p (HX.out.1.par.ext hS.toExt) (HX.out.2.par.ext hS.toExt) (by omega)).mono ?_; rintro e w ⟨rfl, hx1⟩; replace hS := hS.ext hx1; clear hx1); refine WL.h ?_))
  (try simp only [Act.put, nA, nB, nC])
  first | refine lQ rfl ?_ | refine lP rfl ?_ | fail
  (try simp only [Act.put, nA, nB, nC])
  refine lP rfl ?_
  (try simp only [Act.put, nA, nB, nC])
  refine lM rfl rfl ?_
  (try simp only [Act.put, nA, nB, nC])
  first | refine lQ rfl ?_ | refine lP rfl ?_ | fail
  (try simp only [Act.put, nA, nB, nC])
  ((refine ⟨?_⟩; (((refine sL1 hS rfl rfl rfl ?_))); refine WL.h ?_))
  (try simp only [Act.put, nA, nB, nC])
  first | refine lQ rfl ?_ | refine lP rfl ?_ | fail
  (try simp only [Act.put, nA, nB, nC])
  ((refine ⟨?_⟩; (((refine sL1 hS rfl rfl rfl ?_))); refine WL.h ?_))
  (try simp only [Act.put, nA, nB, nC])
  ((refine ⟨?_⟩; (refine st_call rfl (by kernel_rfl) rfl ?_; go_at_call 73; refine (sameB_n HL.out.1.te (HX.out.1.tent.ext hS.toExt) (HX.out.2.tent.ext hS.toExt) (by omega)).mono ?_; rintro e w ⟨rfl, hx1⟩; replace hS := hS.ext hx1; clear hx1); refine WL.h ?_))
  (try simp only [Act.put, nA, nB, nC])
  first | refine lQ rfl ?_ | refine lP rfl ?_ | fail
  (try simp only [Act.put, nA, nB, nC])
  refine lP rfl ?_
  (try simp only [Act.put, nA, nB, nC])
  refine lM rfl rfl ?_
  (try simp only [Act.put, nA, nB, nC])
  first | refine lQ rfl ?_ | refine lP rfl ?_ | fail
  (try simp only [Act.put, nA, nB, nC])
  ((refine ⟨?_⟩; (((refine sL1 hS rfl rfl rfl ?_))); refine WL.h ?_))
  (try simp only [Act.put, nA, nB, nC])
  first | refine lQ rfl ?_ | refine lP rfl ?_ | fail
  (try simp only [Act.put, nA, nB, nC])
  ((refine ⟨?_⟩; (((refine sL1 hS rfl rfl rfl ?_))); refine WL.h ?_))
  (try simp only [Act.put, nA, nB, nC])
  ((refine ⟨?_⟩; (refine st_call rfl (by kernel_rfl) rfl ?_; go_at_call 31; refine (sameI_n HL.out.1.a (HX.out.1.aw.ext hS.toExt) (HX.out.2.aw.ext hS.toExt) (by omega)).mono ?_; rintro e w ⟨rfl, hx1⟩; replace hS := hS.ext hx1; clear hx1); refine WL.h ?_))
  (try simp only [Act.put, nA, nB, nC])
  first | refine lQ rfl ?_ | refine lP rfl ?_ | fail
  (try simp only [Act.put, nA, nB, nC])
  refine lP rfl ?_
  (try simp only [Act.put, nA, nB, nC])
  refine lM rfl rfl ?_
  (try simp only [Act.put, nA, nB, nC])
  first | refine lQ rfl ?_ | refine lP rfl ?_ | fail
  (try simp only [Act.put, nA, nB, nC])
  ((refine ⟨?_⟩; (((refine sL1 hS rfl rfl rfl ?_))); refine WL.h ?_))
  (try simp only [Act.put, nA, nB, nC])
  first | refine lQ rfl ?_ | refine lP rfl ?_ | fail
  (try simp only [Act.put, nA, nB, nC])
  ((refine ⟨?_⟩; (((refine sL1 hS rfl rfl rfl ?_))); refine WL.h ?_))
  (try simp only [Act.put, nA, nB, nC])
  ((refine ⟨?_⟩; (refine st_call rfl (by kernel_rfl) rfl ?_; go_at_call 73; refine (sameB_n HL.out.1.r (HX.out.1.ref.ext hS.toExt) (HX.out.2.ref.ext hS.toExt) (by omega)).mono ?_; rintro e w ⟨rfl, hx1⟩; replace hS := hS.ext hx1; clear hx1); refine WL.h ?_))
  (try simp only [Act.put, nA, nB, nC])
  first | refine lQ rfl ?_ | refine lP rfl ?_ | fail
  (try simp only [Act.put, nA, nB, nC])
  refine lP rfl ?_
  (try simp only [Act.put, nA, nB, nC])
  refine lM rfl rfl ?_
  (try simp only [Act.put, nA, nB, nC])
  first | refine lQ rfl ?_ | refine lP rfl ?_ | fail
  (try simp only [Act.put, nA, nB, nC])
  ((refine ⟨?_⟩; (((refine sL1 hS rfl rfl rfl ?_))); refine WL.h ?_))
  (try simp only [Act.put, nA, nB, nC])
  first | refine lQ rfl ?_ | refine lP rfl ?_ | fail
  (try simp only [Act.put, nA, nB, nC])
  ((refine ⟨?_⟩; (((refine sL1 hS rfl rfl rfl ?_))); refine WL.h ?_))
  (try simp only [Act.put, nA, nB, nC])
  ((refine ⟨?_⟩; (refine st_call rfl (by kernel_rfl) rfl ?_; go_at_call 74; refine (sameL_n HLC.out ((HX.out.1.ext hS.toExt).ch) ((HX.out.2.ext hS.toExt).ch) (by omega) HL.out.2.1).mono ?_; rintro e w ⟨rfl, hx1⟩; replace hS := hS.ext hx1; clear hx1); refine WL.h ?_))
  (try simp only [Act.put, nA, nB, nC])
  first | refine lQ rfl ?_ | refine lP rfl ?_ | fail
  (try simp only [Act.put, nA, nB, nC])
  refine lP rfl ?_
  (try simp only [Act.put, nA, nB, nC])
  refine lM rfl rfl ?_
  (try simp only [Act.put, nA, nB, nC])
  first | refine lQ rfl ?_ | refine lP rfl ?_ | fail
  (try simp only [Act.put, nA, nB, nC])
  ((refine ⟨?_⟩; (((refine sL1 hS rfl rfl rfl ?_))); refine WL.h ?_))
  (try simp only [Act.put, nA, nB, nC])
  first | refine lQ rfl ?_ | refine lP rfl ?_ | fail
  (try simp only [Act.put, nA, nB, nC])
  ((refine ⟨?_⟩; (((refine sL1 hS rfl rfl rfl ?_))); refine WL.h ?_))
  (try simp only [Act.put, nA, nB, nC])
  ((refine ⟨?_⟩; (refine st_call rfl (by kernel_rfl) rfl ?_; go_at_call 31; refine (sameI_n HL.out.1.d (HX.out.1.dec.ext hS.toExt) (HX.out.2.dec.ext hS.toExt) (by omega)).mono ?_; rintro e w ⟨rfl, hx1⟩; replace hS := hS.ext hx1; clear hx1); refine WL.h ?_))
  (try simp only [Act.put, nA, nB, nC])
  first | refine lQ rfl ?_ | refine lP rfl ?_ | fail
  (try simp only [Act.put, nA, nB, nC])
  refine lP rfl ?_
  (try simp only [Act.put, nA, nB, nC])
  refine lM rfl rfl ?_
  (try simp only [Act.put, nA, nB, nC])
  first | refine lQ rfl ?_ | refine lP rfl ?_ | fail
  (try simp only [Act.put, nA, nB, nC])
  ((refine ⟨?_⟩; (((refine sL1 hS rfl rfl rfl ?_))); refine WL.h ?_))
  (try simp only [Act.put, nA, nB, nC])
  first | refine lQ rfl ?_ | refine lP rfl ?_ | fail
  (try simp only [Act.put, nA, nB, nC])
  first | refine lQ rfl ?_ | refine lP rfl ?_ | fail
  (try simp only [Act.put, nA, nB, nC])
  ((refine ⟨?_⟩; (((refine sL1 hS rfl rfl rfl ?_))); refine WL.h ?_))
  (try simp only [Act.put, nA, nB, nC])
  first | refine lQ rfl ?_ | refine lP rfl ?_ | fail
  (try simp only [Act.put, nA, nB, nC])
  first | refine lQ rfl ?_ | refine lP rfl ?_ | fail
  (try simp only [Act.put, nA, nB, nC])
  refine lP rfl ?_
  (try simp only [Act.put, nA, nB, nC])
  refine lZ ?_
  clear e1 e2
  go_wp2_with (fail)
  go_loopw [5] (fun s5 wr => ∃ i : Nat, i ≤ nf ∧ s5 = .int .i64 i ∧ St w0 NoM [blk g2 [.slice B1 p.len.length d1, .slice B2 p.ck.length d2, .slice B3 p.arcs.length d3, .int .i64 (root : Int), .slice UB n ud, .slice PB n pd, .slice EB n ed, .slice WB n wd, .slice RB0 n rd, .slice CB n cd, .slice DB n dd, .slice FB nf fd] 55, blk g1 [.slice A1 p.len.length c1, .slice A2 p.ck.length c2, .slice A3 p.arcs.length c3, .int .i64 (root : Int), .slice UA n uc, .slice PA n pc, .slice EA n ec, .slice WA n wc, .slice RA0 n rc, .slice CA n cc, .slice DA n dc, .slice FA nf fc] 55] wr) (fun s5 _ => nf - (intOf s5).toNat)
  case atStart => exact ⟨0, by omega, rfl, hS.re⟩
  case round =>
    clear hS
    obtain ⟨i, hi, rfl, hS⟩ := hrel
    by_cases hlt : i < nf
    · have hlt' : (i : Int) < (nf : Int) := by omega
      have hil : i < fl.length := by rw [HNF.out]; exact hlt
      obtain ⟨b1, o1, h1, _, hca⟩ := nt_cells HX.out.1.fl (i := i) hil
      obtain ⟨b2, o2, h2, _, hcb⟩ := nt_cells HX.out.2.fl (i := i) hil
      simp only at h1 h2 hca hcb
      subst h1 h2
      generalize fl[i] = z at *
      obtain ⟨zk, zf, zt⟩ := z
      simp only at hca hcb
      go_wp2_with (((refine oL ?_; ((refine sL1 hS rfl rfl rfl ?_)))))
      refine dr_start0 []  hS (by kernel_rfl) rfl ?_; clear hS; intro w hS
      refine dP hS 0 rfl rfl ?_
      (try simp only [Act.put, nA, nB, nC])
      (refine dL1 hS 1 rfl rfl rfl rfl ?_)
      (try simp only [Act.put, nA, nB, nC])
      refine dM hS 2 rfl rfl rfl ?_
      (try simp only [Act.put, nA, nB, nC])
      refine dP hS 3 rfl rfl ?_
      (try simp only [Act.put, nA, nB, nC])
      (refine dL3 hS 4 rfl rfl rfl ?_)
      (try simp only [Act.put, nA, nB, nC])
      refine dP hS 5 rfl rfl ?_
      (try simp only [Act.put, nA, nB, nC])
      (refine dL1 hS 6 rfl rfl rfl rfl ?_)
      (try simp only [Act.put, nA, nB, nC])
      refine dM hS 7 rfl rfl rfl ?_
      (try simp only [Act.put, nA, nB, nC])
      refine dP hS 8 rfl rfl ?_
      (try simp only [Act.put, nA, nB, nC])
      (refine dL3 hS 9 rfl rfl rfl ?_)
      (try simp only [Act.put, nA, nB, nC])
      refine dP hS 10 rfl rfl ?_
      (try simp only [Act.put, nA, nB, nC])
      refine dr_done (by kernel_rfl) ?_
      go_wp2_with (fail)
      go_roundw
      case measure => simp [intOf]; omega
      exact ⟨i + 1, by omega, by go_num, hS.re⟩
    · have hlt' : ¬ (i : Int) < (nf : Int) := by omega
      go_wp2_with (((refine oL ?_; ((refine sL1 hS rfl rfl rfl ?_)))))
      go_ret
      exact ⟨rfl, hS.toExt⟩
end Go.Proofs.Ytmjmdncdmmcmaaa

