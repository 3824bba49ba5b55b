/- The reference's Append: an event that receives a message. Conditions: a pattern of at most 5 processes and 255 messages, the event and the message in range. -/
import Derived.Test.YtkflmichekpfbaaRefApp
import Derived.Deep.DeepCutAuto
import Derived.Deep.RegionLaw
import Derived.BigRegion
namespace Go.Proofs.Ytkflmichekpfbaa
open Go.RowKit
set_option linter.unusedVariables false

set_option maxRecDepth 100000 in
set_option maxHeartbeats 1600000 in
theorem rappend_recv {S : Nat → Prop} (A1 A2 A3 : Option Addr) (c1 c2 c3 : Nat) (p : Pat) (q : Nat) (w : World) (h1 : RI S w A1 p.len) (h3 : RA S w A3 p.arcs) (hn5 : p.len.length ≤ 5) (hfew : p.arcs.length ≤ 256) (hq : q < p.len.length) (hlt : nth p.len q < 64) (h0 : 0 ≤ nth p.len q) (s : Nat) (k : Int) (hs : s < p.len.length) (hsq : s ≠ q) (hk0 : 0 ≤ k) (hks : k ≤ nth p.len s) (hk64 : k ≤ 64) (hf : p.arcs.length < 256) :
    Calls Try.prog 32 #[.agg #[.slice A1 p.len.length c1, .slice A2 p.ck.length c2, .slice A3 p.arcs.length c3], .int .i64 (q : Int), .int .i64 (s : Int), .int .i64 k] w (AppRes w ((p.more q).send ⟨s, k, q, nth p.len q + 1⟩) A2 c2) := by
  obtain ⟨b1, o1, rfl, hc1⟩ := h1.atN hq
  have hq' : (q : Int) < p.len.length := by omega
  have f1 := cell_a2 hc1
  have f3 := cell_a3 hc1
  have f4 := cell_a4 hc1
  obtain ⟨vs, hbv, hbr⟩ := h3
  generalize hy : nth p.len q = y at *
  go_enter Try.func32, Try.ntmps32
  go_upto_region 3 with (go_in)
  obtain ⟨W, hW⟩ : ∃ W : World, W = ((w.alloc (.cells #[.slice (some ⟨b1, o1, none⟩) p.len.length c1, .slice A2 p.ck.length c2, .slice A3 p.arcs.length c3] 28)).alloc (.cells #[.slice none 0 0, .slice none 0 0, .slice none 0 0] 28)).alloc (.cells #[.slice (some ⟨b1, o1, none⟩) p.len.length c1, .slice A2 p.ck.length c2, .slice A3 p.arcs.length c3] 28) := ⟨_, rfl⟩
  rw [← hW]
  have hx : Ext w W := by rw [hW]; exact (((Ext.refl' w).alloc' _).alloc' _).alloc' _
  have hsz : W.heap.size = w.heap.size + 3 := by rw [hW]; simp
  have g0 : W.cell? ⟨w.heap.size, 0, none⟩ = some (.slice (some ⟨b1, o1, none⟩) p.len.length c1) := by rw [hW]; exact cell_of_heap (heap3 w _ _ _).1 rfl
  have g1 : W.cell? ⟨w.heap.size, 1, none⟩ = some (.slice A2 p.ck.length c2) := by rw [hW]; exact cell_of_heap (heap3 w _ _ _).1 rfl
  have g2 : W.cell? ⟨w.heap.size, 2, none⟩ = some (.slice A3 p.arcs.length c3) := by rw [hW]; exact cell_of_heap (heap3 w _ _ _).1 rfl
  have hres0 : W.heap[w.heap.size + 1]? = some (.cells #[.slice none 0 0, .slice none 0 0, .slice none 0 0] 28 (0, 0)) := by rw [hW]; exact (heap3 w _ _ _).2.1
  have HRES := Lib.hid hres0
  have hbox0 : W.heap[w.heap.size]? = some (.cells #[.slice (some ⟨b1, o1, none⟩) p.len.length c1, .slice A2 p.ck.length c2, .slice A3 p.arcs.length c3] 28 (0, 0)) := by rw [hW]; exact (heap3 w _ _ _).1
  have HBOX := Lib.hid hbox0
  clear hbox0
  clear hres0
  have hl1 := h1.ext hx
  have hl3 := hbv.ext hx
  have hvl := hbr.length
  have HSZ := Lib.hid hsz
  have hszl : w.heap.size + 3 ≤ W.heap.size := by omega
  clear f1 f3 f4 hW hsz
  have hE0 := Ext.refl' W
  go_cut [10] (fun s10 wx => ∃ g L1 k1 L3 k3, s10 = .pointer (some ⟨g, 0, none⟩) ∧ AppCut W wx g L1 k1 L3 k3 A2 c2 p vs)
  case first =>
    go_region_held3 (fun w' => Ext W w' ∧ w'.cell? ⟨w.heap.size, 0, none⟩ = some (.slice (some ⟨b1, o1, none⟩) p.len.length c1) ∧ w'.cell? ⟨w.heap.size, 1, none⟩ = some (.slice A2 p.ck.length c2) ∧ w'.cell? ⟨w.heap.size, 2, none⟩ = some (.slice A3 p.arcs.length c3))
      (first | (exact ⟨hE0.drew', g0, g1, g2⟩) | (exact have hF := hE3.alloc' _; ⟨hF, hF.cell g0, hF.cell g1, hF.cell g2⟩) | (exact ⟨hE3, hE3.cell g0, hE3.cell g1, hE3.cell g2⟩) | (exact have hF := hE1.alloc' _; ⟨hF, hF.cell g0, hF.cell g1, hF.cell g2⟩) | (exact ⟨hE1, hE1.cell g0, hE1.cell g1, hE1.cell g2⟩) | (exact have hF := hE0.drew'.alloc' _; ⟨hF, hF.cell g0, hF.cell g1, hF.cell g2⟩) | (exact have hF := ext_set3 hE3 hE1.le _ _ _; ⟨hF, hF.cell g0, hF.cell g1, hF.cell g2⟩) | (exact have hF := ext_set3 hE3 (Nat.le_refl _) _ _ _; ⟨hF, hF.cell g0, hF.cell g1, hF.cell g2⟩))
      (first | (obtain ⟨hE, _⟩ := ‹Ext W _ ∧ _›; refine step_app ety_int rfl _ _ (by rfl) (by rfl) (ownsRow_nil _ W.heap.size _ _) (by rfl) (by simp) (RI.ext hl1 hE) (oneCell_ints _) (by omega) hE.le ?_; intro v1 w1 hown1 happ1; obtain ⟨L1, k1, rfl, hk1, hk1'⟩ := own_form hown1; have hE1 := hE.trans' happ1.extNil; obtain ⟨hc1, hf1⟩ := bcellE happ1.extNil; have hlt1 := happ1.extNil.lt_) | (obtain ⟨hE, _⟩ := ‹Ext W _ ∧ _›; refine step_app ety_arc rfl _ _ (by rfl) (by rfl) (ownsRow_nil _ W.heap.size _ _) (by rfl) hvl (RV.ext hl3 hE) (hbr.all repArc.one) (by omega) hE.le ?_; intro v3 w3 hown3 happ3; obtain ⟨L3, k3, rfl, hk3, hk3'⟩ := own_form hown3; have hE3 := hE.trans' happ3.extNil; obtain ⟨hc3, hf3⟩ := bcellE happ3.extNil))
    all_goals go_wp2_with fail
    all_goals go_meet
    all_goals
      have ho1 : w1.ownsRow W.heap.size 3 1 (.slice L1 p.len.length k1) p.len.length (ints p.len) := by simpa using hown1
      have ho3 : w3.ownsRow W.heap.size 57 4 (.slice L3 p.arcs.length k3) p.arcs.length vs := by simpa using hown3
      have hE13 := happ3.extNil
    · exact ⟨w3.heap.size, L1, k1, L3, k3, rfl, hE3.le, heap_new _ _, (own_ext ho1 hE13).alloc _, ho3.alloc _, hE3.alloc' _⟩
    · have hb : w3.heap[w1.heap.size]? = some (.cells #[.slice none 0 0, .slice none 0 0, .slice none 0 0] 28 (0, 0)) := (hE13.block _ (by simp)).trans (heap_new _ _)
      exact ⟨w1.heap.size, L1, k1, L3, k3, rfl, hE1.le, set3 hb _ _ _, own_set3 (own_ext (ho1.alloc _) hE13) hb (by decide) _ _ _, own_set3 ho3 hb (by decide) _ _ _, ext_set3 hE3 hE1.le _ _ _⟩
    · have hb1 : w1.heap[W.heap.size]? = some (.cells #[.slice none 0 0, .slice none 0 0, .slice none 0 0] 28 (0, 0)) := (happ1.extNil.block _ (by simp)).trans (heap_new _ _)
      have hb : w3.heap[W.heap.size]? = some (.cells #[.slice none 0 0, .slice none 0 0, .slice none 0 0] 28 (0, 0)) := (hE13.block _ (lt_of_block hb1)).trans hb1
      exact ⟨W.heap.size, L1, k1, L3, k3, rfl, Nat.le_refl _, set3 hb _ _ _, own_set3 (own_ext ho1 hE13) hb (by decide) _ _ _, own_set3 ho3 hb (by decide) _ _ _, ext_set3 hE3 (Nat.le_refl _) _ _ _⟩
  case rest =>
    obtain ⟨g, L1, k1, L3, k3, rfl, hge, hblk, hlen, harcs, hext⟩ := hcut
    obtain ⟨gl, k1', hv, hgl, hkl, hkl'⟩ := own_some hlen (by omega)
    injection hv with hL _ hcc
    subst hL; subst hcc
    have hx2 := hx.trans' hext
    have r0 := cell_of_heap (j := 0) hblk rfl
    have r1 := cell_of_heap (j := 1) hblk rfl
    have r2 := cell_of_heap (j := 2) hblk rfl
    have hlc : wc.cell? ⟨gl, q, none⟩ = some (.int .i64 y) := (hlen.cellAt q (by omega)).trans (by rw [List.getElem?_map, List.getElem?_eq_getElem hq, ← nth_eq hq, hy]; rfl)
    have hlf := hlen.frozenAt q
    obtain ⟨cur, hcur⟩ := own_heap hlen
    have hgne : g ≠ gl := fun e => own_ne hlen hblk (by decide) (by rw [e]; rfl)
    have hst : (wc.setCell ⟨gl, q, none⟩ (.int .i64 (y + 1))).ownsRow W.heap.size 3 1 (.slice (some ⟨gl, 0, none⟩) p.len.length k1) p.len.length (ints (p.more q).len) := by
      have := (hlen.stored q (.int .i64 (y + 1))).1
      rw [Pat.more, hy, ints, List.map_set]; exact this
    have hst3 := own_set harcs hcur (by decide) q (.int .i64 (y + 1))
    have hb2 : (wc.setCell ⟨gl, q, none⟩ (.int .i64 (y + 1))).heap[g]? = some (.cells #[.slice (some ⟨gl, 0, none⟩) p.len.length k1, .slice A2 p.ck.length c2, .slice L3 p.arcs.length k3] 28 (0, 0)) := (Below.heap_setCell _ _ _ _ hgne).trans hblk
    have hres : wc.heap[w.heap.size + 1]? = some (.cells #[.slice none 0 0, .slice none 0 0, .slice none 0 0] 28 (0, 0)) := (hext.block _ (by omega)).trans HRES.out
    have hres2 : (wc.setCell ⟨gl, q, none⟩ (.int .i64 (y + 1))).heap[w.heap.size + 1]? = some (.cells #[.slice none 0 0, .slice none 0 0, .slice none 0 0] 28 (0, 0)) := (Below.heap_setCell _ _ _ _ (by show w.heap.size + 1 ≠ gl; omega)).trans hres
    have e0 : (wc.setCell ⟨gl, q, none⟩ (.int .i64 (y + 1))).cell? ⟨g, 0, none⟩ = some (.slice (some ⟨gl, 0, none⟩) p.len.length k1) := cell_of_heap hb2 rfl
    have e1 : (wc.setCell ⟨gl, q, none⟩ (.int .i64 (y + 1))).cell? ⟨g, 1, none⟩ = some (.slice A2 p.ck.length c2) := cell_of_heap hb2 rfl
    have e2 : (wc.setCell ⟨gl, q, none⟩ (.int .i64 (y + 1))).cell? ⟨g, 2, none⟩ = some (.slice L3 p.arcs.length k3) := cell_of_heap hb2 rfl
    have z0 : (wc.setCell ⟨gl, q, none⟩ (.int .i64 (y + 1))).cell? ⟨w.heap.size + 1, 0, none⟩ = some (.slice none 0 0) := cell_of_heap hres2 rfl
    have z1 : (wc.setCell ⟨gl, q, none⟩ (.int .i64 (y + 1))).cell? ⟨w.heap.size + 1, 1, none⟩ = some (.slice none 0 0) := cell_of_heap hres2 rfl
    have z2 : (wc.setCell ⟨gl, q, none⟩ (.int .i64 (y + 1))).cell? ⟨w.heap.size + 1, 2, none⟩ = some (.slice none 0 0) := cell_of_heap hres2 rfl
    have zf := fun j => frozen_of_heap hres2 j
    clear hres hcur hblk
    have hsq1 : ((s : Int) == (q : Int)) = false := beq_eq_false_iff_ne.2 (by omega)
    have hsm1 : ((s : Int) == -1) = false := beq_eq_false_iff_ne.2 (by omega)
    have hs' : (s : Int) < p.len.length := by omega
    obtain ⟨_, _, e9, hcs⟩ := h1.atN hs
    injection e9 with e9
    injection e9 with e9 e10
    subst e9; subst e10
    have hxs := hx2.setCell' (p := ⟨gl, q, none⟩) (by show w.heap.size ≤ gl; omega) (.int .i64 (y + 1))
    have hcs2 := hxs.cell hcs
    have hcs3 := cell_a1 hcs2
    have hbx : (wc.setCell ⟨gl, q, none⟩ (.int .i64 (y + 1))).heap[w.heap.size]? = some (.cells #[.slice (some ⟨b1, o1, none⟩) p.len.length c1, .slice A2 p.ck.length c2, .slice A3 p.arcs.length c3] 28 (0, 0)) := (Below.heap_setCell _ _ _ _ (by show w.heap.size ≠ gl; omega)).trans ((hext.block _ (by omega)).trans HBOX.out)
    have x0 : (wc.setCell ⟨gl, q, none⟩ (.int .i64 (y + 1))).cell? ⟨w.heap.size, 0, none⟩ = some (.slice (some ⟨b1, o1, none⟩) p.len.length c1) := cell_of_heap hbx rfl
    have x1 : (wc.setCell ⟨gl, q, none⟩ (.int .i64 (y + 1))).cell? ⟨w.heap.size, 1, none⟩ = some (.slice A2 p.ck.length c2) := cell_of_heap hbx rfl
    have x2 : (wc.setCell ⟨gl, q, none⟩ (.int .i64 (y + 1))).cell? ⟨w.heap.size, 2, none⟩ = some (.slice A3 p.arcs.length c3) := cell_of_heap hbx rfl
    have x0a := cell_a1 x0
    have x2a := cell_a1 x2
    generalize nth p.len s = ys at *
    clear hcs
    go_upto_region 9 with (go_in)
    obtain ⟨W3, hW3⟩ : ∃ W3 : World, W3 = (wc.setCell ⟨gl, q, none⟩ (.int .i64 (y + 1))).alloc (.cells #[.slice (some ⟨b1, o1, none⟩) p.len.length c1, .slice A2 p.ck.length c2, .slice A3 p.arcs.length c3] 28) := ⟨_, rfl⟩
    rw [← hW3]
    have hxa := (Ext.refl' (wc.setCell ⟨gl, q, none⟩ (.int .i64 (y + 1)))).alloc' (.cells #[.slice (some ⟨b1, o1, none⟩) p.len.length c1, .slice A2 p.ck.length c2, .slice A3 p.arcs.length c3] 28)
    rw [← hW3] at hxa
    have hb3 : W3.heap[g]? = some (.cells #[.slice (some ⟨gl, 0, none⟩) p.len.length k1, .slice A2 p.ck.length c2, .slice L3 p.arcs.length k3] 28 (0, 0)) := (hxa.block _ (lt_of_block hb2)).trans hb2
    have hres3 := (hxa.block _ (lt_of_block hres2)).trans hres2
    have hl3' := own_ext hst hxa
    have ha3' := own_ext hst3 hxa
    have hx3 := hxs.trans' hxa
    have i0 : W3.cell? ⟨g, 0, none⟩ = some (.slice (some ⟨gl, 0, none⟩) p.len.length k1) := cell_of_heap hb3 rfl
    have i2 : W3.cell? ⟨g, 2, none⟩ = some (.slice L3 p.arcs.length k3) := cell_of_heap hb3 rfl
    have i3 : W3.cell? ⟨gl, q, none⟩ = some (.int .i64 (y + 1)) := (hl3'.cellAt q (by omega)).trans (by rw [List.getElem?_map, List.getElem?_eq_getElem (by rw [Pat.more_length]; exact hq), ← nth_eq (by rw [Pat.more_length]; exact hq), nth_more hq, if_pos rfl, hy]; rfl)
    have i4 := frozen_of_heap hb3 2
    clear hW3 hxa x0 x1 x2 x0a x2a hcs2 hcs3 e0 e1 e2 z0 z1 z2 zf hb2 hbx hres2 hst hst3 hxs r0 r1 r2 hlc hlf hlen harcs
    have hq' : (q : Int) < p.len.length := by omega
    have hq0 : (0 : Int) ≤ (q : Int) := by omega
    have hWle : W.heap.size ≤ W3.heap.size := by have := lt_of_block hb3; omega
    have hne3 := own_ne ha3' hb3 (by decide)
    have i0a := cell_a1 i0
    have i2a := cell_a1 i2
    have i3a := cell_a1 i3
    have hbk := heap_keep hb3
    have HBK := Lib.hid hbk
    clear hbk
    go_region_law (first | (refine step_app ety_arc rfl _ _ (by rfl) (by rfl) ((ha3'.alloc _).drew) (A := some ⟨W3.heap.size, 0, none⟩) (m := 1) (c := 1) (news := arcCells ⟨s, k, q, y + 1⟩) (by rfl) (by rfl) (RV.new W3 _ _) (by simp [arcCells, Value.oneCell']) (by omega) (by simp; omega) ?_; intro v5 w5 hown5 happ5; have hb5 := happ5.blk (HBK.out _) hne3; have j2 := cell_of_heap (j := 2) hb5 rfl; have j4 := frozen_of_heap hb5 2; obtain ⟨L5, k5, rfl, hk5, hk5'⟩ := own_form hown5))
    all_goals
      have hresA := happ5.blk (heap_keep hres3 _) (own_ne ha3' hres3 (by decide))
      have happ6 := happ5.undrew
      have hlen5 := own_app (hl3'.alloc _) (ha3'.alloc _) (by decide) happ6
      have hx5 := hx3.app ((Ext.refl' W3).alloc' _) happ6 (fun k hk => by have := own_block ha3' k hk; have := hx.le; omega)
      have hown5' : w5.ownsRow W.heap.size 57 4 (.slice L5 (p.arcs.length + 1) k5) (p.arcs.length + 1) (vs ++ arcCells ⟨s, k, q, y + 1⟩) := hown5
      have hne5 : w.heap.size + 1 ≠ g := by omega
      have hb6 := set3at2 hb5 (.slice L5 (p.arcs.length + 1) k5)
      have hres6 := heap_far (j := 2) hresA hne5 (.slice L5 (p.arcs.length + 1) k5)
      have hlen6 := own_set hlen5 hb5 (by decide) 2 (.slice L5 (p.arcs.length + 1) k5)
      have harc6 := own_set hown5' hb5 (by decide) 2 (.slice L5 (p.arcs.length + 1) k5)
      have hx6 := hx5.setCell' (p := ⟨g, 2, none⟩) (by show w.heap.size ≤ g; have := hx.le; omega) (.slice L5 (p.arcs.length + 1) k5)
      have s0 : (w5.setCell ⟨g, 2, none⟩ (.slice L5 (p.arcs.length + 1) k5)).cell? ⟨g, 0, none⟩ = some (.slice (some ⟨gl, 0, none⟩) p.len.length k1) := cell_of_heap hb6 rfl
      have s1 : (w5.setCell ⟨g, 2, none⟩ (.slice L5 (p.arcs.length + 1) k5)).cell? ⟨g, 1, none⟩ = some (.slice A2 p.ck.length c2) := cell_of_heap hb6 rfl
      have s2 : (w5.setCell ⟨g, 2, none⟩ (.slice L5 (p.arcs.length + 1) k5)).cell? ⟨g, 2, none⟩ = some (.slice L5 (p.arcs.length + 1) k5) := cell_of_heap hb6 rfl
      have z0 : (w5.setCell ⟨g, 2, none⟩ (.slice L5 (p.arcs.length + 1) k5)).cell? ⟨w.heap.size + 1, 0, none⟩ = some (.slice none 0 0) := cell_of_heap hres6 rfl
      have z1 : (w5.setCell ⟨g, 2, none⟩ (.slice L5 (p.arcs.length + 1) k5)).cell? ⟨w.heap.size + 1, 1, none⟩ = some (.slice none 0 0) := cell_of_heap hres6 rfl
      have z2 : (w5.setCell ⟨g, 2, none⟩ (.slice L5 (p.arcs.length + 1) k5)).cell? ⟨w.heap.size + 1, 2, none⟩ = some (.slice none 0 0) := cell_of_heap hres6 rfl
      have zf := fun j => frozen_of_heap hres6 j
      have hx7 := ext_set3 hx6 (g := w.heap.size + 1) (by omega) (.slice (some ⟨gl, 0, none⟩) p.len.length k1) (.slice A2 p.ck.length c2) (.slice L5 (p.arcs.length + 1) k5)
      have hlen7 := own_set3 hlen6 hres6 (by decide) (.slice (some ⟨gl, 0, none⟩) p.len.length k1) (.slice A2 p.ck.length c2) (.slice L5 (p.arcs.length + 1) k5)
      have harc7 := own_set3 harc6 hres6 (by decide) (.slice (some ⟨gl, 0, none⟩) p.len.length k1) (.slice A2 p.ck.length c2) (.slice L5 (p.arcs.length + 1) k5)
      have hfinal : Reps (repArc w) 4 (vs ++ arcCells ⟨s, k, q, y + 1⟩) (p.arcs ++ [⟨s, k, q, y + 1⟩]) := (hbr.mono (fun _ _ h => h)).snoc rfl rfl
      clear hresA hlen5 hx5 hown5 hown5' hb6 hres6 hlen6 harc6 hx6 hb5 happ5 happ6 i0 i2 i3 i0a i2a i3a
      go_wp2_with fail
      refine bodyPost_ret (v := .tuple #[.agg #[.slice (some ⟨gl, 0, none⟩) p.len.length k1, .slice A2 p.ck.length c2, .slice L5 (p.arcs.length + 1) k5], .bool true]) (by simp [results, Try.results32, go_sem, z0, z1, z2]) rfl ?_
      have hal : ((p.more q).send ⟨s, k, q, y + 1⟩).arcs.length = p.arcs.length + 1 := by simp [Pat.send, Pat.more]
      have hll : ((p.more q).send ⟨s, k, q, y + 1⟩).len.length = p.len.length := Pat.more_length p q
      refine ⟨some ⟨gl, 0, none⟩, k1, L5, k5, vs ++ arcCells ⟨s, k, q, y + 1⟩, by rw [hal, hll]; rfl, ?_, ?_, hfinal.mono (fun _ _ h => h), hx7⟩
      · rw [hll]; exact own_base hlen7 hx.le
      · rw [hal]; exact own_base harc7 hx.le
end Go.Proofs.Ytkflmichekpfbaa
