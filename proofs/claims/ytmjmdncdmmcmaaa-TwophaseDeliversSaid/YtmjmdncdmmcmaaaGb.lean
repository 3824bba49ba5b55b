/- The reference's Append: an event without a message. Conditions: a pattern of at most 5 processes and 256 messages, room for the event. -/
import Derived.Test.YtmjmdncdmmcmaaaGa
import Derived.Deep.DeepCutAuto
import Derived.Deep.RegionLaw
import Derived.BigRegion
namespace Go.Proofs.Ytmjmdncdmmcmaaa
open Go.RowKit
set_option linter.unusedVariables false

/-- what the copy of a pattern leaves -/
structure AppCut (W wx : World) (g : Nat) (L1 : Option Addr) (k1 : Nat) (L3 : Option Addr) (k3 : Nat) (A2 : Option Addr) (c2 : Nat) (p : Pat) (vs : List Value) : Prop where
  ge : W.heap.size ≤ g
  blk : wx.heap[g]? = some (.cells #[.slice L1 p.len.length k1, .slice A2 p.ck.length c2, .slice L3 p.arcs.length k3] 44 (0, 0))
  len : wx.ownsRow W.heap.size 3 1 (.slice L1 p.len.length k1) p.len.length (ints p.len)
  arcs : wx.ownsRow W.heap.size 84 4 (.slice L3 p.arcs.length k3) p.arcs.length vs
  ext : Ext W wx

/-- a new pattern p' whose checkpoints lie where those of the old one lie -/
def AppRes (w : World) (p' : Pat) (A2 : Option Addr) (c2 : Nat) (e : Ending) (w' : World) : Prop :=
  ∃ L1 k1 L3 k3 vs, e = .returned (.tuple #[.agg #[.slice L1 p'.len.length k1, .slice A2 p'.ck.length c2, .slice L3 p'.arcs.length k3], .bool true]) ∧ w'.ownsRow w.heap.size 3 1 (.slice L1 p'.len.length k1) p'.len.length (ints p'.len) ∧
        w'.ownsRow w.heap.size 84 4 (.slice L3 p'.arcs.length k3) p'.arcs.length vs ∧ Reps (repArc w') 4 vs p'.arcs ∧ Ext w w'

set_option maxRecDepth 100000 in
set_option maxHeartbeats 1600000 in
theorem rappend_event {S : Nat → Prop} (A1 A2 A3 : Option Addr) (c1 c2 c3 : Nat) (p : Pat) (q : Nat) (w : World) (h1 : RI S w A1 p.len) (h3 : RA S w A3 p.arcs) (hn5 : p.len.length ≤ 5) (hfew : p.arcs.length ≤ 256) (hq : q < p.len.length) (hlt : nth p.len q < 64) (h0 : 0 ≤ nth p.len q) :
    Calls Try.prog 116 #[.agg #[.slice A1 p.len.length c1, .slice A2 p.ck.length c2, .slice A3 p.arcs.length c3], .int .i64 (q : Int), .int .i64 (-1), .int .i64 0] w (AppRes w (p.more q) A2 c2) := by
  obtain ⟨b1, o1, rfl, hc1⟩ := h1.atN hq
  have hq' : (q : Int) < p.len.length := by omega
  have f1 := cell_a2 hc1
  have f3 := cell_a3 hc1
  have f4 := cell_a4 hc1
  obtain ⟨vs, hbv, hbr⟩ := h3
  generalize hy : nth p.len q = y at *
  go_enter Try.func116, Try.ntmps116
  go_upto_region 3 with (go_in)
  obtain ⟨W, hW⟩ : ∃ W : World, W = ((w.alloc (.cells #[.slice (some ⟨b1, o1, none⟩) p.len.length c1, .slice A2 p.ck.length c2, .slice A3 p.arcs.length c3] 44)).alloc (.cells #[.slice none 0 0, .slice none 0 0, .slice none 0 0] 44)).alloc (.cells #[.slice (some ⟨b1, o1, none⟩) p.len.length c1, .slice A2 p.ck.length c2, .slice A3 p.arcs.length c3] 44) := ⟨_, rfl⟩
  rw [← hW]
  have hx : Ext w W := by rw [hW]; exact (((Ext.refl' w).alloc' _).alloc' _).alloc' _
  have hsz : W.heap.size = w.heap.size + 3 := by rw [hW]; simp
  have g0 : W.cell? ⟨w.heap.size, 0, none⟩ = some (.slice (some ⟨b1, o1, none⟩) p.len.length c1) := by rw [hW]; exact cell_of_heap (heap3 w _ _ _).1 rfl
  have g1 : W.cell? ⟨w.heap.size, 1, none⟩ = some (.slice A2 p.ck.length c2) := by rw [hW]; exact cell_of_heap (heap3 w _ _ _).1 rfl
  have g2 : W.cell? ⟨w.heap.size, 2, none⟩ = some (.slice A3 p.arcs.length c3) := by rw [hW]; exact cell_of_heap (heap3 w _ _ _).1 rfl
  have hres0 : W.heap[w.heap.size + 1]? = some (.cells #[.slice none 0 0, .slice none 0 0, .slice none 0 0] 44 (0, 0)) := by rw [hW]; exact (heap3 w _ _ _).2.1
  have HRES := Lib.hid hres0
  clear hres0
  have hl1 := h1.ext hx
  have hl3 := hbv.ext hx
  have hvl := hbr.length
  have HSZ := Lib.hid hsz
  have hszl : w.heap.size + 3 ≤ W.heap.size := by omega
  clear f1 f3 f4 hW hsz
  have hE0 := Ext.refl' W
  go_cut [10] (fun s10 wx => ∃ g L1 k1 L3 k3, s10 = .pointer (some ⟨g, 0, none⟩) ∧ AppCut W wx g L1 k1 L3 k3 A2 c2 p vs)
  case first =>
    go_region_held3 (fun w' => Ext W w' ∧ w'.cell? ⟨w.heap.size, 0, none⟩ = some (.slice (some ⟨b1, o1, none⟩) p.len.length c1) ∧ w'.cell? ⟨w.heap.size, 1, none⟩ = some (.slice A2 p.ck.length c2) ∧ w'.cell? ⟨w.heap.size, 2, none⟩ = some (.slice A3 p.arcs.length c3))
      (first | (exact ⟨hE0.drew', g0, g1, g2⟩) | (exact have hF := hE3.alloc' _; ⟨hF, hF.cell g0, hF.cell g1, hF.cell g2⟩) | (exact ⟨hE3, hE3.cell g0, hE3.cell g1, hE3.cell g2⟩) | (exact have hF := hE1.alloc' _; ⟨hF, hF.cell g0, hF.cell g1, hF.cell g2⟩) | (exact ⟨hE1, hE1.cell g0, hE1.cell g1, hE1.cell g2⟩) | (exact have hF := hE0.drew'.alloc' _; ⟨hF, hF.cell g0, hF.cell g1, hF.cell g2⟩) | (exact have hF := ext_set3 hE3 hE1.le _ _ _; ⟨hF, hF.cell g0, hF.cell g1, hF.cell g2⟩) | (exact have hF := ext_set3 hE3 (Nat.le_refl _) _ _ _; ⟨hF, hF.cell g0, hF.cell g1, hF.cell g2⟩))
      (first | (obtain ⟨hE, _⟩ := ‹Ext W _ ∧ _›; refine step_app ety_int rfl _ _ (by rfl) (by rfl) (ownsRow_nil _ W.heap.size _ _) (by rfl) (by simp) (RI.ext hl1 hE) (oneCell_ints _) (by omega) hE.le ?_; intro v1 w1 hown1 happ1; obtain ⟨L1, k1, rfl, hk1, hk1'⟩ := own_form hown1; have hE1 := hE.trans' happ1.extNil; obtain ⟨hc1, hf1⟩ := bcellE happ1.extNil; have hlt1 := happ1.extNil.lt_) | (obtain ⟨hE, _⟩ := ‹Ext W _ ∧ _›; refine step_app ety_arc rfl _ _ (by rfl) (by rfl) (ownsRow_nil _ W.heap.size _ _) (by rfl) hvl (RV.ext hl3 hE) (hbr.all repArc.one) (by omega) hE.le ?_; intro v3 w3 hown3 happ3; obtain ⟨L3, k3, rfl, hk3, hk3'⟩ := own_form hown3; have hE3 := hE.trans' happ3.extNil; obtain ⟨hc3, hf3⟩ := bcellE happ3.extNil))
    all_goals go_wp2_with fail
    all_goals go_meet
    all_goals
      have ho1 : w1.ownsRow W.heap.size 3 1 (.slice L1 p.len.length k1) p.len.length (ints p.len) := by simpa using hown1
      have ho3 : w3.ownsRow W.heap.size 84 4 (.slice L3 p.arcs.length k3) p.arcs.length vs := by simpa using hown3
      have hE13 := happ3.extNil
    · exact ⟨w3.heap.size, L1, k1, L3, k3, rfl, hE3.le, heap_new _ _, (own_ext ho1 hE13).alloc _, ho3.alloc _, hE3.alloc' _⟩
    · have hb : w3.heap[w1.heap.size]? = some (.cells #[.slice none 0 0, .slice none 0 0, .slice none 0 0] 44 (0, 0)) := (hE13.block _ (by simp)).trans (heap_new _ _)
      exact ⟨w1.heap.size, L1, k1, L3, k3, rfl, hE1.le, set3 hb _ _ _, own_set3 (own_ext (ho1.alloc _) hE13) hb (by decide) _ _ _, own_set3 ho3 hb (by decide) _ _ _, ext_set3 hE3 hE1.le _ _ _⟩
    · have hb1 : w1.heap[W.heap.size]? = some (.cells #[.slice none 0 0, .slice none 0 0, .slice none 0 0] 44 (0, 0)) := (happ1.extNil.block _ (by simp)).trans (heap_new _ _)
      have hb : w3.heap[W.heap.size]? = some (.cells #[.slice none 0 0, .slice none 0 0, .slice none 0 0] 44 (0, 0)) := (hE13.block _ (lt_of_block hb1)).trans hb1
      exact ⟨W.heap.size, L1, k1, L3, k3, rfl, Nat.le_refl _, set3 hb _ _ _, own_set3 (own_ext ho1 hE13) hb (by decide) _ _ _, own_set3 ho3 hb (by decide) _ _ _, ext_set3 hE3 (Nat.le_refl _) _ _ _⟩
  case rest =>
    obtain ⟨g, L1, k1, L3, k3, rfl, hge, hblk, hlen, harcs, hext⟩ := hcut
    obtain ⟨gl, k1', hv, hgl, hkl, hkl'⟩ := own_some hlen (by omega)
    injection hv with hL _ hcc
    subst hL; subst hcc
    have hx2 := hx.trans' hext
    have r0 := cell_of_heap (j := 0) hblk rfl
    have r1 := cell_of_heap (j := 1) hblk rfl
    have r2 := cell_of_heap (j := 2) hblk rfl
    have hlc : wc.cell? ⟨gl, q, none⟩ = some (.int .i64 y) := (hlen.cellAt q (by omega)).trans (by rw [List.getElem?_map, List.getElem?_eq_getElem hq, ← nth_eq hq, hy]; rfl)
    have hlf := hlen.frozenAt q
    obtain ⟨cur, hcur⟩ := own_heap hlen
    have hgne : g ≠ gl := fun e => own_ne hlen hblk (by decide) (by rw [e]; rfl)
    have hst : (wc.setCell ⟨gl, q, none⟩ (.int .i64 (y + 1))).ownsRow W.heap.size 3 1 (.slice (some ⟨gl, 0, none⟩) p.len.length k1) p.len.length (ints (p.more q).len) := by
      have := (hlen.stored q (.int .i64 (y + 1))).1
      rw [Pat.more, hy, ints, List.map_set]; exact this
    have hst3 := own_set harcs hcur (by decide) q (.int .i64 (y + 1))
    have hb2 : (wc.setCell ⟨gl, q, none⟩ (.int .i64 (y + 1))).heap[g]? = some (.cells #[.slice (some ⟨gl, 0, none⟩) p.len.length k1, .slice A2 p.ck.length c2, .slice L3 p.arcs.length k3] 44 (0, 0)) := (Below.heap_setCell _ _ _ _ hgne).trans hblk
    have hres : wc.heap[w.heap.size + 1]? = some (.cells #[.slice none 0 0, .slice none 0 0, .slice none 0 0] 44 (0, 0)) := (hext.block _ (by omega)).trans HRES.out
    have hres2 : (wc.setCell ⟨gl, q, none⟩ (.int .i64 (y + 1))).heap[w.heap.size + 1]? = some (.cells #[.slice none 0 0, .slice none 0 0, .slice none 0 0] 44 (0, 0)) := (Below.heap_setCell _ _ _ _ (by show w.heap.size + 1 ≠ gl; omega)).trans hres
    have e0 : (wc.setCell ⟨gl, q, none⟩ (.int .i64 (y + 1))).cell? ⟨g, 0, none⟩ = some (.slice (some ⟨gl, 0, none⟩) p.len.length k1) := cell_of_heap hb2 rfl
    have e1 : (wc.setCell ⟨gl, q, none⟩ (.int .i64 (y + 1))).cell? ⟨g, 1, none⟩ = some (.slice A2 p.ck.length c2) := cell_of_heap hb2 rfl
    have e2 : (wc.setCell ⟨gl, q, none⟩ (.int .i64 (y + 1))).cell? ⟨g, 2, none⟩ = some (.slice L3 p.arcs.length k3) := cell_of_heap hb2 rfl
    have z0 : (wc.setCell ⟨gl, q, none⟩ (.int .i64 (y + 1))).cell? ⟨w.heap.size + 1, 0, none⟩ = some (.slice none 0 0) := cell_of_heap hres2 rfl
    have z1 : (wc.setCell ⟨gl, q, none⟩ (.int .i64 (y + 1))).cell? ⟨w.heap.size + 1, 1, none⟩ = some (.slice none 0 0) := cell_of_heap hres2 rfl
    have z2 : (wc.setCell ⟨gl, q, none⟩ (.int .i64 (y + 1))).cell? ⟨w.heap.size + 1, 2, none⟩ = some (.slice none 0 0) := cell_of_heap hres2 rfl
    have zf := fun j => frozen_of_heap hres2 j
    clear hres hcur hblk
    have hx3 := ext_set3 (hx2.setCell' (p := ⟨gl, q, none⟩) (by show w.heap.size ≤ gl; omega) (.int .i64 (y + 1))) (g := w.heap.size + 1) (by omega) (.slice (some ⟨gl, 0, none⟩) p.len.length k1) (.slice A2 p.ck.length c2) (.slice L3 p.arcs.length k3)
    have hst' := own_set3 hst hres2 (by decide) (.slice (some ⟨gl, 0, none⟩) p.len.length k1) (.slice A2 p.ck.length c2) (.slice L3 p.arcs.length k3)
    have hst3' := own_set3 hst3 hres2 (by decide) (.slice (some ⟨gl, 0, none⟩) p.len.length k1) (.slice A2 p.ck.length c2) (.slice L3 p.arcs.length k3)
    go_wp2_with fail
    refine bodyPost_ret (v := .tuple #[.agg #[.slice (some ⟨gl, 0, none⟩) p.len.length k1, .slice A2 p.ck.length c2, .slice L3 p.arcs.length k3], .bool true]) (by simp [results, Try.results116, go_sem, z0, z1, z2]) rfl ?_
    refine ⟨some ⟨gl, 0, none⟩, k1, L3, k3, vs, by rw [Pat.more_length]; rfl, ?_, ?_, hbr, hx3⟩
    · rw [Pat.more_length]; exact own_base hst' hx.le
    · exact own_base hst3' hx.le
end Go.Proofs.Ytmjmdncdmmcmaaa

/- The reference's Append: an event that receives a message. Conditions: a pattern of at most 5 processes and 255 messages, the event and the message in range. -/
namespace Go.Proofs.Ytmjmdncdmmcmaaa
open Go.RowKit
set_option linter.unusedVariables false

set_option maxRecDepth 100000 in
set_option maxHeartbeats 1600000 in
theorem rappend_recv {S : Nat → Prop} (A1 A2 A3 : Option Addr) (c1 c2 c3 : Nat) (p : Pat) (q : Nat) (w : World) (h1 : RI S w A1 p.len) (h3 : RA S w A3 p.arcs) (hn5 : p.len.length ≤ 5) (hfew : p.arcs.length ≤ 256) (hq : q < p.len.length) (hlt : nth p.len q < 64) (h0 : 0 ≤ nth p.len q) (s : Nat) (k : Int) (hs : s < p.len.length) (hsq : s ≠ q) (hk0 : 0 ≤ k) (hks : k ≤ nth p.len s) (hk64 : k ≤ 64) (hf : p.arcs.length < 256) :
    Calls Try.prog 116 #[.agg #[.slice A1 p.len.length c1, .slice A2 p.ck.length c2, .slice A3 p.arcs.length c3], .int .i64 (q : Int), .int .i64 (s : Int), .int .i64 k] w (AppRes w ((p.more q).send ⟨s, k, q, nth p.len q + 1⟩) A2 c2) := by
  obtain ⟨b1, o1, rfl, hc1⟩ := h1.atN hq
  have hq' : (q : Int) < p.len.length := by omega
  have f1 := cell_a2 hc1
  have f3 := cell_a3 hc1
  have f4 := cell_a4 hc1
  obtain ⟨vs, hbv, hbr⟩ := h3
  generalize hy : nth p.len q = y at *
  go_enter Try.func116, Try.ntmps116
  go_upto_region 3 with (go_in)
  obtain ⟨W, hW⟩ : ∃ W : World, W = ((w.alloc (.cells #[.slice (some ⟨b1, o1, none⟩) p.len.length c1, .slice A2 p.ck.length c2, .slice A3 p.arcs.length c3] 44)).alloc (.cells #[.slice none 0 0, .slice none 0 0, .slice none 0 0] 44)).alloc (.cells #[.slice (some ⟨b1, o1, none⟩) p.len.length c1, .slice A2 p.ck.length c2, .slice A3 p.arcs.length c3] 44) := ⟨_, rfl⟩
  rw [← hW]
  have hx : Ext w W := by rw [hW]; exact (((Ext.refl' w).alloc' _).alloc' _).alloc' _
  have hsz : W.heap.size = w.heap.size + 3 := by rw [hW]; simp
  have g0 : W.cell? ⟨w.heap.size, 0, none⟩ = some (.slice (some ⟨b1, o1, none⟩) p.len.length c1) := by rw [hW]; exact cell_of_heap (heap3 w _ _ _).1 rfl
  have g1 : W.cell? ⟨w.heap.size, 1, none⟩ = some (.slice A2 p.ck.length c2) := by rw [hW]; exact cell_of_heap (heap3 w _ _ _).1 rfl
  have g2 : W.cell? ⟨w.heap.size, 2, none⟩ = some (.slice A3 p.arcs.length c3) := by rw [hW]; exact cell_of_heap (heap3 w _ _ _).1 rfl
  have hres0 : W.heap[w.heap.size + 1]? = some (.cells #[.slice none 0 0, .slice none 0 0, .slice none 0 0] 44 (0, 0)) := by rw [hW]; exact (heap3 w _ _ _).2.1
  have HRES := Lib.hid hres0
  have hbox0 : W.heap[w.heap.size]? = some (.cells #[.slice (some ⟨b1, o1, none⟩) p.len.length c1, .slice A2 p.ck.length c2, .slice A3 p.arcs.length c3] 44 (0, 0)) := by rw [hW]; exact (heap3 w _ _ _).1
  have HBOX := Lib.hid hbox0
  clear hbox0
  clear hres0
  have hl1 := h1.ext hx
  have hl3 := hbv.ext hx
  have hvl := hbr.length
  have HSZ := Lib.hid hsz
  have hszl : w.heap.size + 3 ≤ W.heap.size := by omega
  clear f1 f3 f4 hW hsz
  have hE0 := Ext.refl' W
  go_cut [10] (fun s10 wx => ∃ g L1 k1 L3 k3, s10 = .pointer (some ⟨g, 0, none⟩) ∧ AppCut W wx g L1 k1 L3 k3 A2 c2 p vs)
  case first =>
    go_region_held3 (fun w' => Ext W w' ∧ w'.cell? ⟨w.heap.size, 0, none⟩ = some (.slice (some ⟨b1, o1, none⟩) p.len.length c1) ∧ w'.cell? ⟨w.heap.size, 1, none⟩ = some (.slice A2 p.ck.length c2) ∧ w'.cell? ⟨w.heap.size, 2, none⟩ = some (.slice A3 p.arcs.length c3))
      (first | (exact ⟨hE0.drew', g0, g1, g2⟩) | (exact have hF := hE3.alloc' _; ⟨hF, hF.cell g0, hF.cell g1, hF.cell g2⟩) | (exact ⟨hE3, hE3.cell g0, hE3.cell g1, hE3.cell g2⟩) | (exact have hF := hE1.alloc' _; ⟨hF, hF.cell g0, hF.cell g1, hF.cell g2⟩) | (exact ⟨hE1, hE1.cell g0, hE1.cell g1, hE1.cell g2⟩) | (exact have hF := hE0.drew'.alloc' _; ⟨hF, hF.cell g0, hF.cell g1, hF.cell g2⟩) | (exact have hF := ext_set3 hE3 hE1.le _ _ _; ⟨hF, hF.cell g0, hF.cell g1, hF.cell g2⟩) | (exact have hF := ext_set3 hE3 (Nat.le_refl _) _ _ _; ⟨hF, hF.cell g0, hF.cell g1, hF.cell g2⟩))
      (first | (obtain ⟨hE, _⟩ := ‹Ext W _ ∧ _›; refine step_app ety_int rfl _ _ (by rfl) (by rfl) (ownsRow_nil _ W.heap.size _ _) (by rfl) (by simp) (RI.ext hl1 hE) (oneCell_ints _) (by omega) hE.le ?_; intro v1 w1 hown1 happ1; obtain ⟨L1, k1, rfl, hk1, hk1'⟩ := own_form hown1; have hE1 := hE.trans' happ1.extNil; obtain ⟨hc1, hf1⟩ := bcellE happ1.extNil; have hlt1 := happ1.extNil.lt_) | (obtain ⟨hE, _⟩ := ‹Ext W _ ∧ _›; refine step_app ety_arc rfl _ _ (by rfl) (by rfl) (ownsRow_nil _ W.heap.size _ _) (by rfl) hvl (RV.ext hl3 hE) (hbr.all repArc.one) (by omega) hE.le ?_; intro v3 w3 hown3 happ3; obtain ⟨L3, k3, rfl, hk3, hk3'⟩ := own_form hown3; have hE3 := hE.trans' happ3.extNil; obtain ⟨hc3, hf3⟩ := bcellE happ3.extNil))
    all_goals go_wp2_with fail
    all_goals go_meet
    all_goals
      have ho1 : w1.ownsRow W.heap.size 3 1 (.slice L1 p.len.length k1) p.len.length (ints p.len) := by simpa using hown1
      have ho3 : w3.ownsRow W.heap.size 84 4 (.slice L3 p.arcs.length k3) p.arcs.length vs := by simpa using hown3
      have hE13 := happ3.extNil
    · exact ⟨w3.heap.size, L1, k1, L3, k3, rfl, hE3.le, heap_new _ _, (own_ext ho1 hE13).alloc _, ho3.alloc _, hE3.alloc' _⟩
    · have hb : w3.heap[w1.heap.size]? = some (.cells #[.slice none 0 0, .slice none 0 0, .slice none 0 0] 44 (0, 0)) := (hE13.block _ (by simp)).trans (heap_new _ _)
      exact ⟨w1.heap.size, L1, k1, L3, k3, rfl, hE1.le, set3 hb _ _ _, own_set3 (own_ext (ho1.alloc _) hE13) hb (by decide) _ _ _, own_set3 ho3 hb (by decide) _ _ _, ext_set3 hE3 hE1.le _ _ _⟩
    · have hb1 : w1.heap[W.heap.size]? = some (.cells #[.slice none 0 0, .slice none 0 0, .slice none 0 0] 44 (0, 0)) := (happ1.extNil.block _ (by simp)).trans (heap_new _ _)
      have hb : w3.heap[W.heap.size]? = some (.cells #[.slice none 0 0, .slice none 0 0, .slice none 0 0] 44 (0, 0)) := (hE13.block _ (lt_of_block hb1)).trans hb1
      exact ⟨W.heap.size, L1, k1, L3, k3, rfl, Nat.le_refl _, set3 hb _ _ _, own_set3 (own_ext ho1 hE13) hb (by decide) _ _ _, own_set3 ho3 hb (by decide) _ _ _, ext_set3 hE3 (Nat.le_refl _) _ _ _⟩
  case rest =>
    obtain ⟨g, L1, k1, L3, k3, rfl, hge, hblk, hlen, harcs, hext⟩ := hcut
    obtain ⟨gl, k1', hv, hgl, hkl, hkl'⟩ := own_some hlen (by omega)
    injection hv with hL _ hcc
    subst hL; subst hcc
    have hx2 := hx.trans' hext
    have r0 := cell_of_heap (j := 0) hblk rfl
    have r1 := cell_of_heap (j := 1) hblk rfl
    have r2 := cell_of_heap (j := 2) hblk rfl
    have hlc : wc.cell? ⟨gl, q, none⟩ = some (.int .i64 y) := (hlen.cellAt q (by omega)).trans (by rw [List.getElem?_map, List.getElem?_eq_getElem hq, ← nth_eq hq, hy]; rfl)
    have hlf := hlen.frozenAt q
    obtain ⟨cur, hcur⟩ := own_heap hlen
    have hgne : g ≠ gl := fun e => own_ne hlen hblk (by decide) (by rw [e]; rfl)
    have hst : (wc.setCell ⟨gl, q, none⟩ (.int .i64 (y + 1))).ownsRow W.heap.size 3 1 (.slice (some ⟨gl, 0, none⟩) p.len.length k1) p.len.length (ints (p.more q).len) := by
      have := (hlen.stored q (.int .i64 (y + 1))).1
      rw [Pat.more, hy, ints, List.map_set]; exact this
    have hst3 := own_set harcs hcur (by decide) q (.int .i64 (y + 1))
    have hb2 : (wc.setCell ⟨gl, q, none⟩ (.int .i64 (y + 1))).heap[g]? = some (.cells #[.slice (some ⟨gl, 0, none⟩) p.len.length k1, .slice A2 p.ck.length c2, .slice L3 p.arcs.length k3] 44 (0, 0)) := (Below.heap_setCell _ _ _ _ hgne).trans hblk
    have hres : wc.heap[w.heap.size + 1]? = some (.cells #[.slice none 0 0, .slice none 0 0, .slice none 0 0] 44 (0, 0)) := (hext.block _ (by omega)).trans HRES.out
    have hres2 : (wc.setCell ⟨gl, q, none⟩ (.int .i64 (y + 1))).heap[w.heap.size + 1]? = some (.cells #[.slice none 0 0, .slice none 0 0, .slice none 0 0] 44 (0, 0)) := (Below.heap_setCell _ _ _ _ (by show w.heap.size + 1 ≠ gl; omega)).trans hres
    have e0 : (wc.setCell ⟨gl, q, none⟩ (.int .i64 (y + 1))).cell? ⟨g, 0, none⟩ = some (.slice (some ⟨gl, 0, none⟩) p.len.length k1) := cell_of_heap hb2 rfl
    have e1 : (wc.setCell ⟨gl, q, none⟩ (.int .i64 (y + 1))).cell? ⟨g, 1, none⟩ = some (.slice A2 p.ck.length c2) := cell_of_heap hb2 rfl
    have e2 : (wc.setCell ⟨gl, q, none⟩ (.int .i64 (y + 1))).cell? ⟨g, 2, none⟩ = some (.slice L3 p.arcs.length k3) := cell_of_heap hb2 rfl
    have z0 : (wc.setCell ⟨gl, q, none⟩ (.int .i64 (y + 1))).cell? ⟨w.heap.size + 1, 0, none⟩ = some (.slice none 0 0) := cell_of_heap hres2 rfl
    have z1 : (wc.setCell ⟨gl, q, none⟩ (.int .i64 (y + 1))).cell? ⟨w.heap.size + 1, 1, none⟩ = some (.slice none 0 0) := cell_of_heap hres2 rfl
    have z2 : (wc.setCell ⟨gl, q, none⟩ (.int .i64 (y + 1))).cell? ⟨w.heap.size + 1, 2, none⟩ = some (.slice none 0 0) := cell_of_heap hres2 rfl
    have zf := fun j => frozen_of_heap hres2 j
    clear hres hcur hblk
    have hsq1 : ((s : Int) == (q : Int)) = false := beq_eq_false_iff_ne.2 (by omega)
    have hsm1 : ((s : Int) == -1) = false := beq_eq_false_iff_ne.2 (by omega)
    have hs' : (s : Int) < p.len.length := by omega
    obtain ⟨_, _, e9, hcs⟩ := h1.atN hs
    injection e9 with e9
    injection e9 with e9 e10
    subst e9; subst e10
    have hxs := hx2.setCell' (p := ⟨gl, q, none⟩) (by show w.heap.size ≤ gl; omega) (.int .i64 (y + 1))
    have hcs2 := hxs.cell hcs
    have hcs3 := cell_a1 hcs2
    have hbx : (wc.setCell ⟨gl, q, none⟩ (.int .i64 (y + 1))).heap[w.heap.size]? = some (.cells #[.slice (some ⟨b1, o1, none⟩) p.len.length c1, .slice A2 p.ck.length c2, .slice A3 p.arcs.length c3] 44 (0, 0)) := (Below.heap_setCell _ _ _ _ (by show w.heap.size ≠ gl; omega)).trans ((hext.block _ (by omega)).trans HBOX.out)
    have x0 : (wc.setCell ⟨gl, q, none⟩ (.int .i64 (y + 1))).cell? ⟨w.heap.size, 0, none⟩ = some (.slice (some ⟨b1, o1, none⟩) p.len.length c1) := cell_of_heap hbx rfl
    have x1 : (wc.setCell ⟨gl, q, none⟩ (.int .i64 (y + 1))).cell? ⟨w.heap.size, 1, none⟩ = some (.slice A2 p.ck.length c2) := cell_of_heap hbx rfl
    have x2 : (wc.setCell ⟨gl, q, none⟩ (.int .i64 (y + 1))).cell? ⟨w.heap.size, 2, none⟩ = some (.slice A3 p.arcs.length c3) := cell_of_heap hbx rfl
    have x0a := cell_a1 x0
    have x2a := cell_a1 x2
    generalize nth p.len s = ys at *
    clear hcs
    go_upto_region 9 with (go_in)
    obtain ⟨W3, hW3⟩ : ∃ W3 : World, W3 = (wc.setCell ⟨gl, q, none⟩ (.int .i64 (y + 1))).alloc (.cells #[.slice (some ⟨b1, o1, none⟩) p.len.length c1, .slice A2 p.ck.length c2, .slice A3 p.arcs.length c3] 44) := ⟨_, rfl⟩
    rw [← hW3]
    have hxa := (Ext.refl' (wc.setCell ⟨gl, q, none⟩ (.int .i64 (y + 1)))).alloc' (.cells #[.slice (some ⟨b1, o1, none⟩) p.len.length c1, .slice A2 p.ck.length c2, .slice A3 p.arcs.length c3] 44)
    rw [← hW3] at hxa
    have hb3 : W3.heap[g]? = some (.cells #[.slice (some ⟨gl, 0, none⟩) p.len.length k1, .slice A2 p.ck.length c2, .slice L3 p.arcs.length k3] 44 (0, 0)) := (hxa.block _ (lt_of_block hb2)).trans hb2
    have hres3 := (hxa.block _ (lt_of_block hres2)).trans hres2
    have hl3' := own_ext hst hxa
    have ha3' := own_ext hst3 hxa
    have hx3 := hxs.trans' hxa
    have i0 : W3.cell? ⟨g, 0, none⟩ = some (.slice (some ⟨gl, 0, none⟩) p.len.length k1) := cell_of_heap hb3 rfl
    have i2 : W3.cell? ⟨g, 2, none⟩ = some (.slice L3 p.arcs.length k3) := cell_of_heap hb3 rfl
    have i3 : W3.cell? ⟨gl, q, none⟩ = some (.int .i64 (y + 1)) := (hl3'.cellAt q (by omega)).trans (by rw [List.getElem?_map, List.getElem?_eq_getElem (by rw [Pat.more_length]; exact hq), ← nth_eq (by rw [Pat.more_length]; exact hq), nth_more hq, if_pos rfl, hy]; rfl)
    have i4 := frozen_of_heap hb3 2
    clear hW3 hxa x0 x1 x2 x0a x2a hcs2 hcs3 e0 e1 e2 z0 z1 z2 zf hb2 hbx hres2 hst hst3 hxs r0 r1 r2 hlc hlf hlen harcs
    have hq' : (q : Int) < p.len.length := by omega
    have hq0 : (0 : Int) ≤ (q : Int) := by omega
    have hWle : W.heap.size ≤ W3.heap.size := by have := lt_of_block hb3; omega
    have hne3 := own_ne ha3' hb3 (by decide)
    have i0a := cell_a1 i0
    have i2a := cell_a1 i2
    have i3a := cell_a1 i3
    have hbk := heap_keep hb3
    have HBK := Lib.hid hbk
    clear hbk
    go_region_law (first | (refine step_app ety_arc rfl _ _ (by rfl) (by rfl) ((ha3'.alloc _).drew) (A := some ⟨W3.heap.size, 0, none⟩) (m := 1) (c := 1) (news := arcCells ⟨s, k, q, y + 1⟩) (by rfl) (by rfl) (RV.new W3 _ _) (by simp [arcCells, Value.oneCell']) (by omega) (by simp; omega) ?_; intro v5 w5 hown5 happ5; have hb5 := happ5.blk (HBK.out _) hne3; have j2 := cell_of_heap (j := 2) hb5 rfl; have j4 := frozen_of_heap hb5 2; obtain ⟨L5, k5, rfl, hk5, hk5'⟩ := own_form hown5))
    all_goals
      have hresA := happ5.blk (heap_keep hres3 _) (own_ne ha3' hres3 (by decide))
      have happ6 := happ5.undrew
      have hlen5 := own_app (hl3'.alloc _) (ha3'.alloc _) (by decide) happ6
      have hx5 := hx3.app ((Ext.refl' W3).alloc' _) happ6 (fun k hk => by have := own_block ha3' k hk; have := hx.le; omega)
      have hown5' : w5.ownsRow W.heap.size 84 4 (.slice L5 (p.arcs.length + 1) k5) (p.arcs.length + 1) (vs ++ arcCells ⟨s, k, q, y + 1⟩) := hown5
      have hne5 : w.heap.size + 1 ≠ g := by omega
      have hb6 := set3at2 hb5 (.slice L5 (p.arcs.length + 1) k5)
      have hres6 := heap_far (j := 2) hresA hne5 (.slice L5 (p.arcs.length + 1) k5)
      have hlen6 := own_set hlen5 hb5 (by decide) 2 (.slice L5 (p.arcs.length + 1) k5)
      have harc6 := own_set hown5' hb5 (by decide) 2 (.slice L5 (p.arcs.length + 1) k5)
      have hx6 := hx5.setCell' (p := ⟨g, 2, none⟩) (by show w.heap.size ≤ g; have := hx.le; omega) (.slice L5 (p.arcs.length + 1) k5)
      have s0 : (w5.setCell ⟨g, 2, none⟩ (.slice L5 (p.arcs.length + 1) k5)).cell? ⟨g, 0, none⟩ = some (.slice (some ⟨gl, 0, none⟩) p.len.length k1) := cell_of_heap hb6 rfl
      have s1 : (w5.setCell ⟨g, 2, none⟩ (.slice L5 (p.arcs.length + 1) k5)).cell? ⟨g, 1, none⟩ = some (.slice A2 p.ck.length c2) := cell_of_heap hb6 rfl
      have s2 : (w5.setCell ⟨g, 2, none⟩ (.slice L5 (p.arcs.length + 1) k5)).cell? ⟨g, 2, none⟩ = some (.slice L5 (p.arcs.length + 1) k5) := cell_of_heap hb6 rfl
      have z0 : (w5.setCell ⟨g, 2, none⟩ (.slice L5 (p.arcs.length + 1) k5)).cell? ⟨w.heap.size + 1, 0, none⟩ = some (.slice none 0 0) := cell_of_heap hres6 rfl
      have z1 : (w5.setCell ⟨g, 2, none⟩ (.slice L5 (p.arcs.length + 1) k5)).cell? ⟨w.heap.size + 1, 1, none⟩ = some (.slice none 0 0) := cell_of_heap hres6 rfl
      have z2 : (w5.setCell ⟨g, 2, none⟩ (.slice L5 (p.arcs.length + 1) k5)).cell? ⟨w.heap.size + 1, 2, none⟩ = some (.slice none 0 0) := cell_of_heap hres6 rfl
      have zf := fun j => frozen_of_heap hres6 j
      have hx7 := ext_set3 hx6 (g := w.heap.size + 1) (by omega) (.slice (some ⟨gl, 0, none⟩) p.len.length k1) (.slice A2 p.ck.length c2) (.slice L5 (p.arcs.length + 1) k5)
      have hlen7 := own_set3 hlen6 hres6 (by decide) (.slice (some ⟨gl, 0, none⟩) p.len.length k1) (.slice A2 p.ck.length c2) (.slice L5 (p.arcs.length + 1) k5)
      have harc7 := own_set3 harc6 hres6 (by decide) (.slice (some ⟨gl, 0, none⟩) p.len.length k1) (.slice A2 p.ck.length c2) (.slice L5 (p.arcs.length + 1) k5)
      have hfinal : Reps (repArc w) 4 (vs ++ arcCells ⟨s, k, q, y + 1⟩) (p.arcs ++ [⟨s, k, q, y + 1⟩]) := (hbr.mono (fun _ _ h => h)).snoc rfl rfl
      clear hresA hlen5 hx5 hown5 hown5' hb6 hres6 hlen6 harc6 hx6 hb5 happ5 happ6 i0 i2 i3 i0a i2a i3a
      go_wp2_with fail
      refine bodyPost_ret (v := .tuple #[.agg #[.slice (some ⟨gl, 0, none⟩) p.len.length k1, .slice A2 p.ck.length c2, .slice L5 (p.arcs.length + 1) k5], .bool true]) (by simp [results, Try.results116, go_sem, z0, z1, z2]) rfl ?_
      have hal : ((p.more q).send ⟨s, k, q, y + 1⟩).arcs.length = p.arcs.length + 1 := by simp [Pat.send, Pat.more]
      have hll : ((p.more q).send ⟨s, k, q, y + 1⟩).len.length = p.len.length := Pat.more_length p q
      refine ⟨some ⟨gl, 0, none⟩, k1, L5, k5, vs ++ arcCells ⟨s, k, q, y + 1⟩, by rw [hal, hll]; rfl, ?_, ?_, hfinal.mono (fun _ _ h => h), hx7⟩
      · rw [hll]; exact own_base hlen7 hx.le
      · rw [hal]; exact own_base harc7 hx.le
end Go.Proofs.Ytmjmdncdmmcmaaa

/- The reference's Mark of patterns. Conditions: a pattern of at most 5 processes whose checkpoints ascend. -/
namespace Go.Proofs.Ytmjmdncdmmcmaaa
open Go.RowKit
set_option linter.unusedVariables false

theorem last_mem {l : List Int} {m : Int} (h : RowOk l m) : nth l (l.length - 1) = m ↔ m ∈ l := by
  obtain ⟨r, hl⟩ := h.head
  have hpos : 0 < l.length := by rw [hl]; simp
  constructor
  · intro e; rw [← e, nth_eq (by omega)]; exact List.getElem_mem _
  · intro hm
    obtain ⟨i, hi, e⟩ := List.getElem_of_mem hm
    have hle := h.le _ (List.getElem_mem (l := l) (n := l.length - 1) (by omega))
    rw [nth_eq (by omega)]
    by_cases h1 : i = l.length - 1
    · subst h1; exact e
    · have := List.pairwise_iff_getElem.1 h.asc i (l.length - 1) hi (by omega) (by omega)
      omega

/-- a pattern whose lengths and messages lie where they lay, its checkpoints ck -/
def MarkRes (S : Nat → Prop) (w : World) (p : Pat) (A1 : Option Addr) (c1 : Nat) (A3 : Option Addr) (c3 : Nat) (ck : List (List Int)) (e : Ending) (w' : World) : Prop :=
  ∃ L2 k2, e = .returned (.agg #[.slice A1 p.len.length c1, .slice L2 ck.length k2, .slice A3 p.arcs.length c3]) ∧ RR S w' L2 ck ∧ ck.length ≤ k2 ∧ k2 ≤ 9223372036854775807 ∧ Ext w w'

theorem markRes_of {S : Nat → Prop} {w w' : World} {p : Pat} {A1 A2 A3 : Option Addr} {c1 c2 c3 : Nat} (h2 : RR S w A2 p.ck) (hl2 : p.ck.length ≤ c2) (hc2 : c2 ≤ 9223372036854775807) (hE : Ext w w') :
    MarkRes S w p A1 c1 A3 c3 p.ck (.returned (.agg #[.slice A1 p.len.length c1, .slice A2 p.ck.length c2, .slice A3 p.arcs.length c3])) w' := ⟨A2, c2, rfl, h2.into (Into.ofExt hE), hl2, hc2, hE⟩
set_option maxRecDepth 100000 in
set_option maxHeartbeats 1600000 in
theorem rmark_same {S S1 : Nat → Prop} (A1 A2 A3 : Option Addr) (c1 c2 c3 : Nat) (p : Pat) (q : Nat) (w : World) (h1 : RI S1 w A1 p.len) (h2 : RR S w A2 p.ck) (hl2 : p.ck.length ≤ c2) (hc2 : c2 ≤ 9223372036854775807) (hn5 : p.len.length ≤ 5) (hck : p.ck.length = p.len.length) (hq : q < p.len.length) (hr : RowOk (rowOf p.ck q) (nth p.len q)) (hmem : nth p.len q ∈ rowOf p.ck q) :
    Calls Try.prog 76 #[.agg #[.slice A1 p.len.length c1, .slice A2 p.ck.length c2, .slice A3 p.arcs.length c3], .int .i64 (q : Int)] w (MarkRes S w p A1 c1 A3 c3 p.ck) := by
  have hq2 : q < p.ck.length := by omega
  obtain ⟨b1, o1, rfl, hc1⟩ := h1.atN hq
  obtain ⟨b2, o2, B, cb, rfl, hcr, hlb, hmb, hri⟩ := h2.at_ hq2
  have hlast := (last_mem hr).2 hmem
  obtain ⟨r, hl⟩ := hr.head
  have hpos : 0 < (rowOf p.ck q).length := by rw [hl]; simp
  obtain ⟨b3, o3, rfl, hcl⟩ := hri.atN (k := (rowOf p.ck q).length - 1) (by omega)
  rw [hlast] at hcl
  generalize (rowOf p.ck q).length = m at *
  generalize nth p.len q = y at *
  have f1 := cell_a3 hc1
  have f2 := cell_a3 hcr
  have f3 := cell_a3 hcl
  have hyy : (y == y) = true := by simp
  have hq' : (q : Int) < p.len.length := by omega
  have hq2' : (q : Int) < p.ck.length := by omega
  have hw1 : IntKind.i64.wrap ((m : Int) - 1) = (m : Int) - 1 := IntWalk.i64_in _ (by omega)
  have hw2 : ((m : Int) - 1).toNat = m - 1 := by omega
  have hw3 : (m : Int) - 1 < m := by omega
  have hw4 : 0 ≤ (m : Int) - 1 := by omega
  have hw5 : (1 : Int) ≤ m := by omega
  have HCK := Lib.hid hck
  clear hck hl hlast hr hmem hri
  go_enter Try.func76, Try.ntmps76
  go_wp2
  go_quiet (fail)
  clear hw1 hw2
  go_wp2
  refine bodyPost_ret (v := .agg #[.slice (some ⟨b1, o1, none⟩) p.len.length c1, .slice (some ⟨b2, o2, none⟩) p.ck.length c2, .slice A3 p.arcs.length c3]) (by simp [results, Try.results76, go_sem]) rfl ?_
  refine markRes_of h2 hl2 hc2 ?_
  repeat (first | exact Ext.refl' _ | refine Ext.drewN' ?_ _ | refine Ext.alloc' ?_ _ | refine Ext.setCell' ?_ (by simp) _)

/-- what the copy of the checkpoints leaves -/
structure MarkCut (W wx : World) (g : Nat) (L2 : Option Addr) (k2 : Nat) (A1 : Option Addr) (c1 : Nat) (A3 : Option Addr) (c3 : Nat) (p : Pat) (vs : List Value) : Prop where
  ge : W.heap.size ≤ g
  blk : wx.heap[g]? = some (.cells #[.slice A1 p.len.length c1, .slice L2 p.ck.length k2, .slice A3 p.arcs.length c3] 44 (0, 0))
  row : wx.ownsRow W.heap.size 25 1 (.slice L2 p.ck.length k2) p.ck.length vs
  ext : Ext W wx

set_option maxRecDepth 100000 in
set_option maxHeartbeats 1600000 in
theorem rmark_new {S S1 : Nat → Prop} (A1 A2 A3 : Option Addr) (c1 c2 c3 : Nat) (p : Pat) (q : Nat) (w : World) (hS : ∀ k, w.heap.size ≤ k → S k) (h1 : RI S1 w A1 p.len) (h2 : RR S w A2 p.ck) (hl2 : p.ck.length ≤ c2) (hc2 : c2 ≤ 9223372036854775807) (hn5 : p.len.length ≤ 5) (hck : p.ck.length = p.len.length) (hq : q < p.len.length) (hr : RowOk (rowOf p.ck q) (nth p.len q)) (hsh : (rowOf p.ck q).length ≤ 100) (hmem : ¬ nth p.len q ∈ rowOf p.ck q) :
    Calls Try.prog 76 #[.agg #[.slice A1 p.len.length c1, .slice A2 p.ck.length c2, .slice A3 p.arcs.length c3], .int .i64 (q : Int)] w (MarkRes S w p A1 c1 A3 c3 (p.ck.set q (rowOf p.ck q ++ [nth p.len q]))) := by
  have hq2 : q < p.ck.length := by omega
  obtain ⟨b1, o1, rfl, hc1⟩ := h1.atN hq
  obtain ⟨b2, o2, B, cb, rfl, hcr, hlb, hmb, hri⟩ := h2.at_ hq2
  have hlast : nth (rowOf p.ck q) ((rowOf p.ck q).length - 1) ≠ nth p.len q := fun e => hmem ((last_mem hr).1 e)
  obtain ⟨r, hl⟩ := hr.head
  have hpos : 0 < (rowOf p.ck q).length := by rw [hl]; simp
  obtain ⟨b3, o3, rfl, hcl⟩ := hri.atN (k := (rowOf p.ck q).length - 1) (by omega)
  have hne : (nth (rowOf p.ck q) ((rowOf p.ck q).length - 1) == nth p.len q) = false := beq_eq_false_iff_ne.2 hlast
  clear hl hr hmem hlast
  obtain ⟨m, hm⟩ : ∃ m, (rowOf p.ck q).length = m := ⟨_, rfl⟩
  obtain ⟨y, hy⟩ : ∃ y, nth p.len q = y := ⟨_, rfl⟩
  obtain ⟨z, hz⟩ : ∃ z, nth (rowOf p.ck q) ((rowOf p.ck q).length - 1) = z := ⟨_, rfl⟩
  rw [hz, hm] at hcl
  rw [hz, hy] at hne
  rw [hy] at hc1
  rw [hm] at hcr hlb hpos hsh
  have f1 := cell_a3 hc1
  have f2 := cell_a3 hcr
  have f3 := cell_a3 hcl
  have hq' : (q : Int) < p.len.length := by omega
  have hq2' : (q : Int) < p.ck.length := by omega
  have hw1 : IntKind.i64.wrap ((m : Int) - 1) = (m : Int) - 1 := IntWalk.i64_in _ (by omega)
  have hw2 : ((m : Int) - 1).toNat = m - 1 := by omega
  have hw3 : (m : Int) - 1 < m := by omega
  have hw4 : 0 ≤ (m : Int) - 1 := by omega
  have hw5 : (1 : Int) ≤ m := by omega
  have HCK := Lib.hid hck
  have HM := Lib.hid hm
  have HY := Lib.hid hy
  clear hck hm hy hz
  go_enter Try.func76, Try.ntmps76
  go_wp2
  go_quiet (fail)
  clear hw1 hw2
  go_upto_region 6 with (fail)
  obtain ⟨W, hW⟩ : ∃ W : World, W = (((w.alloc (.cells #[.slice (some ⟨b1, o1, none⟩) p.len.length c1, .slice (some ⟨b2, o2, none⟩) p.ck.length c2, .slice A3 p.arcs.length c3] 44)).alloc (.cells #[.slice none 0 0, .slice none 0 0, .slice none 0 0] 44)).alloc (.cells #[.slice (some ⟨b1, o1, none⟩) p.len.length c1, .slice (some ⟨b2, o2, none⟩) p.ck.length c2, .slice A3 p.arcs.length c3] 44)).drewN nq := ⟨_, rfl⟩
  rw [← hW]
  have hx : Ext w W := by rw [hW]; exact ((((Ext.refl' w).alloc' _).alloc' _).alloc' _).drewN' nq
  have hsz : W.heap.size = w.heap.size + 3 := by rw [hW]; simp
  have hbox : W.heap[w.heap.size]? = some (.cells #[.slice (some ⟨b1, o1, none⟩) p.len.length c1, .slice (some ⟨b2, o2, none⟩) p.ck.length c2, .slice A3 p.arcs.length c3] 44 (0, 0)) := by rw [hW]; exact (heap3 w _ _ _).1
  have hres0 : W.heap[w.heap.size + 1]? = some (.cells #[.slice none 0 0, .slice none 0 0, .slice none 0 0] 44 (0, 0)) := by rw [hW]; exact (heap3 w _ _ _).2.1
  have g0 : W.cell? ⟨w.heap.size, 0, none⟩ = some (.slice (some ⟨b1, o1, none⟩) p.len.length c1) := cell_of_heap hbox rfl
  have g1 : W.cell? ⟨w.heap.size, 1, none⟩ = some (.slice (some ⟨b2, o2, none⟩) p.ck.length c2) := cell_of_heap hbox rfl
  have g2 : W.cell? ⟨w.heap.size, 2, none⟩ = some (.slice A3 p.arcs.length c3) := cell_of_heap hbox rfl
  obtain ⟨vs, hbv, hbr⟩ := h2
  have hbvW := hbv.ext hx
  have hvl := hbr.length
  have hck5 : p.ck.length ≤ 5 := by rw [HCK.out]; exact hn5
  have HRES := Lib.hid hres0
  have HSZ := Lib.hid hsz
  have hszl : w.heap.size + 3 ≤ W.heap.size := by omega
  clear f1 f2 f3 hW hsz hres0 hbox
  have hE0 := Ext.refl' W
  go_cut [6] (fun s6 wx => ∃ g L2 k2, s6 = .pointer (some ⟨g, 0, none⟩) ∧ MarkCut W wx g L2 k2 (some ⟨b1, o1, none⟩) c1 A3 c3 p vs)
  case first =>
    go_region_held3 (fun w' => Ext W w' ∧ w'.cell? ⟨w.heap.size, 0, none⟩ = some (.slice (some ⟨b1, o1, none⟩) p.len.length c1) ∧ w'.cell? ⟨w.heap.size, 1, none⟩ = some (.slice (some ⟨b2, o2, none⟩) p.ck.length c2) ∧ w'.cell? ⟨w.heap.size, 2, none⟩ = some (.slice A3 p.arcs.length c3))
      (first | (exact ⟨hE0.drew', g0, g1, g2⟩) | (exact have hF := hE3.alloc' _; ⟨hF, hF.cell g0, hF.cell g1, hF.cell g2⟩) | (exact ⟨hE3, hE3.cell g0, hE3.cell g1, hE3.cell g2⟩) | (exact have hF := hE0.drew'.alloc' _; ⟨hF, hF.cell g0, hF.cell g1, hF.cell g2⟩) | (exact have hF := ext_set3 hE3 (Nat.le_refl _) _ _ _; ⟨hF, hF.cell g0, hF.cell g1, hF.cell g2⟩))
      (first | (obtain ⟨hE, _⟩ := ‹Ext W _ ∧ _›; refine step_app ety_row rfl _ _ (by rfl) (by rfl) (ownsRow_nil _ W.heap.size _ _) (by rfl) hvl (RV.ext hbvW hE) (hbr.all repRow.one) (by omega) hE.le ?_; intro v3 w3 hown3 happ3; obtain ⟨L2, k2, rfl, hk2, hk2'⟩ := own_form hown3; have hE3 := hE.trans' happ3.extNil; obtain ⟨hc3, hf3⟩ := bcellE happ3.extNil; have hlt3 := happ3.extNil.lt_))
    all_goals go_wp2_with fail
    all_goals go_meet
    all_goals
      have ho3 : w3.ownsRow W.heap.size 25 1 (.slice L2 p.ck.length k2) p.ck.length vs := by simpa using hown3
      have hE13 := happ3.extNil
    · exact ⟨w3.heap.size, L2, k2, rfl, hE3.le, heap_new _ _, ho3.alloc _, hE3.alloc' _⟩
    · have hb : w3.heap[W.heap.size]? = some (.cells #[.slice none 0 0, .slice none 0 0, .slice none 0 0] 44 (0, 0)) := (hE13.block _ (by simp)).trans (heap_new _ _)
      exact ⟨W.heap.size, L2, k2, rfl, Nat.le_refl _, set3 hb _ _ _, own_set3 ho3 hb (by decide) _ _ _, ext_set3 hE3 (Nat.le_refl _) _ _ _⟩
  case rest =>
    obtain ⟨g, L2, k2, rfl, hge, hblk, hrow, hext⟩ := hcut
    obtain ⟨gr, k2', hv, hgr, hkr, hkr'⟩ := own_some hrow (by omega)
    injection hv with hL _ hcc
    subst hL; subst hcc
    have hx2 := hx.trans' hext
    have hgne : g ≠ gr := fun e => own_ne hrow hblk (by decide) (by rw [e]; rfl)
    have hb1 := lt_of_cell hc1
    simp only at hb1
    have n1 : g ≠ gr := hgne
    have n2 : w.heap.size ≠ gr := by omega
    have n3 : b1 ≠ gr := by omega
    have c1' : wc.cell? ⟨g, 1, none⟩ = some (.slice (some ⟨gr, 0, none⟩) p.ck.length k2) := cell_of_heap hblk rfl
    have c2' := hext.cell g0
    have c3' := hx2.cell hc1
    have hrow2 : RI (fun k => k ≠ gr) wc (some ⟨b3, o3, none⟩) (rowOf p.ck q) := RI.into hri (fun k hs hk => ⟨by omega, hx2.block k hk⟩)
    have hK0 : Keep (fun k => k ≠ gr) wc wc.drew := (Keep.refl _ _).drew
    have hrc : wc.cell? ⟨gr, q, none⟩ = vs[q]? := hrow.cellAt q (by omega)
    obtain ⟨u0, hu0⟩ : ∃ u, vs[q]? = some u := ⟨_, List.getElem?_eq_getElem (by omega)⟩
    rw [hu0] at hrc
    have hrf := hrow.frozenAt q
    obtain ⟨cur, hcur⟩ := own_heap hrow
    go_upto_region 7 with (fail)
    go_region_held3 (fun w' => Keep (fun k => k ≠ gr) wc w' ∧ w'.cell? ⟨g, 1, none⟩ = some (.slice (some ⟨gr, 0, none⟩) p.ck.length k2) ∧ w'.cell? ⟨w.heap.size, 0, none⟩ = some (.slice (some ⟨b1, o1, none⟩) p.len.length c1) ∧ w'.cell? ⟨b1, o1 + q, none⟩ = some (.int .i64 y))
      (first | (exact ⟨hK0, c1', c2', c3'⟩) | (exact have hF := hK2.set q _; ⟨hF, hF.cell n1 c1', hF.cell n2 c2', hF.cell n3 c3'⟩) | (exact ⟨hK2, hK2.cell n1 c1', hK2.cell n2 c2', hK2.cell n3 c3'⟩) | (exact have hF := hK1.alloc _; ⟨hF, hF.cell n1 c1', hF.cell n2 c2', hF.cell n3 c3'⟩) | (exact ⟨hK1, hK1.cell n1 c1', hK1.cell n2 c2', hK1.cell n3 c3'⟩) | (exact have hF := hK0.alloc _; ⟨hF, hF.cell n1 c1', hF.cell n2 c2', hF.cell n3 c3'⟩))
      (first | (obtain ⟨hK, _⟩ := ‹Keep _ wc _ ∧ _›; refine step_app ety_int rfl (.const (.slice none 0 0)) (.tmp 41) (by rfl) (by rfl) (ownsRow_nil _ wc.heap.size _ _) (by rfl) (by simp [HM.out]) (RI.keep hrow2 hK) (oneCell_ints _) (by omega) hK.le ?_; intro v1 w1 hown1 happ1; rw [Nat.zero_add, List.nil_append] at hown1; obtain ⟨L1, k1, rfl, hk1, hk1'⟩ := own_form hown1; have hK1 := hK.trans (.ofExt happ1.extNil); have hE1 := happ1.extNil; have q1 : w1.heap[gr]? = some (.cells cur 25 (0, 0)) := (by first | exact (hE1.block gr (lt_of_block hcur)).trans hcur | exact (hE1.block gr (lt_of_block (heap_keep hcur _))).trans (heap_keep hcur _))) | (obtain ⟨hK, _⟩ := ‹Keep _ wc _ ∧ _›; refine step_app ety_int rfl (.tmp 42) (.tmp 48) (by rfl) (by rfl) (hown1.alloc _) (A := some ⟨w1.heap.size, 0, none⟩) (m := 1) (c := 1) (news := [.int .i64 y]) (by rfl) (by rfl) (RV.new _ _ _) (by simp [Value.oneCell']) (by omega) hK.le ?_; intro v2 w2 hown2 happ2; obtain ⟨L5, k5, rfl, hk5, hk5'⟩ := own_form hown2; have hK2 := hK.app happ2 (own_block hown1); have q2 := happ2.blk (heap_keep q1 _) (own_ne hown1 q1 (by decide)); have q3 := (World.cell?_of_block (w := wc) (a := ⟨gr, q, none⟩) (q2.trans hcur.symm)).trans hrc; have q4 := frozen_of_heap q2 q) | (obtain ⟨hK, _⟩ := ‹Keep _ wc _ ∧ _›; refine step_app ety_int rfl (.tmp 42) (.tmp 48) (by rfl) (by rfl) hown1 (A := some ⟨wc.heap.size, 0, none⟩) (m := 1) (c := 1) (news := [.int .i64 y]) (by rfl) (by rfl) ((RV.new wc.drew _ _).ext hE1) (by simp [Value.oneCell']) (by omega) hK.le ?_; intro v2 w2 hown2 happ2; obtain ⟨L5, k5, rfl, hk5, hk5'⟩ := own_form hown2; have hK2 := hK.app happ2 (own_block hown1); have q2 := happ2.blk q1 (own_ne hown1 q1 (by decide)); have q3 := (World.cell?_of_block (w := wc) (a := ⟨gr, q, none⟩) (q2.trans hcur.symm)).trans hrc; have q4 := frozen_of_heap q2 q))
    all_goals
      have hKF := hK2.set q (.slice L5 (m + 1) k5)
      have hxF : Ext w (w2.setCell ⟨gr, q, none⟩ (.slice L5 (m + 1) k5)) := hx2.trans (hKF.below hx2.size (fun k hk => by omega))
      have hgF := (hKF.block g (lt_of_block hblk) n1).trans hblk
      have hrw : wc.heap[w.heap.size + 1]? = some (.cells #[.slice none 0 0, .slice none 0 0, .slice none 0 0] 44 (0, 0)) := (hext.block _ (by omega)).trans HRES.out
      have hrF := (hKF.block (w.heap.size + 1) (lt_of_block hrw) (by omega)).trans hrw
      have ho1 := ((own_at hrow (q2.trans hcur.symm)).stored q (.slice L5 (m + 1) k5)).1
      have ho2 := own_set hown2 q2 (by decide) q (.slice L5 (m + 1) k5)
      have hxE := ext_set3 hxF (g := w.heap.size + 1) (by omega) (.slice (some ⟨b1, o1, none⟩) p.len.length c1) (.slice (some ⟨gr, 0, none⟩) p.ck.length k2) (.slice A3 p.arcs.length c3)
      have ho3 := own_set3 ho1 hrF (by decide) (.slice (some ⟨b1, o1, none⟩) p.len.length c1) (.slice (some ⟨gr, 0, none⟩) p.ck.length k2) (.slice A3 p.arcs.length c3)
      have ho4 := own_set3 ho2 hrF (by decide) (.slice (some ⟨b1, o1, none⟩) p.len.length c1) (.slice (some ⟨gr, 0, none⟩) p.ck.length k2) (.slice A3 p.arcs.length c3)
      have s0 : (w2.setCell ⟨gr, q, none⟩ (.slice L5 (m + 1) k5)).cell? ⟨g, 0, none⟩ = some (.slice (some ⟨b1, o1, none⟩) p.len.length c1) := cell_of_heap hgF rfl
      have s1 : (w2.setCell ⟨gr, q, none⟩ (.slice L5 (m + 1) k5)).cell? ⟨g, 1, none⟩ = some (.slice (some ⟨gr, 0, none⟩) p.ck.length k2) := cell_of_heap hgF rfl
      have s2 : (w2.setCell ⟨gr, q, none⟩ (.slice L5 (m + 1) k5)).cell? ⟨g, 2, none⟩ = some (.slice A3 p.arcs.length c3) := cell_of_heap hgF rfl
      have z0 : (w2.setCell ⟨gr, q, none⟩ (.slice L5 (m + 1) k5)).cell? ⟨w.heap.size + 1, 0, none⟩ = some (.slice none 0 0) := cell_of_heap hrF rfl
      have z1 : (w2.setCell ⟨gr, q, none⟩ (.slice L5 (m + 1) k5)).cell? ⟨w.heap.size + 1, 1, none⟩ = some (.slice none 0 0) := cell_of_heap hrF rfl
      have z2 : (w2.setCell ⟨gr, q, none⟩ (.slice L5 (m + 1) k5)).cell? ⟨w.heap.size + 1, 2, none⟩ = some (.slice none 0 0) := cell_of_heap hrF rfl
      have zf := fun j => frozen_of_heap hrF j
      have hres : MarkRes S w p (some ⟨b1, o1, none⟩) c1 A3 c3 (p.ck.set q (rowOf p.ck q ++ [nth p.len q])) (.returned (.agg #[.slice (some ⟨b1, o1, none⟩) p.len.length c1, .slice (some ⟨gr, 0, none⟩) p.ck.length k2, .slice A3 p.arcs.length c3])) ((((w2.setCell ⟨gr, q, none⟩ (.slice L5 (m + 1) k5)).setCell ⟨w.heap.size + 1, 0, none⟩ (.slice (some ⟨b1, o1, none⟩) p.len.length c1)).setCell ⟨w.heap.size + 1, 1, none⟩ (.slice (some ⟨gr, 0, none⟩) p.ck.length k2)).setCell ⟨w.heap.size + 1, 2, none⟩ (.slice A3 p.arcs.length c3)) := by
        refine ⟨some ⟨gr, 0, none⟩, k2, by rw [List.length_set], ⟨_, RV.ofOwn' ho3 (fun k hk => hS k (by omega)), ?_⟩, by rw [List.length_set]; exact hkr, hkr', hxE⟩
        have hm' : (rowOf p.ck q ++ [nth p.len q]).length = m + 1 := by rw [List.length_append, HM.out]; rfl
        have := Reps.set (sz := 1) (i := 0) (hbr.mono (repRow.into (Into.ofExt hxE))) (by omega) hq2 (u := .slice L5 (m + 1) k5) (x := rowOf p.ck q ++ [nth p.len q]) (fun cs h hcs => by
          refine ⟨L5, k5, ?_, by rw [hm']; exact hk5, hk5', ?_⟩
          · match cs, hcs with
            | [c0], _ => rw [hm']; rfl
          · have e : ints (rowOf p.ck q ++ [nth p.len q]) = ints (rowOf p.ck q) ++ [.int .i64 y] := by rw [HY.out]; simp
            unfold RI; rw [e]
            exact RV.ofOwn' ho4 (fun k hk => hS k (by have := hx2.le; omega)))
        simpa using this
      have HRESF := Lib.hid hres
      clear hres hKF hgF hrw hrF ho1 ho2 ho3 ho4 hxE hxF
      go_wp2_with fail
      exact bodyPost_ret (v := .agg #[.slice (some ⟨b1, o1, none⟩) p.len.length c1, .slice (some ⟨gr, 0, none⟩) p.ck.length k2, .slice A3 p.arcs.length c3]) (by simp [results, Try.results76, go_sem, z0, z1, z2]) rfl HRESF.out
end Go.Proofs.Ytmjmdncdmmcmaaa

/- rollbacknetmake.with, where the event can be added. -/
namespace Go.Proofs.Ytmjmdncdmmcmaaa
open Go.RowKit
set_option linter.unusedVariables false

/-- a new pattern p' whose checkpoints lie where those of the old one lie -/
def WithRes (w : World) (p' : Pat) (A2 : Option Addr) (c2 : Nat) (e : Ending) (w' : World) : Prop :=
  ∃ L1 k1 L3 k3 vs, e = .returned (.agg #[.slice L1 p'.len.length k1, .slice A2 p'.ck.length c2, .slice L3 p'.arcs.length k3]) ∧ w'.ownsRow w.heap.size 3 1 (.slice L1 p'.len.length k1) p'.len.length (ints p'.len) ∧
        w'.ownsRow w.heap.size 84 4 (.slice L3 p'.arcs.length k3) p'.arcs.length vs ∧ Reps (repArc w') 4 vs p'.arcs ∧ Ext w w'

set_option maxRecDepth 100000 in
set_option maxHeartbeats 1600000 in
theorem with_any (A1 A2 A3 : Option Addr) (c1 c2 c3 : Nat) (p p' : Pat) (q fr se : Int) (w : World)
    (hap : ∀ W, Ext w W → Calls Try.prog 116 #[.agg #[.slice A1 p.len.length c1, .slice A2 p.ck.length c2, .slice A3 p.arcs.length c3], .int .i64 q, .int .i64 fr, .int .i64 se] W (AppRes W p' A2 c2)) :
    Calls Try.prog 85 #[.agg #[.slice A1 p.len.length c1, .slice A2 p.ck.length c2, .slice A3 p.arcs.length c3], .int .i64 q, .int .i64 fr, .int .i64 se] w (WithRes w p' A2 c2) := by
  have HA := Lib.hid hap
  clear hap
  have hx0 := ((Ext.refl' w).alloc' (.cells #[.slice A1 p.len.length c1, .slice A2 p.ck.length c2, .slice A3 p.arcs.length c3] 44)).alloc' (.cells #[.slice none 0 0, .slice none 0 0, .slice none 0 0] 44)
  have hb := heap2 w (.cells #[.slice A1 p.len.length c1, .slice A2 p.ck.length c2, .slice A3 p.arcs.length c3] 44) (.cells #[.slice none 0 0, .slice none 0 0, .slice none 0 0] 44)
  have HB := Lib.hid hb
  clear hb
  go_enter Try.func85, Try.ntmps85
  go_wp2_with fail
  refine (HA.out _ hx0).mono ?_
  rintro e w1 ⟨L1, k1, L3, k3, vs, rfl, ho1, ho3, hr, hx1⟩
  have hxw := hx0.trans' hx1
  have hres := (hx1.block (w.heap.size + 1) (lt_of_block HB.out.2)).trans HB.out.2
  have hlt := lt_of_block hres
  have z0 : w1.cell? ⟨w.heap.size + 1, 0, none⟩ = some (.slice none 0 0) := cell_of_heap hres rfl
  have z1 : w1.cell? ⟨w.heap.size + 1, 1, none⟩ = some (.slice none 0 0) := cell_of_heap hres rfl
  have z2 : w1.cell? ⟨w.heap.size + 1, 2, none⟩ = some (.slice none 0 0) := cell_of_heap hres rfl
  have zf := fun j => frozen_of_heap hres j
  have hxE := (ext_set3 hxw (g := w.heap.size + 1) (by omega) (.slice L1 p'.len.length k1) (.slice A2 p'.ck.length c2) (.slice L3 p'.arcs.length k3)).alloc' (.cells #[.slice L1 p'.len.length k1, .slice A2 p'.ck.length c2, .slice L3 p'.arcs.length k3] 44)
  have hp1 := own_base ((own_set3 ho1 hres (by decide) (.slice L1 p'.len.length k1) (.slice A2 p'.ck.length c2) (.slice L3 p'.arcs.length k3)).alloc (.cells #[.slice L1 p'.len.length k1, .slice A2 p'.ck.length c2, .slice L3 p'.arcs.length k3] 44)) hx0.le
  have hp3 := own_base ((own_set3 ho3 hres (by decide) (.slice L1 p'.len.length k1) (.slice A2 p'.ck.length c2) (.slice L3 p'.arcs.length k3)).alloc (.cells #[.slice L1 p'.len.length k1, .slice A2 p'.ck.length c2, .slice L3 p'.arcs.length k3] 44)) hx0.le
  have hresF : WithRes w p' A2 c2 (.returned (.agg #[.slice L1 p'.len.length k1, .slice A2 p'.ck.length c2, .slice L3 p'.arcs.length k3])) _ := ⟨L1, k1, L3, k3, vs, rfl, hp1, hp3, hr.mono (fun _ _ h => h), hxE⟩
  have HF := Lib.hid hresF
  have hfb := heap_keep (set3 hres (.slice L1 p'.len.length k1) (.slice A2 p'.ck.length c2) (.slice L3 p'.arcs.length k3)) (.cells #[.slice L1 p'.len.length k1, .slice A2 p'.ck.length c2, .slice L3 p'.arcs.length k3] 44)
  have y0 := cell_of_heap (j := 0) hfb rfl
  have y1 := cell_of_heap (j := 1) hfb rfl
  have y2 := cell_of_heap (j := 2) hfb rfl
  have HY0 := Lib.hid y0
  have HY1 := Lib.hid y1
  have HY2 := Lib.hid y2
  clear y0 y1 y2 hfb
  clear hresF hp1 hp3 hxE ho1 ho3 hres
  go_wp2_with fail
  exact bodyPost_ret (v := .agg #[.slice L1 p'.len.length k1, .slice A2 p'.ck.length c2, .slice L3 p'.arcs.length k3]) (by have y0 := HY0.out; have y1 := HY1.out; have y2 := HY2.out; simp at y0 y1 y2; simp [results, Try.results85, go_sem, y0, y1, y2]) rfl HF.out
end Go.Proofs.Ytmjmdncdmmcmaaa

