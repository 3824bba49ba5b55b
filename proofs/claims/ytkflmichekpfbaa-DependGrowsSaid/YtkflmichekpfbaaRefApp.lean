/- The reference's Append: an event without a message. Conditions: a pattern of at most 5 processes and 256 messages, room for the event. -/
import Derived.Test.YtkflmichekpfbaaPatMem
import Derived.Deep.DeepCutAuto
namespace Go.Proofs.Ytkflmichekpfbaa
open Go.RowKit
set_option linter.unusedVariables false

/-- what the copy of a pattern leaves -/
structure AppCut (W wx : World) (g : Nat) (L1 : Option Addr) (k1 : Nat) (L3 : Option Addr) (k3 : Nat) (A2 : Option Addr) (c2 : Nat) (p : Pat) (vs : List Value) : Prop where
  ge : W.heap.size ≤ g
  blk : wx.heap[g]? = some (.cells #[.slice L1 p.len.length k1, .slice A2 p.ck.length c2, .slice L3 p.arcs.length k3] 28 (0, 0))
  len : wx.ownsRow W.heap.size 3 1 (.slice L1 p.len.length k1) p.len.length (ints p.len)
  arcs : wx.ownsRow W.heap.size 57 4 (.slice L3 p.arcs.length k3) p.arcs.length vs
  ext : Ext W wx

/-- a new pattern p' whose checkpoints lie where those of the old one lie -/
def AppRes (w : World) (p' : Pat) (A2 : Option Addr) (c2 : Nat) (e : Ending) (w' : World) : Prop :=
  ∃ L1 k1 L3 k3 vs, e = .returned (.tuple #[.agg #[.slice L1 p'.len.length k1, .slice A2 p'.ck.length c2, .slice L3 p'.arcs.length k3], .bool true]) ∧ w'.ownsRow w.heap.size 3 1 (.slice L1 p'.len.length k1) p'.len.length (ints p'.len) ∧
        w'.ownsRow w.heap.size 57 4 (.slice L3 p'.arcs.length k3) p'.arcs.length vs ∧ Reps (repArc w') 4 vs p'.arcs ∧ Ext w w'

set_option maxRecDepth 100000 in
set_option maxHeartbeats 1600000 in
theorem rappend_event {S : Nat → Prop} (A1 A2 A3 : Option Addr) (c1 c2 c3 : Nat) (p : Pat) (q : Nat) (w : World) (h1 : RI S w A1 p.len) (h3 : RA S w A3 p.arcs) (hn5 : p.len.length ≤ 5) (hfew : p.arcs.length ≤ 256) (hq : q < p.len.length) (hlt : nth p.len q < 64) (h0 : 0 ≤ nth p.len q) :
    Calls Try.prog 32 #[.agg #[.slice A1 p.len.length c1, .slice A2 p.ck.length c2, .slice A3 p.arcs.length c3], .int .i64 (q : Int), .int .i64 (-1), .int .i64 0] w (AppRes w (p.more q) A2 c2) := by
  obtain ⟨b1, o1, rfl, hc1⟩ := h1.atN hq
  have hq' : (q : Int) < p.len.length := by omega
  have f1 := cell_a2 hc1
  have f3 := cell_a3 hc1
  have f4 := cell_a4 hc1
  obtain ⟨vs, hbv, hbr⟩ := h3
  generalize hy : nth p.len q = y at *
  go_enter Try.func32, Try.ntmps32
  go_upto_region 3 with (go_in)
  obtain ⟨W, hW⟩ : ∃ W : World, W = ((w.alloc (.cells #[.slice (some ⟨b1, o1, none⟩) p.len.length c1, .slice A2 p.ck.length c2, .slice A3 p.arcs.length c3] 28)).alloc (.cells #[.slice none 0 0, .slice none 0 0, .slice none 0 0] 28)).alloc (.cells #[.slice (some ⟨b1, o1, none⟩) p.len.length c1, .slice A2 p.ck.length c2, .slice A3 p.arcs.length c3] 28) := ⟨_, rfl⟩
  rw [← hW]
  have hx : Ext w W := by rw [hW]; exact (((Ext.refl' w).alloc' _).alloc' _).alloc' _
  have hsz : W.heap.size = w.heap.size + 3 := by rw [hW]; simp
  have g0 : W.cell? ⟨w.heap.size, 0, none⟩ = some (.slice (some ⟨b1, o1, none⟩) p.len.length c1) := by rw [hW]; exact cell_of_heap (heap3 w _ _ _).1 rfl
  have g1 : W.cell? ⟨w.heap.size, 1, none⟩ = some (.slice A2 p.ck.length c2) := by rw [hW]; exact cell_of_heap (heap3 w _ _ _).1 rfl
  have g2 : W.cell? ⟨w.heap.size, 2, none⟩ = some (.slice A3 p.arcs.length c3) := by rw [hW]; exact cell_of_heap (heap3 w _ _ _).1 rfl
  have hres0 : W.heap[w.heap.size + 1]? = some (.cells #[.slice none 0 0, .slice none 0 0, .slice none 0 0] 28 (0, 0)) := by rw [hW]; exact (heap3 w _ _ _).2.1
  have HRES := Lib.hid hres0
  clear hres0
  have hl1 := h1.ext hx
  have hl3 := hbv.ext hx
  have hvl := hbr.length
  have HSZ := Lib.hid hsz
  have hszl : w.heap.size + 3 ≤ W.heap.size := by omega
  clear f1 f3 f4 hW hsz
  have hE0 := Ext.refl' W
  go_cut [10] (fun s10 wx => ∃ g L1 k1 L3 k3, s10 = .pointer (some ⟨g, 0, none⟩) ∧ AppCut W wx g L1 k1 L3 k3 A2 c2 p vs)
  case first =>
    go_region_held3 (fun w' => Ext W w' ∧ w'.cell? ⟨w.heap.size, 0, none⟩ = some (.slice (some ⟨b1, o1, none⟩) p.len.length c1) ∧ w'.cell? ⟨w.heap.size, 1, none⟩ = some (.slice A2 p.ck.length c2) ∧ w'.cell? ⟨w.heap.size, 2, none⟩ = some (.slice A3 p.arcs.length c3))
      (first | (exact ⟨hE0.drew', g0, g1, g2⟩) | (exact have hF := hE3.alloc' _; ⟨hF, hF.cell g0, hF.cell g1, hF.cell g2⟩) | (exact ⟨hE3, hE3.cell g0, hE3.cell g1, hE3.cell g2⟩) | (exact have hF := hE1.alloc' _; ⟨hF, hF.cell g0, hF.cell g1, hF.cell g2⟩) | (exact ⟨hE1, hE1.cell g0, hE1.cell g1, hE1.cell g2⟩) | (exact have hF := hE0.drew'.alloc' _; ⟨hF, hF.cell g0, hF.cell g1, hF.cell g2⟩) | (exact have hF := ext_set3 hE3 hE1.le _ _ _; ⟨hF, hF.cell g0, hF.cell g1, hF.cell g2⟩) | (exact have hF := ext_set3 hE3 (Nat.le_refl _) _ _ _; ⟨hF, hF.cell g0, hF.cell g1, hF.cell g2⟩))
      (first | (obtain ⟨hE, _⟩ := ‹Ext W _ ∧ _›; refine step_app ety_int rfl _ _ (by rfl) (by rfl) (ownsRow_nil _ W.heap.size _ _) (by rfl) (by simp) (RI.ext hl1 hE) (oneCell_ints _) (by omega) hE.le ?_; intro v1 w1 hown1 happ1; obtain ⟨L1, k1, rfl, hk1, hk1'⟩ := own_form hown1; have hE1 := hE.trans' happ1.extNil; obtain ⟨hc1, hf1⟩ := bcellE happ1.extNil; have hlt1 := happ1.extNil.lt_) | (obtain ⟨hE, _⟩ := ‹Ext W _ ∧ _›; refine step_app ety_arc rfl _ _ (by rfl) (by rfl) (ownsRow_nil _ W.heap.size _ _) (by rfl) hvl (RV.ext hl3 hE) (hbr.all repArc.one) (by omega) hE.le ?_; intro v3 w3 hown3 happ3; obtain ⟨L3, k3, rfl, hk3, hk3'⟩ := own_form hown3; have hE3 := hE.trans' happ3.extNil; obtain ⟨hc3, hf3⟩ := bcellE happ3.extNil))
    all_goals go_wp2_with fail
    all_goals go_meet
    all_goals
      have ho1 : w1.ownsRow W.heap.size 3 1 (.slice L1 p.len.length k1) p.len.length (ints p.len) := by simpa using hown1
      have ho3 : w3.ownsRow W.heap.size 57 4 (.slice L3 p.arcs.length k3) p.arcs.length vs := by simpa using hown3
      have hE13 := happ3.extNil
    · exact ⟨w3.heap.size, L1, k1, L3, k3, rfl, hE3.le, heap_new _ _, (own_ext ho1 hE13).alloc _, ho3.alloc _, hE3.alloc' _⟩
    · have hb : w3.heap[w1.heap.size]? = some (.cells #[.slice none 0 0, .slice none 0 0, .slice none 0 0] 28 (0, 0)) := (hE13.block _ (by simp)).trans (heap_new _ _)
      exact ⟨w1.heap.size, L1, k1, L3, k3, rfl, hE1.le, set3 hb _ _ _, own_set3 (own_ext (ho1.alloc _) hE13) hb (by decide) _ _ _, own_set3 ho3 hb (by decide) _ _ _, ext_set3 hE3 hE1.le _ _ _⟩
    · have hb1 : w1.heap[W.heap.size]? = some (.cells #[.slice none 0 0, .slice none 0 0, .slice none 0 0] 28 (0, 0)) := (happ1.extNil.block _ (by simp)).trans (heap_new _ _)
      have hb : w3.heap[W.heap.size]? = some (.cells #[.slice none 0 0, .slice none 0 0, .slice none 0 0] 28 (0, 0)) := (hE13.block _ (lt_of_block hb1)).trans hb1
      exact ⟨W.heap.size, L1, k1, L3, k3, rfl, Nat.le_refl _, set3 hb _ _ _, own_set3 (own_ext ho1 hE13) hb (by decide) _ _ _, own_set3 ho3 hb (by decide) _ _ _, ext_set3 hE3 (Nat.le_refl _) _ _ _⟩
  case rest =>
    obtain ⟨g, L1, k1, L3, k3, rfl, hge, hblk, hlen, harcs, hext⟩ := hcut
    obtain ⟨gl, k1', hv, hgl, hkl, hkl'⟩ := own_some hlen (by omega)
    injection hv with hL _ hcc
    subst hL; subst hcc
    have hx2 := hx.trans' hext
    have r0 := cell_of_heap (j := 0) hblk rfl
    have r1 := cell_of_heap (j := 1) hblk rfl
    have r2 := cell_of_heap (j := 2) hblk rfl
    have hlc : wc.cell? ⟨gl, q, none⟩ = some (.int .i64 y) := (hlen.cellAt q (by omega)).trans (by rw [List.getElem?_map, List.getElem?_eq_getElem hq, ← nth_eq hq, hy]; rfl)
    have hlf := hlen.frozenAt q
    obtain ⟨cur, hcur⟩ := own_heap hlen
    have hgne : g ≠ gl := fun e => own_ne hlen hblk (by decide) (by rw [e]; rfl)
    have hst : (wc.setCell ⟨gl, q, none⟩ (.int .i64 (y + 1))).ownsRow W.heap.size 3 1 (.slice (some ⟨gl, 0, none⟩) p.len.length k1) p.len.length (ints (p.more q).len) := by
      have := (hlen.stored q (.int .i64 (y + 1))).1
      rw [Pat.more, hy, ints, List.map_set]; exact this
    have hst3 := own_set harcs hcur (by decide) q (.int .i64 (y + 1))
    have hb2 : (wc.setCell ⟨gl, q, none⟩ (.int .i64 (y + 1))).heap[g]? = some (.cells #[.slice (some ⟨gl, 0, none⟩) p.len.length k1, .slice A2 p.ck.length c2, .slice L3 p.arcs.length k3] 28 (0, 0)) := (Below.heap_setCell _ _ _ _ hgne).trans hblk
    have hres : wc.heap[w.heap.size + 1]? = some (.cells #[.slice none 0 0, .slice none 0 0, .slice none 0 0] 28 (0, 0)) := (hext.block _ (by omega)).trans HRES.out
    have hres2 : (wc.setCell ⟨gl, q, none⟩ (.int .i64 (y + 1))).heap[w.heap.size + 1]? = some (.cells #[.slice none 0 0, .slice none 0 0, .slice none 0 0] 28 (0, 0)) := (Below.heap_setCell _ _ _ _ (by show w.heap.size + 1 ≠ gl; omega)).trans hres
    have e0 : (wc.setCell ⟨gl, q, none⟩ (.int .i64 (y + 1))).cell? ⟨g, 0, none⟩ = some (.slice (some ⟨gl, 0, none⟩) p.len.length k1) := cell_of_heap hb2 rfl
    have e1 : (wc.setCell ⟨gl, q, none⟩ (.int .i64 (y + 1))).cell? ⟨g, 1, none⟩ = some (.slice A2 p.ck.length c2) := cell_of_heap hb2 rfl
    have e2 : (wc.setCell ⟨gl, q, none⟩ (.int .i64 (y + 1))).cell? ⟨g, 2, none⟩ = some (.slice L3 p.arcs.length k3) := cell_of_heap hb2 rfl
    have z0 : (wc.setCell ⟨gl, q, none⟩ (.int .i64 (y + 1))).cell? ⟨w.heap.size + 1, 0, none⟩ = some (.slice none 0 0) := cell_of_heap hres2 rfl
    have z1 : (wc.setCell ⟨gl, q, none⟩ (.int .i64 (y + 1))).cell? ⟨w.heap.size + 1, 1, none⟩ = some (.slice none 0 0) := cell_of_heap hres2 rfl
    have z2 : (wc.setCell ⟨gl, q, none⟩ (.int .i64 (y + 1))).cell? ⟨w.heap.size + 1, 2, none⟩ = some (.slice none 0 0) := cell_of_heap hres2 rfl
    have zf := fun j => frozen_of_heap hres2 j
    clear hres hcur hblk
    have hx3 := ext_set3 (hx2.setCell' (p := ⟨gl, q, none⟩) (by show w.heap.size ≤ gl; omega) (.int .i64 (y + 1))) (g := w.heap.size + 1) (by omega) (.slice (some ⟨gl, 0, none⟩) p.len.length k1) (.slice A2 p.ck.length c2) (.slice L3 p.arcs.length k3)
    have hst' := own_set3 hst hres2 (by decide) (.slice (some ⟨gl, 0, none⟩) p.len.length k1) (.slice A2 p.ck.length c2) (.slice L3 p.arcs.length k3)
    have hst3' := own_set3 hst3 hres2 (by decide) (.slice (some ⟨gl, 0, none⟩) p.len.length k1) (.slice A2 p.ck.length c2) (.slice L3 p.arcs.length k3)
    go_wp2_with fail
    refine bodyPost_ret (v := .tuple #[.agg #[.slice (some ⟨gl, 0, none⟩) p.len.length k1, .slice A2 p.ck.length c2, .slice L3 p.arcs.length k3], .bool true]) (by simp [results, Try.results32, go_sem, z0, z1, z2]) rfl ?_
    refine ⟨some ⟨gl, 0, none⟩, k1, L3, k3, vs, by rw [Pat.more_length]; rfl, ?_, ?_, hbr, hx3⟩
    · rw [Pat.more_length]; exact own_base hst' hx.le
    · exact own_base hst3' hx.le
end Go.Proofs.Ytkflmichekpfbaa
