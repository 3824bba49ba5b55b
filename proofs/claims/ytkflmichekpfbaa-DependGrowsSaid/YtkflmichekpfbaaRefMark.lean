/- The reference's Mark of patterns. Conditions: a pattern of at most 5 processes whose checkpoints ascend. -/
import Derived.Test.YtkflmichekpfbaaRefApp
import Derived.Deep.RegionLaw
import Derived.BigRegion
namespace Go.Proofs.Ytkflmichekpfbaa
open Go.RowKit
set_option linter.unusedVariables false

theorem last_mem {l : List Int} {m : Int} (h : RowOk l m) : nth l (l.length - 1) = m ↔ m ∈ l := by
  obtain ⟨r, hl⟩ := h.head
  have hpos : 0 < l.length := by rw [hl]; simp
  constructor
  · intro e; rw [← e, nth_eq (by omega)]; exact List.getElem_mem _
  · intro hm
    obtain ⟨i, hi, e⟩ := List.getElem_of_mem hm
    have hle := h.le _ (List.getElem_mem (l := l) (n := l.length - 1) (by omega))
    rw [nth_eq (by omega)]
    by_cases h1 : i = l.length - 1
    · subst h1; exact e
    · have := List.pairwise_iff_getElem.1 h.asc i (l.length - 1) hi (by omega) (by omega)
      omega

/-- a pattern whose lengths and messages lie where they lay, its checkpoints ck -/
def MarkRes (S : Nat → Prop) (w : World) (p : Pat) (A1 : Option Addr) (c1 : Nat) (A3 : Option Addr) (c3 : Nat) (ck : List (List Int)) (e : Ending) (w' : World) : Prop :=
  ∃ L2 k2, e = .returned (.agg #[.slice A1 p.len.length c1, .slice L2 ck.length k2, .slice A3 p.arcs.length c3]) ∧ RR S w' L2 ck ∧ ck.length ≤ k2 ∧ k2 ≤ 9223372036854775807 ∧ Ext w w'

theorem markRes_of {S : Nat → Prop} {w w' : World} {p : Pat} {A1 A2 A3 : Option Addr} {c1 c2 c3 : Nat} (h2 : RR S w A2 p.ck) (hl2 : p.ck.length ≤ c2) (hc2 : c2 ≤ 9223372036854775807) (hE : Ext w w') :
    MarkRes S w p A1 c1 A3 c3 p.ck (.returned (.agg #[.slice A1 p.len.length c1, .slice A2 p.ck.length c2, .slice A3 p.arcs.length c3])) w' := ⟨A2, c2, rfl, h2.into (Into.ofExt hE), hl2, hc2, hE⟩
set_option maxRecDepth 100000 in
set_option maxHeartbeats 1600000 in
theorem rmark_same {S S1 : Nat → Prop} (A1 A2 A3 : Option Addr) (c1 c2 c3 : Nat) (p : Pat) (q : Nat) (w : World) (h1 : RI S1 w A1 p.len) (h2 : RR S w A2 p.ck) (hl2 : p.ck.length ≤ c2) (hc2 : c2 ≤ 9223372036854775807) (hn5 : p.len.length ≤ 5) (hck : p.ck.length = p.len.length) (hq : q < p.len.length) (hr : RowOk (rowOf p.ck q) (nth p.len q)) (hmem : nth p.len q ∈ rowOf p.ck q) :
    Calls Try.prog 33 #[.agg #[.slice A1 p.len.length c1, .slice A2 p.ck.length c2, .slice A3 p.arcs.length c3], .int .i64 (q : Int)] w (MarkRes S w p A1 c1 A3 c3 p.ck) := by
  have hq2 : q < p.ck.length := by omega
  obtain ⟨b1, o1, rfl, hc1⟩ := h1.atN hq
  obtain ⟨b2, o2, B, cb, rfl, hcr, hlb, hmb, hri⟩ := h2.at_ hq2
  have hlast := (last_mem hr).2 hmem
  obtain ⟨r, hl⟩ := hr.head
  have hpos : 0 < (rowOf p.ck q).length := by rw [hl]; simp
  obtain ⟨b3, o3, rfl, hcl⟩ := hri.atN (k := (rowOf p.ck q).length - 1) (by omega)
  rw [hlast] at hcl
  generalize (rowOf p.ck q).length = m at *
  generalize nth p.len q = y at *
  have f1 := cell_a3 hc1
  have f2 := cell_a3 hcr
  have f3 := cell_a3 hcl
  have hyy : (y == y) = true := by simp
  have hq' : (q : Int) < p.len.length := by omega
  have hq2' : (q : Int) < p.ck.length := by omega
  have hw1 : IntKind.i64.wrap ((m : Int) - 1) = (m : Int) - 1 := IntWalk.i64_in _ (by omega)
  have hw2 : ((m : Int) - 1).toNat = m - 1 := by omega
  have hw3 : (m : Int) - 1 < m := by omega
  have hw4 : 0 ≤ (m : Int) - 1 := by omega
  have hw5 : (1 : Int) ≤ m := by omega
  have HCK := Lib.hid hck
  clear hck hl hlast hr hmem hri
  go_enter Try.func33, Try.ntmps33
  go_wp2
  go_quiet (fail)
  clear hw1 hw2
  go_wp2
  refine bodyPost_ret (v := .agg #[.slice (some ⟨b1, o1, none⟩) p.len.length c1, .slice (some ⟨b2, o2, none⟩) p.ck.length c2, .slice A3 p.arcs.length c3]) (by simp [results, Try.results33, go_sem]) rfl ?_
  refine markRes_of h2 hl2 hc2 ?_
  repeat (first | exact Ext.refl' _ | refine Ext.drewN' ?_ _ | refine Ext.alloc' ?_ _ | refine Ext.setCell' ?_ (by simp) _)

/-- what the copy of the checkpoints leaves -/
structure MarkCut (W wx : World) (g : Nat) (L2 : Option Addr) (k2 : Nat) (A1 : Option Addr) (c1 : Nat) (A3 : Option Addr) (c3 : Nat) (p : Pat) (vs : List Value) : Prop where
  ge : W.heap.size ≤ g
  blk : wx.heap[g]? = some (.cells #[.slice A1 p.len.length c1, .slice L2 p.ck.length k2, .slice A3 p.arcs.length c3] 28 (0, 0))
  row : wx.ownsRow W.heap.size 24 1 (.slice L2 p.ck.length k2) p.ck.length vs
  ext : Ext W wx

set_option maxRecDepth 100000 in
set_option maxHeartbeats 1600000 in
theorem rmark_new {S S1 : Nat → Prop} (A1 A2 A3 : Option Addr) (c1 c2 c3 : Nat) (p : Pat) (q : Nat) (w : World) (hS : ∀ k, w.heap.size ≤ k → S k) (h1 : RI S1 w A1 p.len) (h2 : RR S w A2 p.ck) (hl2 : p.ck.length ≤ c2) (hc2 : c2 ≤ 9223372036854775807) (hn5 : p.len.length ≤ 5) (hck : p.ck.length = p.len.length) (hq : q < p.len.length) (hr : RowOk (rowOf p.ck q) (nth p.len q)) (hsh : (rowOf p.ck q).length ≤ 100) (hmem : ¬ nth p.len q ∈ rowOf p.ck q) :
    Calls Try.prog 33 #[.agg #[.slice A1 p.len.length c1, .slice A2 p.ck.length c2, .slice A3 p.arcs.length c3], .int .i64 (q : Int)] w (MarkRes S w p A1 c1 A3 c3 (p.ck.set q (rowOf p.ck q ++ [nth p.len q]))) := by
  have hq2 : q < p.ck.length := by omega
  obtain ⟨b1, o1, rfl, hc1⟩ := h1.atN hq
  obtain ⟨b2, o2, B, cb, rfl, hcr, hlb, hmb, hri⟩ := h2.at_ hq2
  have hlast : nth (rowOf p.ck q) ((rowOf p.ck q).length - 1) ≠ nth p.len q := fun e => hmem ((last_mem hr).1 e)
  obtain ⟨r, hl⟩ := hr.head
  have hpos : 0 < (rowOf p.ck q).length := by rw [hl]; simp
  obtain ⟨b3, o3, rfl, hcl⟩ := hri.atN (k := (rowOf p.ck q).length - 1) (by omega)
  have hne : (nth (rowOf p.ck q) ((rowOf p.ck q).length - 1) == nth p.len q) = false := beq_eq_false_iff_ne.2 hlast
  clear hl hr hmem hlast
  obtain ⟨m, hm⟩ : ∃ m, (rowOf p.ck q).length = m := ⟨_, rfl⟩
  obtain ⟨y, hy⟩ : ∃ y, nth p.len q = y := ⟨_, rfl⟩
  obtain ⟨z, hz⟩ : ∃ z, nth (rowOf p.ck q) ((rowOf p.ck q).length - 1) = z := ⟨_, rfl⟩
  rw [hz, hm] at hcl
  rw [hz, hy] at hne
  rw [hy] at hc1
  rw [hm] at hcr hlb hpos hsh
  have f1 := cell_a3 hc1
  have f2 := cell_a3 hcr
  have f3 := cell_a3 hcl
  have hq' : (q : Int) < p.len.length := by omega
  have hq2' : (q : Int) < p.ck.length := by omega
  have hw1 : IntKind.i64.wrap ((m : Int) - 1) = (m : Int) - 1 := IntWalk.i64_in _ (by omega)
  have hw2 : ((m : Int) - 1).toNat = m - 1 := by omega
  have hw3 : (m : Int) - 1 < m := by omega
  have hw4 : 0 ≤ (m : Int) - 1 := by omega
  have hw5 : (1 : Int) ≤ m := by omega
  have HCK := Lib.hid hck
  have HM := Lib.hid hm
  have HY := Lib.hid hy
  clear hck hm hy hz
  go_enter Try.func33, Try.ntmps33
  go_wp2
  go_quiet (fail)
  clear hw1 hw2
  go_upto_region 6 with (fail)
  obtain ⟨W, hW⟩ : ∃ W : World, W = (((w.alloc (.cells #[.slice (some ⟨b1, o1, none⟩) p.len.length c1, .slice (some ⟨b2, o2, none⟩) p.ck.length c2, .slice A3 p.arcs.length c3] 28)).alloc (.cells #[.slice none 0 0, .slice none 0 0, .slice none 0 0] 28)).alloc (.cells #[.slice (some ⟨b1, o1, none⟩) p.len.length c1, .slice (some ⟨b2, o2, none⟩) p.ck.length c2, .slice A3 p.arcs.length c3] 28)).drewN nq := ⟨_, rfl⟩
  rw [← hW]
  have hx : Ext w W := by rw [hW]; exact ((((Ext.refl' w).alloc' _).alloc' _).alloc' _).drewN' nq
  have hsz : W.heap.size = w.heap.size + 3 := by rw [hW]; simp
  have hbox : W.heap[w.heap.size]? = some (.cells #[.slice (some ⟨b1, o1, none⟩) p.len.length c1, .slice (some ⟨b2, o2, none⟩) p.ck.length c2, .slice A3 p.arcs.length c3] 28 (0, 0)) := by rw [hW]; exact (heap3 w _ _ _).1
  have hres0 : W.heap[w.heap.size + 1]? = some (.cells #[.slice none 0 0, .slice none 0 0, .slice none 0 0] 28 (0, 0)) := by rw [hW]; exact (heap3 w _ _ _).2.1
  have g0 : W.cell? ⟨w.heap.size, 0, none⟩ = some (.slice (some ⟨b1, o1, none⟩) p.len.length c1) := cell_of_heap hbox rfl
  have g1 : W.cell? ⟨w.heap.size, 1, none⟩ = some (.slice (some ⟨b2, o2, none⟩) p.ck.length c2) := cell_of_heap hbox rfl
  have g2 : W.cell? ⟨w.heap.size, 2, none⟩ = some (.slice A3 p.arcs.length c3) := cell_of_heap hbox rfl
  obtain ⟨vs, hbv, hbr⟩ := h2
  have hbvW := hbv.ext hx
  have hvl := hbr.length
  have hck5 : p.ck.length ≤ 5 := by rw [HCK.out]; exact hn5
  have HRES := Lib.hid hres0
  have HSZ := Lib.hid hsz
  have hszl : w.heap.size + 3 ≤ W.heap.size := by omega
  clear f1 f2 f3 hW hsz hres0 hbox
  have hE0 := Ext.refl' W
  go_cut [6] (fun s6 wx => ∃ g L2 k2, s6 = .pointer (some ⟨g, 0, none⟩) ∧ MarkCut W wx g L2 k2 (some ⟨b1, o1, none⟩) c1 A3 c3 p vs)
  case first =>
    go_region_held3 (fun w' => Ext W w' ∧ w'.cell? ⟨w.heap.size, 0, none⟩ = some (.slice (some ⟨b1, o1, none⟩) p.len.length c1) ∧ w'.cell? ⟨w.heap.size, 1, none⟩ = some (.slice (some ⟨b2, o2, none⟩) p.ck.length c2) ∧ w'.cell? ⟨w.heap.size, 2, none⟩ = some (.slice A3 p.arcs.length c3))
      (first | (exact ⟨hE0.drew', g0, g1, g2⟩) | (exact have hF := hE3.alloc' _; ⟨hF, hF.cell g0, hF.cell g1, hF.cell g2⟩) | (exact ⟨hE3, hE3.cell g0, hE3.cell g1, hE3.cell g2⟩) | (exact have hF := hE0.drew'.alloc' _; ⟨hF, hF.cell g0, hF.cell g1, hF.cell g2⟩) | (exact have hF := ext_set3 hE3 (Nat.le_refl _) _ _ _; ⟨hF, hF.cell g0, hF.cell g1, hF.cell g2⟩))
      (first | (obtain ⟨hE, _⟩ := ‹Ext W _ ∧ _›; refine step_app ety_row rfl _ _ (by rfl) (by rfl) (ownsRow_nil _ W.heap.size _ _) (by rfl) hvl (RV.ext hbvW hE) (hbr.all repRow.one) (by omega) hE.le ?_; intro v3 w3 hown3 happ3; obtain ⟨L2, k2, rfl, hk2, hk2'⟩ := own_form hown3; have hE3 := hE.trans' happ3.extNil; obtain ⟨hc3, hf3⟩ := bcellE happ3.extNil; have hlt3 := happ3.extNil.lt_))
    all_goals go_wp2_with fail
    all_goals go_meet
    all_goals
      have ho3 : w3.ownsRow W.heap.size 24 1 (.slice L2 p.ck.length k2) p.ck.length vs := by simpa using hown3
      have hE13 := happ3.extNil
    · exact ⟨w3.heap.size, L2, k2, rfl, hE3.le, heap_new _ _, ho3.alloc _, hE3.alloc' _⟩
    · have hb : w3.heap[W.heap.size]? = some (.cells #[.slice none 0 0, .slice none 0 0, .slice none 0 0] 28 (0, 0)) := (hE13.block _ (by simp)).trans (heap_new _ _)
      exact ⟨W.heap.size, L2, k2, rfl, Nat.le_refl _, set3 hb _ _ _, own_set3 ho3 hb (by decide) _ _ _, ext_set3 hE3 (Nat.le_refl _) _ _ _⟩
  case rest =>
    obtain ⟨g, L2, k2, rfl, hge, hblk, hrow, hext⟩ := hcut
    obtain ⟨gr, k2', hv, hgr, hkr, hkr'⟩ := own_some hrow (by omega)
    injection hv with hL _ hcc
    subst hL; subst hcc
    have hx2 := hx.trans' hext
    have hgne : g ≠ gr := fun e => own_ne hrow hblk (by decide) (by rw [e]; rfl)
    have hb1 := lt_of_cell hc1
    simp only at hb1
    have n1 : g ≠ gr := hgne
    have n2 : w.heap.size ≠ gr := by omega
    have n3 : b1 ≠ gr := by omega
    have c1' : wc.cell? ⟨g, 1, none⟩ = some (.slice (some ⟨gr, 0, none⟩) p.ck.length k2) := cell_of_heap hblk rfl
    have c2' := hext.cell g0
    have c3' := hx2.cell hc1
    have hrow2 : RI (fun k => k ≠ gr) wc (some ⟨b3, o3, none⟩) (rowOf p.ck q) := RI.into hri (fun k hs hk => ⟨by omega, hx2.block k hk⟩)
    have hK0 : Keep (fun k => k ≠ gr) wc wc.drew := (Keep.refl _ _).drew
    have hrc : wc.cell? ⟨gr, q, none⟩ = vs[q]? := hrow.cellAt q (by omega)
    obtain ⟨u0, hu0⟩ : ∃ u, vs[q]? = some u := ⟨_, List.getElem?_eq_getElem (by omega)⟩
    rw [hu0] at hrc
    have hrf := hrow.frozenAt q
    obtain ⟨cur, hcur⟩ := own_heap hrow
    go_upto_region 7 with (fail)
    go_region_held3 (fun w' => Keep (fun k => k ≠ gr) wc w' ∧ w'.cell? ⟨g, 1, none⟩ = some (.slice (some ⟨gr, 0, none⟩) p.ck.length k2) ∧ w'.cell? ⟨w.heap.size, 0, none⟩ = some (.slice (some ⟨b1, o1, none⟩) p.len.length c1) ∧ w'.cell? ⟨b1, o1 + q, none⟩ = some (.int .i64 y))
      (first | (exact ⟨hK0, c1', c2', c3'⟩) | (exact have hF := hK2.set q _; ⟨hF, hF.cell n1 c1', hF.cell n2 c2', hF.cell n3 c3'⟩) | (exact ⟨hK2, hK2.cell n1 c1', hK2.cell n2 c2', hK2.cell n3 c3'⟩) | (exact have hF := hK1.alloc _; ⟨hF, hF.cell n1 c1', hF.cell n2 c2', hF.cell n3 c3'⟩) | (exact ⟨hK1, hK1.cell n1 c1', hK1.cell n2 c2', hK1.cell n3 c3'⟩) | (exact have hF := hK0.alloc _; ⟨hF, hF.cell n1 c1', hF.cell n2 c2', hF.cell n3 c3'⟩))
      (first | (obtain ⟨hK, _⟩ := ‹Keep _ wc _ ∧ _›; refine step_app ety_int rfl (.const (.slice none 0 0)) (.tmp 41) (by rfl) (by rfl) (ownsRow_nil _ wc.heap.size _ _) (by rfl) (by simp [HM.out]) (RI.keep hrow2 hK) (oneCell_ints _) (by omega) hK.le ?_; intro v1 w1 hown1 happ1; rw [Nat.zero_add, List.nil_append] at hown1; obtain ⟨L1, k1, rfl, hk1, hk1'⟩ := own_form hown1; have hK1 := hK.trans (.ofExt happ1.extNil); have hE1 := happ1.extNil; have q1 : w1.heap[gr]? = some (.cells cur 24 (0, 0)) := (by first | exact (hE1.block gr (lt_of_block hcur)).trans hcur | exact (hE1.block gr (lt_of_block (heap_keep hcur _))).trans (heap_keep hcur _))) | (obtain ⟨hK, _⟩ := ‹Keep _ wc _ ∧ _›; refine step_app ety_int rfl (.tmp 42) (.tmp 48) (by rfl) (by rfl) (hown1.alloc _) (A := some ⟨w1.heap.size, 0, none⟩) (m := 1) (c := 1) (news := [.int .i64 y]) (by rfl) (by rfl) (RV.new _ _ _) (by simp [Value.oneCell']) (by omega) hK.le ?_; intro v2 w2 hown2 happ2; obtain ⟨L5, k5, rfl, hk5, hk5'⟩ := own_form hown2; have hK2 := hK.app happ2 (own_block hown1); have q2 := happ2.blk (heap_keep q1 _) (own_ne hown1 q1 (by decide)); have q3 := (World.cell?_of_block (w := wc) (a := ⟨gr, q, none⟩) (q2.trans hcur.symm)).trans hrc; have q4 := frozen_of_heap q2 q) | (obtain ⟨hK, _⟩ := ‹Keep _ wc _ ∧ _›; refine step_app ety_int rfl (.tmp 42) (.tmp 48) (by rfl) (by rfl) hown1 (A := some ⟨wc.heap.size, 0, none⟩) (m := 1) (c := 1) (news := [.int .i64 y]) (by rfl) (by rfl) ((RV.new wc.drew _ _).ext hE1) (by simp [Value.oneCell']) (by omega) hK.le ?_; intro v2 w2 hown2 happ2; obtain ⟨L5, k5, rfl, hk5, hk5'⟩ := own_form hown2; have hK2 := hK.app happ2 (own_block hown1); have q2 := happ2.blk q1 (own_ne hown1 q1 (by decide)); have q3 := (World.cell?_of_block (w := wc) (a := ⟨gr, q, none⟩) (q2.trans hcur.symm)).trans hrc; have q4 := frozen_of_heap q2 q))
    all_goals
      have hKF := hK2.set q (.slice L5 (m + 1) k5)
      have hxF : Ext w (w2.setCell ⟨gr, q, none⟩ (.slice L5 (m + 1) k5)) := hx2.trans (hKF.below hx2.size (fun k hk => by omega))
      have hgF := (hKF.block g (lt_of_block hblk) n1).trans hblk
      have hrw : wc.heap[w.heap.size + 1]? = some (.cells #[.slice none 0 0, .slice none 0 0, .slice none 0 0] 28 (0, 0)) := (hext.block _ (by omega)).trans HRES.out
      have hrF := (hKF.block (w.heap.size + 1) (lt_of_block hrw) (by omega)).trans hrw
      have ho1 := ((own_at hrow (q2.trans hcur.symm)).stored q (.slice L5 (m + 1) k5)).1
      have ho2 := own_set hown2 q2 (by decide) q (.slice L5 (m + 1) k5)
      have hxE := ext_set3 hxF (g := w.heap.size + 1) (by omega) (.slice (some ⟨b1, o1, none⟩) p.len.length c1) (.slice (some ⟨gr, 0, none⟩) p.ck.length k2) (.slice A3 p.arcs.length c3)
      have ho3 := own_set3 ho1 hrF (by decide) (.slice (some ⟨b1, o1, none⟩) p.len.length c1) (.slice (some ⟨gr, 0, none⟩) p.ck.length k2) (.slice A3 p.arcs.length c3)
      have ho4 := own_set3 ho2 hrF (by decide) (.slice (some ⟨b1, o1, none⟩) p.len.length c1) (.slice (some ⟨gr, 0, none⟩) p.ck.length k2) (.slice A3 p.arcs.length c3)
      have s0 : (w2.setCell ⟨gr, q, none⟩ (.slice L5 (m + 1) k5)).cell? ⟨g, 0, none⟩ = some (.slice (some ⟨b1, o1, none⟩) p.len.length c1) := cell_of_heap hgF rfl
      have s1 : (w2.setCell ⟨gr, q, none⟩ (.slice L5 (m + 1) k5)).cell? ⟨g, 1, none⟩ = some (.slice (some ⟨gr, 0, none⟩) p.ck.length k2) := cell_of_heap hgF rfl
      have s2 : (w2.setCell ⟨gr, q, none⟩ (.slice L5 (m + 1) k5)).cell? ⟨g, 2, none⟩ = some (.slice A3 p.arcs.length c3) := cell_of_heap hgF rfl
      have z0 : (w2.setCell ⟨gr, q, none⟩ (.slice L5 (m + 1) k5)).cell? ⟨w.heap.size + 1, 0, none⟩ = some (.slice none 0 0) := cell_of_heap hrF rfl
      have z1 : (w2.setCell ⟨gr, q, none⟩ (.slice L5 (m + 1) k5)).cell? ⟨w.heap.size + 1, 1, none⟩ = some (.slice none 0 0) := cell_of_heap hrF rfl
      have z2 : (w2.setCell ⟨gr, q, none⟩ (.slice L5 (m + 1) k5)).cell? ⟨w.heap.size + 1, 2, none⟩ = some (.slice none 0 0) := cell_of_heap hrF rfl
      have zf := fun j => frozen_of_heap hrF j
      have hres : MarkRes S w p (some ⟨b1, o1, none⟩) c1 A3 c3 (p.ck.set q (rowOf p.ck q ++ [nth p.len q])) (.returned (.agg #[.slice (some ⟨b1, o1, none⟩) p.len.length c1, .slice (some ⟨gr, 0, none⟩) p.ck.length k2, .slice A3 p.arcs.length c3])) ((((w2.setCell ⟨gr, q, none⟩ (.slice L5 (m + 1) k5)).setCell ⟨w.heap.size + 1, 0, none⟩ (.slice (some ⟨b1, o1, none⟩) p.len.length c1)).setCell ⟨w.heap.size + 1, 1, none⟩ (.slice (some ⟨gr, 0, none⟩) p.ck.length k2)).setCell ⟨w.heap.size + 1, 2, none⟩ (.slice A3 p.arcs.length c3)) := by
        refine ⟨some ⟨gr, 0, none⟩, k2, by rw [List.length_set], ⟨_, RV.ofOwn' ho3 (fun k hk => hS k (by omega)), ?_⟩, by rw [List.length_set]; exact hkr, hkr', hxE⟩
        have hm' : (rowOf p.ck q ++ [nth p.len q]).length = m + 1 := by rw [List.length_append, HM.out]; rfl
        have := Reps.set (sz := 1) (i := 0) (hbr.mono (repRow.into (Into.ofExt hxE))) (by omega) hq2 (u := .slice L5 (m + 1) k5) (x := rowOf p.ck q ++ [nth p.len q]) (fun cs h hcs => by
          refine ⟨L5, k5, ?_, by rw [hm']; exact hk5, hk5', ?_⟩
          · match cs, hcs with
            | [c0], _ => rw [hm']; rfl
          · have e : ints (rowOf p.ck q ++ [nth p.len q]) = ints (rowOf p.ck q) ++ [.int .i64 y] := by rw [HY.out]; simp
            unfold RI; rw [e]
            exact RV.ofOwn' ho4 (fun k hk => hS k (by have := hx2.le; omega)))
        simpa using this
      have HRESF := Lib.hid hres
      clear hres hKF hgF hrw hrF ho1 ho2 ho3 ho4 hxE hxF
      go_wp2_with fail
      exact bodyPost_ret (v := .agg #[.slice (some ⟨b1, o1, none⟩) p.len.length c1, .slice (some ⟨gr, 0, none⟩) p.ck.length k2, .slice A3 p.arcs.length c3]) (by simp [results, Try.results33, go_sem, z0, z1, z2]) rfl HRESF.out
end Go.Proofs.Ytkflmichekpfbaa
