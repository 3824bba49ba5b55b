/- rollbacknetmake.with, where the event can be added. -/
import Derived.Test.YtkflmichekpfbaaRefRecv
import Derived.Test.YtkflmichekpfbaaRefMark
namespace Go.Proofs.Ytkflmichekpfbaa
open Go.RowKit
set_option linter.unusedVariables false

/-- a new pattern p' whose checkpoints lie where those of the old one lie -/
def WithRes (w : World) (p' : Pat) (A2 : Option Addr) (c2 : Nat) (e : Ending) (w' : World) : Prop :=
  ∃ L1 k1 L3 k3 vs, e = .returned (.agg #[.slice L1 p'.len.length k1, .slice A2 p'.ck.length c2, .slice L3 p'.arcs.length k3]) ∧ w'.ownsRow w.heap.size 3 1 (.slice L1 p'.len.length k1) p'.len.length (ints p'.len) ∧
        w'.ownsRow w.heap.size 57 4 (.slice L3 p'.arcs.length k3) p'.arcs.length vs ∧ Reps (repArc w') 4 vs p'.arcs ∧ Ext w w'

set_option maxRecDepth 100000 in
set_option maxHeartbeats 1600000 in
theorem with_any (A1 A2 A3 : Option Addr) (c1 c2 c3 : Nat) (p p' : Pat) (q fr se : Int) (w : World)
    (hap : ∀ W, Ext w W → Calls Try.prog 32 #[.agg #[.slice A1 p.len.length c1, .slice A2 p.ck.length c2, .slice A3 p.arcs.length c3], .int .i64 q, .int .i64 fr, .int .i64 se] W (AppRes W p' A2 c2)) :
    Calls Try.prog 61 #[.agg #[.slice A1 p.len.length c1, .slice A2 p.ck.length c2, .slice A3 p.arcs.length c3], .int .i64 q, .int .i64 fr, .int .i64 se] w (WithRes w p' A2 c2) := by
  have HA := Lib.hid hap
  clear hap
  have hx0 := ((Ext.refl' w).alloc' (.cells #[.slice A1 p.len.length c1, .slice A2 p.ck.length c2, .slice A3 p.arcs.length c3] 28)).alloc' (.cells #[.slice none 0 0, .slice none 0 0, .slice none 0 0] 28)
  have hb := heap2 w (.cells #[.slice A1 p.len.length c1, .slice A2 p.ck.length c2, .slice A3 p.arcs.length c3] 28) (.cells #[.slice none 0 0, .slice none 0 0, .slice none 0 0] 28)
  have HB := Lib.hid hb
  clear hb
  go_enter Try.func61, Try.ntmps61
  go_wp2_with fail
  refine (HA.out _ hx0).mono ?_
  rintro e w1 ⟨L1, k1, L3, k3, vs, rfl, ho1, ho3, hr, hx1⟩
  have hxw := hx0.trans' hx1
  have hres := (hx1.block (w.heap.size + 1) (lt_of_block HB.out.2)).trans HB.out.2
  have hlt := lt_of_block hres
  have z0 : w1.cell? ⟨w.heap.size + 1, 0, none⟩ = some (.slice none 0 0) := cell_of_heap hres rfl
  have z1 : w1.cell? ⟨w.heap.size + 1, 1, none⟩ = some (.slice none 0 0) := cell_of_heap hres rfl
  have z2 : w1.cell? ⟨w.heap.size + 1, 2, none⟩ = some (.slice none 0 0) := cell_of_heap hres rfl
  have zf := fun j => frozen_of_heap hres j
  have hxE := (ext_set3 hxw (g := w.heap.size + 1) (by omega) (.slice L1 p'.len.length k1) (.slice A2 p'.ck.length c2) (.slice L3 p'.arcs.length k3)).alloc' (.cells #[.slice L1 p'.len.length k1, .slice A2 p'.ck.length c2, .slice L3 p'.arcs.length k3] 28)
  have hp1 := own_base ((own_set3 ho1 hres (by decide) (.slice L1 p'.len.length k1) (.slice A2 p'.ck.length c2) (.slice L3 p'.arcs.length k3)).alloc (.cells #[.slice L1 p'.len.length k1, .slice A2 p'.ck.length c2, .slice L3 p'.arcs.length k3] 28)) hx0.le
  have hp3 := own_base ((own_set3 ho3 hres (by decide) (.slice L1 p'.len.length k1) (.slice A2 p'.ck.length c2) (.slice L3 p'.arcs.length k3)).alloc (.cells #[.slice L1 p'.len.length k1, .slice A2 p'.ck.length c2, .slice L3 p'.arcs.length k3] 28)) hx0.le
  have hresF : WithRes w p' A2 c2 (.returned (.agg #[.slice L1 p'.len.length k1, .slice A2 p'.ck.length c2, .slice L3 p'.arcs.length k3])) _ := ⟨L1, k1, L3, k3, vs, rfl, hp1, hp3, hr.mono (fun _ _ h => h), hxE⟩
  have HF := Lib.hid hresF
  have hfb := heap_keep (set3 hres (.slice L1 p'.len.length k1) (.slice A2 p'.ck.length c2) (.slice L3 p'.arcs.length k3)) (.cells #[.slice L1 p'.len.length k1, .slice A2 p'.ck.length c2, .slice L3 p'.arcs.length k3] 28)
  have y0 := cell_of_heap (j := 0) hfb rfl
  have y1 := cell_of_heap (j := 1) hfb rfl
  have y2 := cell_of_heap (j := 2) hfb rfl
  have HY0 := Lib.hid y0
  have HY1 := Lib.hid y1
  have HY2 := Lib.hid y2
  clear y0 y1 y2 hfb
  clear hresF hp1 hp3 hxE ho1 ho3 hres
  go_wp2_with fail
  exact bodyPost_ret (v := .agg #[.slice L1 p'.len.length k1, .slice A2 p'.ck.length c2, .slice L3 p'.arcs.length k3]) (by have y0 := HY0.out; have y1 := HY1.out; have y2 := HY2.out; simp at y0 y1 y2; simp [results, Try.results61, go_sem, y0, y1, y2]) rfl HF.out
end Go.Proofs.Ytkflmichekpfbaa
