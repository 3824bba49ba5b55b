/- An argument that is a list of pages, opened. No condition. -/
import Derived.Test.YtmjmdncdmmcmaaaImgB
import Derived.Test.YtmjmdncdmmcmaaaLaw
import Derived.Deep.SlicePairs
namespace Go.Proofs.Ytmjmdncdmmcmaaa
open Go.RowKit
set_option linter.unusedVariables false

set_option maxRecDepth 100000 in
/-- an argument that is a slice of pages -/
theorem open_pages {H : Type} {enc : TypeId × Value → H} {W : World} {v : Value} {d : DataW H} {p : List MemPlace} {r : Reach} {b0 : Nat} (hok : Value.okWide Try.prog W r b0 22 v) (h : DataW.Trod enc Try.prog W 0 (fun _ => true) true 22 v d p) :
    ∃ A c, ∃ ps : List Pg, v = .slice A ps.length c ∧ RP (fun b => b < W.heap.size) W A ps ∧ ps.length ≤ c ∧ c ≤ 9223372036854775807 ∧ ∀ p ∈ ps, -9223372036854775808 ≤ p.1 ∧ p.1 ≤ 9223372036854775807 := by
  have hv : v.cells = #[v] := by obtain ⟨a, l, c, rfl⟩ := Go.WideShapes.okWide_slice Try.underlying22 hok; rfl
  obtain ⟨fuel, hf⟩ := h
  rcases Go.Deep.open_slice_pairs Try.underlying22 Try.underlying27 (by kernel_rfl) rfl rfl (by kernel_rfl) (by kernel_rfl) hf with ⟨h1, _⟩ | ⟨a, len, cap, m, n, V0, V1, D0, D1, P0, P1, h1, _, h3, h4, h5, _, h7⟩
  · rw [hv] at h1
    injection h1 with h1
    exact ⟨none, 0, [], h1, RL.nil_ _ _ _ _ _, by simp, by omega, by simp⟩
  · rw [hv] at h1
    injection h1 with h1
    rw [if_pos rfl] at h5
    have each : ∀ i, i < len → ∃ p : Pg, (-9223372036854775808 ≤ p.1 ∧ p.1 ≤ 9223372036854775807) ∧ ∃ A c, W.cell? (a.add (i * 2)) = some (.int .i64 p.1) ∧ W.cell? (a.add (i * 2 + 1)) = some (.slice A p.2.length c) ∧ p.2.length ≤ c ∧ c ≤ 9223372036854775807 ∧ RI (fun b => b < W.heap.size) W A p.2 := by
      intro i hi
      obtain ⟨c0, c1, t0, t1⟩ := h7 i (by omega)
      obtain ⟨y, hy, _, wy⟩ := DataW.trod_int Try.underlying3 t0
      obtain ⟨A, c, xs, hx, hr, hl1, hl2, _⟩ := open_nums_cs Try.underlying25 Try.underlying3 (by kernel_rfl) t1
      injection hy with hy
      exact ⟨(y, xs), i64_bd wy, A, c, by rw [c0, hy], by rw [c1, hx], hl1, hl2, hr⟩
    obtain ⟨ps, hl, hps⟩ := choose_list len each
    refine ⟨some a, cap, ps, by rw [hl]; exact h1, ?_, by omega, by unfold maxLen at h4; omega, fun p hp => ?_⟩
    · by_cases h0 : ps.length = 0
      · obtain rfl : ps = [] := List.eq_nil_of_length_eq_zero h0
        exact RL.nil_ _ _ _ _ _
      · obtain ⟨_, _, _, hc0, _⟩ := hps 0 (by omega)
        have hsp := spot_of_cell hc0
        obtain ⟨b, o, sp⟩ := a
        have hsn : sp = none := by
          have := congrArg Addr.spot hsp
          simpa [Addr.add] using this
        subst hsn
        have hb : b < W.heap.size := by have := lt_of_cell hc0; rwa [block_add] at this
        obtain ⟨vs, hv1, hv2⟩ := reps_mk (rep := repPage (fun b => b < W.heap.size) W) (sz := 2) (w := W) (b := b) ps o (fun j hj => by
          obtain ⟨_, A, c, h0, h1, h2, h3, h4⟩ := hps j hj
          refine ⟨[.int .i64 ps[j].1, .slice A ps[j].2.length c], rfl, ⟨A, c, rfl, h2, h3, h4⟩, fun i u hu => ?_⟩
          rw [add_mk] at h0 h1
          match i, hu with
          | 0, hu => injection hu with hu; rw [← hu]; exact h0
          | 1, hu => injection hu with hu; rw [← hu]; exact h1
          | i + 2, hu => simp at hu)
        exact ⟨vs, fun j u hu => ⟨b, o, rfl, hb, hv1 j u hu⟩, hv2⟩
    · obtain ⟨i, hi, rfl⟩ := List.getElem_of_mem hp
      exact (hps i hi).1

end Go.Proofs.Ytmjmdncdmmcmaaa
