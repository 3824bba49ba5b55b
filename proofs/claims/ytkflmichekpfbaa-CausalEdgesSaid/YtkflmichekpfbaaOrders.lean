/- Loads of points out of rows, in regions that draw; points of a pattern are listed once. No condition. -/
import Derived.Test.YtkflmichekpfbaaLaw17
namespace Go.Proofs.Ytkflmichekpfbaa
open Go.RowKit
set_option linter.unusedVariables false
set_option linter.unusedSimpArgs false
set_option linter.unusedSectionVars false

section
variable {P : Program} {ops : Array Oper} {Q : Exit → Act → World → Prop} {a : Act} {w w0 : World} {M : Nat → Prop} {cs fx : List (Chunk w0 M)} {f : Chunk w0 M → List (Chunk w0 M)} {md : Region.Mode} {fuel : Nat} {listed : Array Bool} {late : List Nat} {rest : List Oper} {d : Option Tmp} {tt ty e : TypeId} {pos : String} {af : Array Edge} {gd : Option (Nat × Bool)} {x : Operand} {op : Op}
/-- an operation that is passed over -/
theorem lS (hw : Region.wanted ⟨d, op, tt, pos, af, gd⟩ (yielded ops a.tmps) = false) (k : wpList P ops Q rest (a.put d undef) w) : wpList P ops Q (⟨d, op, tt, pos, af, gd⟩ :: rest) a w := wpList_skip hw k
/-- a struct of a row, in a region that draws -/
theorem dL8 {n b o sz nn mm cp : Nat} {us vs : List Value} (hS : St w0 M cs w) (i : Nat) [hs : SubC fx cs] [h1 : TyN P ty n] [hp : PickG b fx e sz nn mm cp vs f] (hi : ops[i]? = some ⟨d, .load ty x, tt, pos, af, gd⟩) (hw : Region.wanted ⟨d, .load ty x, tt, pos, af, gd⟩ (yielded ops a.tmps) = true) (hx' : oval a x = some (.pointer (some ⟨b, o, none⟩))) (hus : ∀ (i : Nat) u, us[i]? = some u → vs[o + i]? = some u)
    (h : wpAnyL P md ops Q (SF w0 M fx) late fuel (listed.setIfInBounds i true) (a.put d (.agg us.toArray)) w) (hl : us.length = n := by rfl) (hn : Region.noSelect ops = true := by kernel_rfl) (hf : (Region.free md ops listed i && lateOk md ops late i) = true := by kernel_rfl) (hr : (Region.ready md ops listed).contains i = true := by kernel_rfl) (hQ : ∀ c a v w, Q (.panic c) (a.put d v) w → Q (.panic c) a w := by exact fun _ _ _ _ h => h) :
    wpAnyL P md ops Q (SF w0 M fx) late (fuel + 1) listed a w :=
  dr_loadN h1 hS i hi hn hf hr hQ hw hx' hl (fun w hw' j u hu => by
    have ho : w.ownsRow 0 e sz (.slice (some ⟨b, 0, none⟩) mm cp) nn vs := hw'.ok (c := row (.slice (some ⟨b, 0, none⟩) mm cp) e sz nn vs) (by rw [hp.eq]; exact gap_mem hp.gap)
    have h2 := ho.cells (g := b) rfl (o + j) u (hus j u hu)
    rw [add_mk, Nat.zero_add] at h2
    exact h2) h
end
theorem pt_at' {l : List (Nat × Int)} {j : Nat} (hj : j < l.length) : ∀ (i : Nat) u, ([.int .i64 (l[j].1 : Int), .int .i64 l[j].2] : List Value)[i]? = some u → (l.flatMap ptCells)[j * 2 + i]? = some u := by
  induction l generalizing j with
  | nil => simp at hj
  | cons a l ih =>
    intro i u h
    rw [List.flatMap_cons]
    match j with
    | 0 =>
      simp only [List.getElem_cons_zero, Nat.zero_mul, Nat.zero_add] at h ⊢
      have hi : i < 2 := by have := (List.getElem?_eq_some_iff.1 h).1; simpa using this
      rw [List.getElem?_append_left (by simpa [ptCells] using hi)]
      simpa [ptCells] using h
    | j + 1 =>
      simp only [List.getElem_cons_succ] at h
      rw [List.getElem?_append_right (by simp [ptCells]; omega)]
      have := ih (by simpa using hj) i u h
      simp only [ptCells, List.length_cons, List.length_nil]
      rw [show (j + 1) * 2 + i - (0 + 1 + 1) = j * 2 + i by omega]
      exact this
theorem allPts_nodup (p : Pat) : (allPts p).Pairwise (· ≠ ·) := by
  unfold allPts
  refine List.pairwise_flatMap.2 ⟨fun q _ => ?_, ?_⟩
  · rw [List.pairwise_map]
    refine List.Pairwise.imp ?_ (List.pairwise_lt_range)
    intro a b h e
    injection e with _ e
    omega
  · refine List.Pairwise.imp ?_ (List.pairwise_lt_range)
    intro a b h x hx y hy e
    simp only [List.mem_map, List.mem_range] at hx hy
    obtain ⟨j, _, rfl⟩ := hx
    obtain ⟨j', _, rfl⟩ := hy
    injection e with e _
    omega
theorem allPts_inj (p : Pat) {i k : Nat} (hi : i < (allPts p).length) (hk : k < (allPts p).length) : (allPts p)[i] = (allPts p)[k] ↔ i = k := by
  constructor
  · intro h
    rcases Nat.lt_trichotomy i k with hlt | rfl | hlt
    · exact absurd h (List.pairwise_iff_getElem.1 (allPts_nodup p) i k hi hk hlt)
    · rfl
    · exact absurd h.symm (List.pairwise_iff_getElem.1 (allPts_nodup p) k i hk hi hlt)
  · rintro rfl; rfl
end Go.Proofs.Ytkflmichekpfbaa
