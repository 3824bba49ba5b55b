/- Loads of data that a call has made and no longer changes. No condition. -/
import Derived.Test.YtmjmdncdmmcmaaaFroz
namespace Go.Proofs.Ytmjmdncdmmcmaaa
open Go.RowKit
set_option linter.unusedVariables false
set_option linter.unusedSectionVars false

/-- a cell of data -/
structure FC (T : Nat → Prop) (u : World) (b j : Nat) (v : Value) : Prop where
  t : T b
  c : u.cell? ⟨b, j, none⟩ = some v
/-- some cells of data -/
structure FCs (T : Nat → Prop) (u : World) (b j : Nat) (us : List Value) : Prop where
  t : T b
  c : Cells u b j us
theorem froz_cell {w0 w u : World} {M T : Nat → Prop} (h : (froz T u : Chunk w0 M).ok w) {b j : Nat} {v : Value} (ht : T b) (hc : u.cell? ⟨b, j, none⟩ = some v) : w.cell? ⟨b, j, none⟩ = some v := by
  rw [← hc]
  simp only [World.cell?, (h b ht).2]
section
variable {P : Program} {ops : Array Oper} {Q : Exit → Act → World → Prop} {a : Act} {w w0 u : World} {M T : Nat → Prop} {cs fx : List (Chunk w0 M)} {md : Region.Mode} {fuel : Nat} {listed : Array Bool} {late : List Nat} {rest : List Oper} {d : Option Tmp} {tt ty : TypeId} {pos : String} {af : Array Edge} {gd : Option (Nat × Bool)} {x : Operand}
theorem st_ldf (hS : St w0 M cs w) (hw : Region.wanted ⟨d, .load ty x, tt, pos, af, gd⟩ (yielded ops a.tmps) = true) [h1 : Ty1 P ty] {b j : Nat} (hx' : oval a x = some (.pointer (some ⟨b, j, none⟩))) {v : Value} (hc : FC T u b j v) [hm : MemC (froz T u) cs]
    (k : wpList P ops Q rest (a.put d v) w) : wpList P ops Q (⟨d, .load ty x, tt, pos, af, gd⟩ :: rest) a w := st_load1 h1 hw hx' (froz_cell (hS.all _ hm.h) hc.t hc.c) k
theorem st_ldfs {n : Nat} (hS : St w0 M cs w) (hw : Region.wanted ⟨d, .load ty x, tt, pos, af, gd⟩ (yielded ops a.tmps) = true) [h1 : TyN P ty n] {b j : Nat} (hx' : oval a x = some (.pointer (some ⟨b, j, none⟩))) {us : List Value} (hc : FCs T u b j us) (hl : us.length = n) [hm : MemC (froz T u) cs]
    (k : wpList P ops Q rest (a.put d (.agg us.toArray)) w) : wpList P ops Q (⟨d, .load ty x, tt, pos, af, gd⟩ :: rest) a w := st_loadN h1 hw hx' hl (fun i u hu => froz_cell (hS.all _ hm.h) hc.t (hc.c i u hu)) k
theorem dr_ldf [hs : SubC fx cs] (hS : St w0 M cs w) (i : Nat) (hi : ops[i]? = some ⟨d, .load ty x, tt, pos, af, gd⟩) (hn : Region.noSelect ops = true) (hf : (Region.free md ops listed i && lateOk md ops late i) = true) (hr : (Region.ready md ops listed).contains i = true)
    (hQ : ∀ c a v w, Q (.panic c) (a.put d v) w → Q (.panic c) a w) (hw : Region.wanted ⟨d, .load ty x, tt, pos, af, gd⟩ (yielded ops a.tmps) = true) [h1 : Ty1 P ty] {b j : Nat} (hx' : oval a x = some (.pointer (some ⟨b, j, none⟩))) {v : Value} (hc : FC T u b j v) [hm : MemC (froz T u) fx]
    (h : wpAnyL P md ops Q (SF w0 M fx) late fuel (listed.setIfInBounds i true) (a.put d v) w) : wpAnyL P md ops Q (SF w0 M fx) late (fuel + 1) listed a w :=
  dr_load1 h1 hS i hi hn hf hr hQ hw hx' (fun w hw' => froz_cell (hw'.ok hm.h) hc.t hc.c) h
theorem dr_ldfs {n : Nat} [hs : SubC fx cs] (hS : St w0 M cs w) (i : Nat) (hi : ops[i]? = some ⟨d, .load ty x, tt, pos, af, gd⟩) (hn : Region.noSelect ops = true) (hf : (Region.free md ops listed i && lateOk md ops late i) = true) (hr : (Region.ready md ops listed).contains i = true)
    (hQ : ∀ c a v w, Q (.panic c) (a.put d v) w → Q (.panic c) a w) (hw : Region.wanted ⟨d, .load ty x, tt, pos, af, gd⟩ (yielded ops a.tmps) = true) [h1 : TyN P ty n] {b j : Nat} (hx' : oval a x = some (.pointer (some ⟨b, j, none⟩))) {us : List Value} (hc : FCs T u b j us) (hl : us.length = n) [hm : MemC (froz T u) fx]
    (h : wpAnyL P md ops Q (SF w0 M fx) late fuel (listed.setIfInBounds i true) (a.put d (.agg us.toArray)) w) : wpAnyL P md ops Q (SF w0 M fx) late (fuel + 1) listed a w :=
  dr_loadN h1 hS i hi hn hf hr hQ hw hx' hl (fun w hw' k u hu => froz_cell (hw'.ok hm.h) hc.t (hc.c k u hu)) h
end
end Go.Proofs.Ytmjmdncdmmcmaaa
