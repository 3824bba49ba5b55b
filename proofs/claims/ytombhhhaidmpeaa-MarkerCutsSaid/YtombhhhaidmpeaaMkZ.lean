/- make: a new row of zero values. No condition. -/
import Derived.Test.YtombhhhaidmpeaaGc
namespace Go.Proofs.Ytombhhhaidmpeaa
open Go.RowKit
set_option linter.unusedVariables false
set_option linter.unusedSectionVars false

/-- make: all elements are the zero value, one cell each -/
theorem st_mkZ {P : Program} {ops : Array Oper} {Q : Exit → Act → World → Prop} {a : Act} {w w0 : World} {M : Nat → Prop} {cs : List (Chunk w0 M)} {rest : List Oper} {d : Option Tmp} {tt ty e : TypeId} {pos : String} {af : Array Edge} {gd : Option (Nat × Bool)} {x y : Operand} {bytes n : Nat} {z1 z2 : Int} {u : Value} (hS : St w0 M cs w) [hT : ElemC P ty e 1 bytes] [hz : TyZ P e [u]] (hw : Region.wanted ⟨d, .makeSlice ty x y, tt, pos, af, gd⟩ (yielded ops a.tmps) = true)
    (hx' : oval a x = some (.int .i64 z1)) (hy' : oval a y = some (.int .i64 z2)) (h1 : z1 = n) (h2 : z2 = n) (hb : bytes * n ≤ 140737488355328)
    (k : ∀ g w', St w0 M (row (.slice (some ⟨g, 0, none⟩) n n) e 1 n (List.replicate n u) :: cs) w' → wpList P ops Q rest (a.put d (.slice (some ⟨g, 0, none⟩) n n)) w') : wpList P ops Q (⟨d, .makeSlice ty x y, tt, pos, af, gd⟩ :: rest) a w := by
  refine st_mkG (n := n) hS hw hx' hy' h1 h2 hb ?_
  intro g w' z hz' h
  have hzc : z.cells = #[u] := by
    have h3 := hz.zero
    cases hi : P.info? e with
    | none => rw [hi] at h3; cases h3
    | some i =>
      rw [hi] at h3 hz'
      simp only [Option.map_some, Option.some.injEq] at h3 hz'
      rw [hz'] at h3
      simp only [Option.map_some, Option.some.injEq] at h3
      exact Array.toList_inj.1 h3
  rw [made1 hzc, Nat.mul_one] at h
  exact k g w' h
end Go.Proofs.Ytombhhhaidmpeaa
