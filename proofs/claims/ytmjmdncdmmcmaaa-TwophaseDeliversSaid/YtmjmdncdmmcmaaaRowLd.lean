/- Loads of structs out of rows. No condition. -/
import Derived.Test.YtmjmdncdmmcmaaaTail
import Derived.Test.YtmjmdncdmmcmaaaGc
namespace Go.Proofs.Ytmjmdncdmmcmaaa
open Go.RowKit
set_option linter.unusedVariables false
set_option linter.unusedSimpArgs false
set_option linter.unusedSectionVars false

section
variable {P : Program} {ops : Array Oper} {Q : Exit → Act → World → Prop} {a : Act} {w w0 : World} {M : Nat → Prop} {cs fx : List (Chunk w0 M)} {f : Chunk w0 M → List (Chunk w0 M)} {md : Region.Mode} {fuel : Nat} {listed : Array Bool} {late : List Nat} {rest : List Oper} {d : Option Tmp} {tt ty e : TypeId} {pos : String} {af : Array Edge} {gd : Option (Nat × Bool)} {x : Operand} {op : Op}
/-- a struct of a row -/
theorem sR8 {n b o sz nn mm cp : Nat} {us vs : List Value} (hS : St w0 M cs w) [h1 : TyN P ty n] [hp : PickG b cs e sz nn mm cp vs f] (hw : Region.wanted ⟨d, .load ty x, tt, pos, af, gd⟩ (yielded ops a.tmps) = true) (hx' : oval a x = some (.pointer (some ⟨b, o, none⟩))) (hus : ∀ (i : Nat) u, us[i]? = some u → vs[o + i]? = some u) (hl : us.length = n)
    (k : wpList P ops Q rest (a.put d (.agg us.toArray)) w) : wpList P ops Q (⟨d, .load ty x, tt, pos, af, gd⟩ :: rest) a w := by
  have ho : w.ownsRow 0 e sz (.slice (some ⟨b, 0, none⟩) mm cp) nn vs := (hp.eq ▸ hS : St w0 M (f (row (.slice (some ⟨b, 0, none⟩) mm cp) e sz nn vs)) w).at_ hp.gap
  refine st_loadN h1 hw hx' hl (fun i u hu => ?_) k
  have h2 := ho.cells (g := b) rfl (o + i) u (hus i u hu)
  rw [add_mk, Nat.zero_add] at h2
  exact h2
/-- a block as a row -/
theorem St.blkRw {g n sz : Nat} {vs : List Value} (h : St w0 M cs w) [hp : PickB g cs vs e f] (hn : vs.length = n * sz) (hc : n ≤ 9223372036854775807) : St w0 M (f (row (.slice (some ⟨g, 0, none⟩) n n) e sz n vs)) w := by
  have h' : St w0 M (f (blk g vs e)) w := hp.eq ▸ h
  have hb : w.heap[g]? = some (.cells vs.toArray e (0, 0)) := h'.at_ hp.gap
  refine h'.updG hp.gap (Keep.refl _ _) ⟨hn, .inr ⟨g, n, vs.toArray, rfl, Nat.zero_le _, hb, Nat.le_refl _, hc, by simpa using hn, by rw [← hn]; simp⟩⟩ (fun k hk => .inl ?_)
  injection hk with hk
  exact hk.symm
end
/-- structs of sz cells, one behind another -/
theorem flat_at {α : Type} {f : α → List Value} {sz : Nat} (hsz : ∀ x, (f x).length = sz) : ∀ {l : List α} {j : Nat} (hj : j < l.length) (i : Nat) (u : Value), (f l[j])[i]? = some u → (l.flatMap f)[j * sz + i]? = some u
  | [], j, hj, _, _, _ => by simp at hj
  | a :: l, 0, hj, i, u, h => by
    have h : (f a)[i]? = some u := h
    rw [List.flatMap_cons, Nat.zero_mul, Nat.zero_add, List.getElem?_append_left (List.getElem?_eq_some_iff.1 h).1]
    exact h
  | a :: l, j + 1, hj, i, u, h => by
    rw [List.flatMap_cons, List.getElem?_append_right (by rw [hsz, Nat.succ_mul]; omega), hsz, show (j + 1) * sz + i - sz = j * sz + i by rw [Nat.succ_mul]; omega]
    exact flat_at hsz (l := l) (by simpa using hj) i u h
theorem flat_len {α : Type} {f : α → List Value} {sz : Nat} (hsz : ∀ x, (f x).length = sz) (l : List α) : (l.flatMap f).length = l.length * sz := by
  induction l with
  | nil => simp
  | cons a l ih => rw [List.flatMap_cons, List.length_append, ih, hsz, List.length_cons, Nat.succ_mul]; omega
end Go.Proofs.Ytmjmdncdmmcmaaa
