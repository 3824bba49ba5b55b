/- How states of the snapshot machine lie in memory. No condition. -/
import Derived.Test.YtmjmdncdmmcmaaaSnPure
import Derived.Test.YtmjmdncdmmcmaaaGa
namespace Go.Proofs.Ytmjmdncdmmcmaaa
open Go.RowKit
set_option linter.unusedVariables false

def pcCells (x : Pcl) : List Value := [.bool x.1, .int .i64 x.2]
def pcs (l : List Pcl) : List Value := l.flatMap pcCells
def bools (l : List Bool) : List Value := l.map .bool
theorem bools_len (l : List Bool) : (bools l).length = l.length := by simp [bools]
theorem bools_get {l : List Bool} {k : Nat} (h : k < l.length) : (bools l)[k]? = some (.bool (opOf l k)) := by simp [bools, opOf, h]
theorem bools_set (l : List Bool) (k : Nat) (b : Bool) : (bools l).set k (.bool b) = bools (l.set k b) := by simp [bools, List.map_set]
/-- values that stand for things, one by one -/
structure Rw2 {α : Type} (P : Value → α → Prop) (vs : List Value) (ls : List α) : Prop where
  n : vs.length = ls.length
  k : ∀ i (h : i < vs.length) (h' : i < ls.length), P vs[i] ls[i]
theorem Rw2.mono {α : Type} {P Q : Value → α → Prop} {vs : List Value} {ls : List α} (h : Rw2 P vs ls) (hm : ∀ v l, P v l → Q v l) : Rw2 Q vs ls := ⟨h.n, fun i h1 h2 => hm _ _ (h.k i h1 h2)⟩
theorem Rw2.set {α : Type} {P : Value → α → Prop} {vs : List Value} {ls : List α} (h : Rw2 P vs ls) (k : Nat) {v : Value} {l : α} (hv : P v l) : Rw2 P (vs.set k v) (ls.set k l) := by
  refine ⟨by rw [List.length_set, List.length_set]; exact h.n, fun i h1 h2 => ?_⟩
  rw [List.getElem_set, List.getElem_set]
  by_cases e : k = i
  · rw [if_pos e, if_pos e]; exact hv
  · rw [if_neg e, if_neg e]; exact h.k i _ _
theorem Rw2.rep {α : Type} {P : Value → α → Prop} {v : Value} {l : α} (n : Nat) (hv : P v l) : Rw2 P (List.replicate n v) (List.replicate n l) :=
  ⟨by simp, fun i h1 h2 => by simp; exact hv⟩
/-- the slice of a channel -/
def ChV (S : Nat → Prop) (w : World) (v : Value) (l : List Pcl) : Prop := ∃ A c, v = .slice A l.length c ∧ l.length ≤ c ∧ c ≤ 9223372036854775807 ∧ RV S w A (pcs l)
/-- the slice of what is recorded of a channel -/
def ReV (S : Nat → Prop) (w : World) (v : Value) (l : List Int) : Prop := ∃ A c, v = .slice A l.length c ∧ l.length ≤ c ∧ c ≤ 9223372036854775807 ∧ RI S w A l
theorem ReV.into {S S' : Nat → Prop} {w w' : World} (k : Into S S' w w') (v : Value) (l : List Int) (h : ReV S w v l) : ReV S' w' v l :=
  let ⟨A, c, e, h1, h2, h3⟩ := h; ⟨A, c, e, h1, h2, h3.into k⟩
theorem ChV.nil (S : Nat → Prop) (w : World) : ChV S w (.slice none 0 0) [] := ⟨none, 0, rfl, Nat.le_refl _, by omega, fun j u h => by simp [pcs] at h⟩
theorem ReV.nil (S : Nat → Prop) (w : World) : ReV S w (.slice none 0 0) [] := ⟨none, 0, rfl, Nat.le_refl _, by omega, fun j u h => by simp [ints] at h⟩
theorem ReV.one {S : Nat → Prop} {w : World} {v : Value} {l : List Int} (h : ReV S w v l) : v.oneCell' = true := by obtain ⟨A, c, rfl, _⟩ := h; rfl
theorem Rw2.ones {α : Type} {P : Value → α → Prop} {vs : List Value} {ls : List α} (h : Rw2 P vs ls) (h1 : ∀ v l, P v l → v.oneCell' = true) : ∀ u ∈ vs, u.oneCell' = true := fun u hu => by
  obtain ⟨i, hi, rfl⟩ := List.getElem_of_mem hu
  exact h1 _ _ (h.k i hi (by rw [← h.n]; exact hi))
/-- a slice of slices -/
def RW2 {α : Type} (P : (Nat → Prop) → World → Value → α → Prop) (S : Nat → Prop) (w : World) (A : Option Addr) (ls : List α) : Prop := ∃ vs, RV S w A vs ∧ Rw2 (P S w) vs ls
theorem RW2.into {α : Type} {P : (Nat → Prop) → World → Value → α → Prop} {S S' : Nat → Prop} {w w' : World} {A : Option Addr} {ls : List α} (h : RW2 P S w A ls) (k : Into S S' w w') (hp : ∀ v l, P S w v l → P S' w' v l) : RW2 P S' w' A ls :=
  let ⟨vs, h1, h2⟩ := h; ⟨vs, h1.into k, h2.mono hp⟩
/-- where a state lies -/
structure SV where
  A1 : Option Addr
  c1 : Nat
  A2 : Option Addr
  c2 : Nat
  A3 : Option Addr
  c3 : Nat
  A4 : Option Addr
  c4 : Nat
  A5 : Option Addr
  c5 : Nat
  A6 : Option Addr
  c6 : Nat
  A7 : Option Addr
  c7 : Nat
structure SnAt (S : Nat → Prop) (w : World) (v : SV) (s : Snp) : Prop where
  vals : RI S w v.A1 s.vals
  cnts : RI S w v.A2 s.cnts
  chs : RW2 ChV S w v.A3 s.chs
  cut : RI S w v.A4 s.cut
  saved : RI S w v.A5 s.saved
  opn : RV S w v.A6 (bools s.opn)
  recs : RW2 ReV S w v.A7 s.recs
theorem RV.row2 {S : Nat → Prop} {w : World} {A : Option Addr} {vs : List Value} (h : RV S w A vs) {k : Nat} (hk : k < vs.length) : ∃ b o, A = some ⟨b, o, .none⟩ ∧ S b ∧ w.cell? ⟨b, o + k, .none⟩ = some vs[k] := h k _ (List.getElem?_eq_getElem hk)
end Go.Proofs.Ytmjmdncdmmcmaaa
