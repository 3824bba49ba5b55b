/- How states of the snapshot machine lie in memory. No condition. -/
import Derived.Test.YtmjmdncdmmcmaaaSnPure
import Derived.Test.YtmjmdncdmmcmaaaGa
namespace Go.Proofs.Ytmjmdncdmmcmaaa
open Go.RowKit
set_option linter.unusedVariables false

def pcCells (x : Pcl) : List Value := [.bool x.1, .int .i64 x.2]
def pcs (l : List Pcl) : List Value := l.flatMap pcCells
theorem pcs_len (l : List Pcl) : (pcs l).length = l.length * 2 := by
  unfold pcs
  induction l with
  | nil => rfl
  | cons a l ih => simp [pcCells] at ih ⊢; omega
theorem pcs_append (l m : List Pcl) : pcs (l ++ m) = pcs l ++ pcs m := by simp [pcs]
theorem pcs_one (x : Pcl) : pcs [x] = [.bool x.1, .int .i64 x.2] := by simp [pcs, pcCells]
theorem pcs_cons (x : Pcl) (l : List Pcl) : pcs (x :: l) = .bool x.1 :: .int .i64 x.2 :: pcs l := by simp [pcs, pcCells]
theorem pcs_at {l : List Pcl} {j : Nat} (hj : j < l.length) : ∀ (i : Nat) u, ([.bool l[j].1, .int .i64 l[j].2] : List Value)[i]? = some u → (pcs l)[j * 2 + i]? = some u := by
  induction l generalizing j with
  | nil => simp at hj
  | cons a l ih =>
    intro i u h
    rw [pcs_cons]
    match j with
    | 0 =>
      simp only [List.getElem_cons_zero] at h
      match i with
      | 0 => simpa using h
      | 1 => simpa using h
      | i + 2 => simp at h
    | j + 1 =>
      simp only [List.getElem_cons_succ] at h
      have := ih (by simpa using hj) i u h
      rw [show (j + 1) * 2 + i = (j * 2 + i) + 1 + 1 by omega, List.getElem?_cons_succ, List.getElem?_cons_succ]
      exact this
def bools (l : List Bool) : List Value := l.map .bool
theorem bools_len (l : List Bool) : (bools l).length = l.length := by simp [bools]
theorem bools_get {l : List Bool} {k : Nat} (h : k < l.length) : (bools l)[k]? = some (.bool (opOf l k)) := by simp [bools, opOf, h]
theorem bools_set (l : List Bool) (k : Nat) (b : Bool) : (bools l).set k (.bool b) = bools (l.set k b) := by simp [bools, List.map_set]
/-- values that stand for things, one by one -/
structure Rw2 {α : Type} (P : Value → α → Prop) (vs : List Value) (ls : List α) : Prop where
  n : vs.length = ls.length
  k : ∀ i (h : i < vs.length) (h' : i < ls.length), P vs[i] ls[i]
theorem Rw2.mono {α : Type} {P Q : Value → α → Prop} {vs : List Value} {ls : List α} (h : Rw2 P vs ls) (hm : ∀ v l, P v l → Q v l) : Rw2 Q vs ls := ⟨h.n, fun i h1 h2 => hm _ _ (h.k i h1 h2)⟩
theorem Rw2.set {α : Type} {P : Value → α → Prop} {vs : List Value} {ls : List α} (h : Rw2 P vs ls) (k : Nat) {v : Value} {l : α} (hv : P v l) : Rw2 P (vs.set k v) (ls.set k l) := by
  refine ⟨by rw [List.length_set, List.length_set]; exact h.n, fun i h1 h2 => ?_⟩
  rw [List.getElem_set, List.getElem_set]
  by_cases e : k = i
  · rw [if_pos e, if_pos e]; exact hv
  · rw [if_neg e, if_neg e]; exact h.k i _ _
theorem Rw2.nil {α : Type} (P : Value → α → Prop) : Rw2 P [] [] := ⟨rfl, fun i h => absurd h (by simp)⟩
theorem Rw2.snoc {α : Type} {P : Value → α → Prop} {vs : List Value} {ls : List α} (h : Rw2 P vs ls) {v : Value} {l : α} (hv : P v l) : Rw2 P (vs ++ [v]) (ls ++ [l]) := by
  have hn := h.n
  refine ⟨by simp [hn], fun i h1 h2 => ?_⟩
  rw [List.getElem_append, List.getElem_append]
  by_cases e : i < vs.length
  · rw [dif_pos e, dif_pos (by omega)]; exact h.k i _ _
  · rw [dif_neg e, dif_neg (by omega)]
    simp only [List.length_append, List.length_singleton] at h1 h2
    simp only [show i - vs.length = 0 by omega, show i - ls.length = 0 by omega, List.getElem_cons_zero]
    exact hv
theorem Rw2.rep {α : Type} {P : Value → α → Prop} {v : Value} {l : α} (n : Nat) (hv : P v l) : Rw2 P (List.replicate n v) (List.replicate n l) :=
  ⟨by simp, fun i h1 h2 => by simp; exact hv⟩
/-- the slice of a channel -/
def ChV (S : Nat → Prop) (w : World) (v : Value) (l : List Pcl) : Prop := ∃ A c, v = .slice A l.length c ∧ l.length ≤ c ∧ c ≤ 9223372036854775807 ∧ RV S w A (pcs l)
/-- the slice of what is recorded of a channel -/
def ReV (S : Nat → Prop) (w : World) (v : Value) (l : List Int) : Prop := ∃ A c, v = .slice A l.length c ∧ l.length ≤ c ∧ c ≤ 9223372036854775807 ∧ RI S w A l
theorem ChV.into {S S' : Nat → Prop} {w w' : World} (k : Into S S' w w') (v : Value) (l : List Pcl) (h : ChV S w v l) : ChV S' w' v l :=
  let ⟨A, c, e, h1, h2, h3⟩ := h; ⟨A, c, e, h1, h2, h3.into k⟩
theorem ReV.into {S S' : Nat → Prop} {w w' : World} (k : Into S S' w w') (v : Value) (l : List Int) (h : ReV S w v l) : ReV S' w' v l :=
  let ⟨A, c, e, h1, h2, h3⟩ := h; ⟨A, c, e, h1, h2, h3.into k⟩
theorem ChV.nil (S : Nat → Prop) (w : World) : ChV S w (.slice none 0 0) [] := ⟨none, 0, rfl, Nat.le_refl _, by omega, fun j u h => by simp [pcs] at h⟩
theorem ReV.nil (S : Nat → Prop) (w : World) : ReV S w (.slice none 0 0) [] := ⟨none, 0, rfl, Nat.le_refl _, by omega, fun j u h => by simp [ints] at h⟩
theorem ChV.one {S : Nat → Prop} {w : World} {v : Value} {l : List Pcl} (h : ChV S w v l) : v.oneCell' = true := by obtain ⟨A, c, rfl, _⟩ := h; rfl
theorem ReV.one {S : Nat → Prop} {w : World} {v : Value} {l : List Int} (h : ReV S w v l) : v.oneCell' = true := by obtain ⟨A, c, rfl, _⟩ := h; rfl
theorem Rw2.ones {α : Type} {P : Value → α → Prop} {vs : List Value} {ls : List α} (h : Rw2 P vs ls) (h1 : ∀ v l, P v l → v.oneCell' = true) : ∀ u ∈ vs, u.oneCell' = true := fun u hu => by
  obtain ⟨i, hi, rfl⟩ := List.getElem_of_mem hu
  exact h1 _ _ (h.k i hi (by rw [← h.n]; exact hi))
/-- a slice of slices -/
def RW2 {α : Type} (P : (Nat → Prop) → World → Value → α → Prop) (S : Nat → Prop) (w : World) (A : Option Addr) (ls : List α) : Prop := ∃ vs, RV S w A vs ∧ Rw2 (P S w) vs ls
theorem RW2.into {α : Type} {P : (Nat → Prop) → World → Value → α → Prop} {S S' : Nat → Prop} {w w' : World} {A : Option Addr} {ls : List α} (h : RW2 P S w A ls) (k : Into S S' w w') (hp : ∀ v l, P S w v l → P S' w' v l) : RW2 P S' w' A ls :=
  let ⟨vs, h1, h2⟩ := h; ⟨vs, h1.into k, h2.mono hp⟩
/-- where a state lies -/
structure SV where
  A1 : Option Addr
  c1 : Nat
  A2 : Option Addr
  c2 : Nat
  A3 : Option Addr
  c3 : Nat
  A4 : Option Addr
  c4 : Nat
  A5 : Option Addr
  c5 : Nat
  A6 : Option Addr
  c6 : Nat
  A7 : Option Addr
  c7 : Nat
def SV.cells (v : SV) (n m : Nat) : List Value := [.slice v.A1 n v.c1, .slice v.A2 n v.c2, .slice v.A3 m v.c3, .slice v.A4 n v.c4, .slice v.A5 n v.c5, .slice v.A6 m v.c6, .slice v.A7 m v.c7]
def SV.val (v : SV) (n m : Nat) : Value := .agg (v.cells n m).toArray
structure SnAt (S : Nat → Prop) (w : World) (v : SV) (s : Snp) : Prop where
  vals : RI S w v.A1 s.vals
  cnts : RI S w v.A2 s.cnts
  chs : RW2 ChV S w v.A3 s.chs
  cut : RI S w v.A4 s.cut
  saved : RI S w v.A5 s.saved
  opn : RV S w v.A6 (bools s.opn)
  recs : RW2 ReV S w v.A7 s.recs
theorem SnAt.into {S S' : Nat → Prop} {w w' : World} {v : SV} {s : Snp} (h : SnAt S w v s) (k : Into S S' w w') : SnAt S' w' v s :=
  ⟨h.vals.into k, h.cnts.into k, h.chs.into k (ChV.into k), h.cut.into k, h.saved.into k, h.opn.into k, h.recs.into k (ReV.into k)⟩
theorem SnAt.ext {S : Nat → Prop} {w w' : World} {v : SV} {s : Snp} (h : SnAt S w v s) (k : Ext w w') : SnAt S w' v s := h.into (Into.ofExt k)
def SV.none : SV := ⟨.none, 0, .none, 0, .none, 0, .none, 0, .none, 0, .none, 0, .none, 0⟩
theorem SnAt.none (S : Nat → Prop) (w : World) : SnAt S w .none .none where
  vals := fun j u h => by simp [Snp.none, ints] at h
  cnts := fun j u h => by simp [Snp.none, ints] at h
  chs := ⟨[], fun j u h => by simp at h, Rw2.nil _⟩
  cut := fun j u h => by simp [Snp.none, ints] at h
  saved := fun j u h => by simp [Snp.none, ints] at h
  opn := fun j u h => by simp [Snp.none, bools] at h
  recs := ⟨[], fun j u h => by simp at h, Rw2.nil _⟩
theorem RV.row2 {S : Nat → Prop} {w : World} {A : Option Addr} {vs : List Value} (h : RV S w A vs) {k : Nat} (hk : k < vs.length) : ∃ b o, A = some ⟨b, o, .none⟩ ∧ S b ∧ w.cell? ⟨b, o + k, .none⟩ = some vs[k] := h k _ (List.getElem?_eq_getElem hk)
end Go.Proofs.Ytmjmdncdmmcmaaa
