/- How patterns lie in memory. No condition. -/
import Derived.Test.YtkaofbjppibdkaaRows
import Derived.Test.YtkaofbjppibdkaaMem
import Derived.Test.YtkaofbjppibdkaaPat
namespace Go.Proofs.Ytkaofbjppibdkaa
open Go.RowKit
set_option linter.unusedVariables false

theorem ety_int : ElemTy Try.prog 22 3 1 8 := ElemTy.mk' (z := .int .i64 0) Try.underlying22 (by kernel_rfl) rfl (by omega) (by omega)
theorem ety_row : ElemTy Try.prog 26 22 1 24 := ElemTy.mk' (z := .slice none 0 0) Try.underlying26 (by kernel_rfl) rfl (by omega) (by omega)
theorem ety_arc : ElemTy Try.prog 52 62 4 32 := ElemTy.mk' (z := .agg #[.int .i64 0, .int .i64 0, .int .i64 0, .int .i64 0]) Try.underlying52 (by kernel_rfl) rfl (by omega) (by omega)

theorem RI.atN {S : Nat → Prop} {w : World} {A : Option Addr} {xs : List Int} (h : RI S w A xs) {k : Nat} (hk : k < xs.length) : ∃ b o, A = some ⟨b, o, none⟩ ∧ w.cell? ⟨b, o + k, none⟩ = some (.int .i64 (nth xs k)) := by
  rw [nth_eq hk]; exact h.at_ hk

/-- one row of a list of lists -/
def repRow (S : Nat → Prop) (w : World) (cs : List Value) (l : List Int) : Prop := ∃ A c, cs = [.slice A l.length c] ∧ l.length ≤ c ∧ c ≤ 9223372036854775807 ∧ RI S w A l
def RR (S : Nat → Prop) (w : World) (A : Option Addr) (ls : List (List Int)) : Prop := RL (repRow S) 1 S w A ls
theorem repRow.into {S S' : Nat → Prop} {w w' : World} (k : Into S S' w w') (cs : List Value) (l : List Int) (h : repRow S w cs l) : repRow S' w' cs l :=
  let ⟨A, c, e, h1, h2, h3⟩ := h; ⟨A, c, e, h1, h2, h3.into k⟩
theorem RR.into {S S' : Nat → Prop} {w w' : World} {A : Option Addr} {ls : List (List Int)} (h : RR S w A ls) (k : Into S S' w w') : RR S' w' A ls := RL.into h k (repRow.into k)
theorem repRow.one {S : Nat → Prop} {w : World} (cs : List Value) (l : List Int) (h : repRow S w cs l) : ∀ u ∈ cs, u.oneCell' = true := by
  obtain ⟨A, c, rfl, _⟩ := h; simp [Value.oneCell']
theorem RR.at_ {S : Nat → Prop} {w : World} {A : Option Addr} {ls : List (List Int)} (h : RR S w A ls) {j : Nat} (hj : j < ls.length) :
    ∃ b o B c, A = some ⟨b, o, none⟩ ∧ w.cell? ⟨b, o + j, none⟩ = some (.slice B (rowOf ls j).length c) ∧ (rowOf ls j).length ≤ c ∧ c ≤ 9223372036854775807 ∧ RI S w B (rowOf ls j) := by
  obtain ⟨b, o, cs, rfl, _, ⟨B, c, rfl, h1, h2, h3⟩, hc⟩ := RL.at_ h hj (by omega)
  rw [rowOf_eq hj]
  exact ⟨b, o, B, c, rfl, by simpa using hc 0 (by omega), h1, h2, h3⟩

def arcCells (a : Arc) : List Value := [.int .i64 (a.fr : Int), .int .i64 a.ix, .int .i64 (a.to : Int), .int .i64 a.at_]
def repArc (w : World) (cs : List Value) (a : Arc) : Prop := cs = arcCells a
def RA (S : Nat → Prop) (w : World) (A : Option Addr) (az : List Arc) : Prop := RL repArc 4 S w A az
theorem RA.into {S S' : Nat → Prop} {w w' : World} {A : Option Addr} {az : List Arc} (h : RA S w A az) (k : Into S S' w w') : RA S' w' A az := RL.into h k (fun _ _ h => h)
theorem repArc.one {w : World} (cs : List Value) (a : Arc) (h : repArc w cs a) : ∀ u ∈ cs, u.oneCell' = true := by
  rw [show cs = arcCells a from h]; simp [arcCells, Value.oneCell']
def arc0 : Arc := ⟨0, 0, 0, 0⟩
/-- message i -/
def arcOf (az : List Arc) (i : Nat) : Arc := az.getD i arc0
theorem arcOf_eq {az : List Arc} {i : Nat} (h : i < az.length) : arcOf az i = az[i] := by simp [arcOf, h]
theorem arcOf_mem {az : List Arc} {i : Nat} (h : i < az.length) : arcOf az i ∈ az := by rw [arcOf_eq h]; exact List.getElem_mem h
theorem RA.at_ {S : Nat → Prop} {w : World} {A : Option Addr} {az : List Arc} (h : RA S w A az) {j : Nat} (hj : j < az.length) :
    ∃ b o, A = some ⟨b, o, none⟩ ∧ w.cell? ⟨b, o + j * 4, none⟩ = some (.int .i64 ((arcOf az j).fr : Int)) ∧ w.cell? ⟨b, o + j * 4 + 1, none⟩ = some (.int .i64 (arcOf az j).ix) ∧ w.cell? ⟨b, o + j * 4 + 2, none⟩ = some (.int .i64 ((arcOf az j).to : Int)) ∧ w.cell? ⟨b, o + j * 4 + 3, none⟩ = some (.int .i64 (arcOf az j).at_) := by
  obtain ⟨b, o, cs, rfl, _, hr, hc⟩ := RL.at_ h hj (by omega)
  have e : cs = arcCells az[j] := hr
  subst e
  rw [arcOf_eq hj]
  exact ⟨b, o, rfl, by simpa [arcCells] using hc 0 (by omega), by simpa [arcCells] using hc 1 (by omega), by simpa [arcCells] using hc 2 (by omega), by simpa [arcCells] using hc 3 (by omega)⟩

/-- where a pattern lies -/
structure PV where
  A1 : Option Addr
  c1 : Nat
  A2 : Option Addr
  c2 : Nat
  A3 : Option Addr
  c3 : Nat
def PV.val (v : PV) (p : Pat) : Value := .agg #[.slice v.A1 p.len.length v.c1, .slice v.A2 p.ck.length v.c2, .slice v.A3 p.arcs.length v.c3]
structure PatAt (S : Nat → Prop) (w : World) (v : PV) (p : Pat) : Prop where
  len : RI S w v.A1 p.len
  ck : RR S w v.A2 p.ck
  arcs : RA S w v.A3 p.arcs
  l1 : p.len.length ≤ v.c1
  m1 : v.c1 ≤ 9223372036854775807
  l2 : p.ck.length ≤ v.c2
  m2 : v.c2 ≤ 9223372036854775807
  l3 : p.arcs.length ≤ v.c3
  m3 : v.c3 ≤ 9223372036854775807
theorem PatAt.into {S S' : Nat → Prop} {w w' : World} {v : PV} {p : Pat} (h : PatAt S w v p) (k : Into S S' w w') : PatAt S' w' v p :=
  ⟨h.len.into k, h.ck.into k, h.arcs.into k, h.l1, h.m1, h.l2, h.m2, h.l3, h.m3⟩
theorem PatAt.ext {S : Nat → Prop} {w w' : World} {v : PV} {p : Pat} (h : PatAt S w v p) (k : Ext w w') : PatAt S w' v p := h.into (Into.ofExt k)
end Go.Proofs.Ytkaofbjppibdkaa
