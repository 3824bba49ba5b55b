/- Memory words: a slice that reads as a list; what stays as it was; small facts on lists and numbers. No condition. -/
import Derived.WalkKit
import Derived.WalkSpells
import Derived.WalkLawsBesides
import Derived.Lib.Hide
import Derived.Deep.QuietTactic
import Derived.BigQuiet
import Derived.Maps.AppendAt
import Derived.Laws.CopyOwn
import Derived.StillTailTactics
import Derived.Deep.RegionHeld3
import Derived.Test.YtmjmdncdmmcmaaaRows
import Derived.Laws.EntriesVeiled
import Derived.BigRegion
namespace Go.Proofs.Ytmjmdncdmmcmaaa
open Go.RowKit

theorem lt_of_cell {w : World} {p : Addr} {u : Value} (h : w.cell? p = some u) : p.block < w.heap.size := by
  rcases Nat.lt_or_ge p.block w.heap.size with hlt | hge
  · exact hlt
  · unfold World.cell? at h; rw [Array.getElem?_eq_none hge] at h; cases h

/-- of the blocks in S none has changed -/
structure Keep (S : Nat → Prop) (w w' : World) : Prop where
  os : w'.os = w.os
  tape : w'.tape = w.tape
  output : w'.output = w.output
  size : w.heap.size ≤ w'.heap.size
  block : ∀ k, k < w.heap.size → S k → w'.heap[k]? = w.heap[k]?

/-- nothing that lay in memory has changed -/
abbrev Ext (w w' : World) : Prop := Below w.heap.size w w'
abbrev All : Nat → Prop := fun _ => True

theorem Keep.refl (S : Nat → Prop) (w : World) : Keep S w w := ⟨rfl, rfl, rfl, Nat.le_refl _, fun _ _ _ => rfl⟩
theorem Keep.trans {S : Nat → Prop} {a b c : World} (h : Keep S a b) (k : Keep S b c) : Keep S a c :=
  ⟨k.os.trans h.os, k.tape.trans h.tape, k.output.trans h.output, Nat.le_trans h.size k.size, fun i hi hs => (k.block i (Nat.lt_of_lt_of_le hi h.size) hs).trans (h.block i hi hs)⟩
theorem Keep.drewN {S : Nat → Prop} {a b : World} (h : Keep S a b) (n : Nat) : Keep S a (b.drewN n) := ⟨h.os, h.tape, h.output, h.size, h.block⟩
theorem Keep.ofExt {S : Nat → Prop} {a b : World} (h : Ext a b) : Keep S a b := ⟨h.os, h.tape, h.output, h.size, fun i hi _ => h.block i hi⟩
theorem Keep.ext {a b : World} {S : Nat → Prop} (h : Keep S a b) (hs : ∀ k, k < a.heap.size → S k) : Ext a b := ⟨h.os, h.tape, h.output, h.size, fun i hi => h.block i hi (hs i hi)⟩
theorem Keep.below {a b : World} {S : Nat → Prop} {B : Nat} (h : Keep S a b) (hB : B ≤ a.heap.size) (hs : ∀ k, k < B → S k) : Below B a b := ⟨h.os, h.tape, h.output, h.size, fun i hi => h.block i (by omega) (hs i hi)⟩
theorem Keep.cell {S : Nat → Prop} {w w' : World} (h : Keep S w w') {p : Addr} {u : Value} (hs : S p.block) (hc : w.cell? p = some u) : w'.cell? p = some u :=
  (World.cell?_of_block (w := w) (h.block p.block (lt_of_cell hc) hs)).trans hc
theorem Ext.cell {w w' : World} (h : Ext w w') {p : Addr} {u : Value} (hc : w.cell? p = some u) : w'.cell? p = some u :=
  (Below.cell h (lt_of_cell hc)).trans hc
theorem Ext.trans' {a b c : World} (h : Ext a b) (k : Ext b c) : Ext a c := Below.trans h (k.mono h.size)
theorem Ext.refl' (a : World) : Ext a a := Below.refl _ _
theorem Ext.drewN' {a b : World} (h : Ext a b) (n : Nat) : Ext a (b.drewN n) := ⟨h.os, h.tape, h.output, h.size, h.block⟩
theorem Ext.alloc' {a b : World} (h : Ext a b) (o : Obj) : Ext a (b.alloc o) := Below.alloc h h.size o

theorem add_mk (b o k : Nat) : (⟨b, o, none⟩ : Addr).add k = ⟨b, o + k, none⟩ := by unfold Addr.add; split <;> simp [*]
theorem spot_of_cell {w : World} {a : Addr} {u : Value} (h : w.cell? a = some u) : a = ⟨a.block, a.off, none⟩ := by
  obtain ⟨b, o, s⟩ := a
  cases s with
  | none => rfl
  | some s => unfold World.cell? at h; simp at h; split at h <;> cases h

/-- from address A on, in blocks of S, lie the cells vs -/
def RV (S : Nat → Prop) (w : World) (A : Option Addr) (vs : List Value) : Prop := ∀ j u, vs[j]? = some u → ∃ b o, A = some ⟨b, o, none⟩ ∧ S b ∧ w.cell? ⟨b, o + j, none⟩ = some u

section
variable {S S' : Nat → Prop} {w w' : World} {A : Option Addr} {vs : List Value}
theorem RV.keep (h : RV S w A vs) (k : Keep S w w') : RV S w' A vs := fun j u hu =>
  let ⟨b, o, e, hs, hc⟩ := h j u hu; ⟨b, o, e, hs, k.cell hs hc⟩
theorem RV.ext (h : RV S w A vs) (k : Ext w w') : RV S w' A vs := h.keep (.ofExt k)
theorem RV.sub (h : RV S w A vs) (hs : ∀ k, S k → S' k) : RV S' w A vs := fun j u hu =>
  let ⟨b, o, e, k, hc⟩ := h j u hu; ⟨b, o, e, hs _ k, hc⟩
theorem RV.nil_ (S : Nat → Prop) (w : World) (A : Option Addr) : RV S w A [] := fun j u hu => by simp at hu
theorem RV.at_ {k : Nat} (h : RV S w A vs) (hk : k < vs.length) : ∃ b o, A = some ⟨b, o, none⟩ ∧ w.cell? ⟨b, o + k, none⟩ = some vs[k] :=
  let ⟨b, o, e, _, hc⟩ := h k _ (List.getElem?_eq_getElem hk); ⟨b, o, e, hc⟩
theorem RV.at_block {k : Nat} (h : RV S w A vs) (hk : k < vs.length) : ∃ b o, A = some ⟨b, o, none⟩ ∧ S b :=
  let ⟨b, o, e, k, _⟩ := h k _ (List.getElem?_eq_getElem hk); ⟨b, o, e, k⟩
theorem RV.take (h : RV S w A vs) (k : Nat) : RV S w A (vs.take k) := fun j u hu => by
  rw [List.getElem?_take] at hu
  split at hu
  · exact h j u hu
  · cases hu
theorem RV.ofOwn {base : Nat} {e : TypeId} {size n c : Nat} (h : w.ownsRow base e size (.slice A n c) n vs) : RV (fun b => base ≤ b) w A vs := by
  intro j u hu
  obtain ⟨h1, h2⟩ := h
  rcases h2 with ⟨h3, h4⟩ | ⟨g, cap, cur, hv, hg, hh, hn, hm, hsz, htk⟩
  · subst h4; simp at h1; subst h1; simp at hu
  · injection hv with hA _ hcc; subst hA; subst hcc
    have := World.ownsRow.cells (base := base) (e := e) (size := size) (v := .slice (some ⟨g, 0, none⟩) n c) (n := n) ⟨h1, .inr ⟨g, _, cur, rfl, hg, hh, hn, hm, hsz, htk⟩⟩ rfl j u hu
    rw [add_mk] at this
    exact ⟨g, 0, rfl, hg, this⟩
theorem RV.ofOwn' {base : Nat} {e : TypeId} {size n c : Nat} (h : w.ownsRow base e size (.slice A n c) n vs) (hs : ∀ b, base ≤ b → S b) : RV S w A vs := (RV.ofOwn h).sub hs
end

abbrev ints (xs : List Int) : List Value := xs.map (Value.int .i64)
/-- from address A on, in blocks of S, lie the numbers xs -/
def RI (S : Nat → Prop) (w : World) (A : Option Addr) (xs : List Int) : Prop := RV S w A (ints xs)
section
variable {S S' : Nat → Prop} {w w' : World} {A : Option Addr} {xs : List Int}
theorem RI.keep (h : RI S w A xs) (k : Keep S w w') : RI S w' A xs := RV.keep h k
theorem RI.ext (h : RI S w A xs) (k : Ext w w') : RI S w' A xs := RV.ext h k
theorem RI.sub (h : RI S w A xs) (hs : ∀ k, S k → S' k) : RI S' w A xs := RV.sub h hs
theorem RI.at_ (h : RI S w A xs) {k : Nat} (hk : k < xs.length) : ∃ b o, A = some ⟨b, o, none⟩ ∧ w.cell? ⟨b, o + k, none⟩ = some (.int .i64 xs[k]) :=
  let ⟨b, o, e, _, hc⟩ := h k _ (by simp [hk]); ⟨b, o, e, hc⟩
end

section
variable {α : Type}
/-- the cells vs hold, sz a piece, the data xs -/
def Reps (rep : List Value → α → Prop) (sz : Nat) : List Value → List α → Prop
  | vs, [] => vs = []
  | vs, x :: xs => ∃ cs r, vs = cs ++ r ∧ cs.length = sz ∧ rep cs x ∧ Reps rep sz r xs
variable {rep rep' : List Value → α → Prop} {sz : Nat}
theorem Reps.length {vs : List Value} {xs : List α} (h : Reps rep sz vs xs) : vs.length = xs.length * sz := by
  induction xs generalizing vs with
  | nil => cases h; simp
  | cons x xs ih =>
    obtain ⟨cs, r, rfl, hl, _, hr⟩ := h
    rw [List.length_append, ih hr, hl, List.length_cons, Nat.succ_mul]; omega
theorem Reps.mono {vs : List Value} {xs : List α} (h : Reps rep sz vs xs) (hm : ∀ cs x, rep cs x → rep' cs x) : Reps rep' sz vs xs := by
  induction xs generalizing vs with
  | nil => exact h
  | cons x xs ih =>
    obtain ⟨cs, r, e, hl, h1, hr⟩ := h
    exact ⟨cs, r, e, hl, hm _ _ h1, ih hr⟩
theorem Reps.append {vs us : List Value} {xs ys : List α} (h : Reps rep sz vs xs) (k : Reps rep sz us ys) : Reps rep sz (vs ++ us) (xs ++ ys) := by
  induction xs generalizing vs with
  | nil => cases h; exact k
  | cons x xs ih =>
    obtain ⟨cs, r, rfl, hl, h1, hr⟩ := h
    exact ⟨cs, r ++ us, by simp, hl, h1, ih hr⟩
theorem Reps.one {cs : List Value} {x : α} (hl : cs.length = sz) (h : rep cs x) : Reps rep sz cs [x] := ⟨cs, [], by simp, hl, h, rfl⟩
theorem Reps.snoc {vs cs : List Value} {xs : List α} {x : α} (h : Reps rep sz vs xs) (hl : cs.length = sz) (k : rep cs x) : Reps rep sz (vs ++ cs) (xs ++ [x]) := h.append (.one hl k)
theorem Reps.at_ {vs : List Value} {xs : List α} (h : Reps rep sz vs xs) {j : Nat} (hj : j < xs.length) : ∃ cs, cs.length = sz ∧ rep cs xs[j] ∧ ∀ i, i < sz → vs[j * sz + i]? = cs[i]? := by
  induction xs generalizing vs j with
  | nil => simp at hj
  | cons x xs ih =>
    obtain ⟨cs, r, rfl, hl, h1, hr⟩ := h
    cases j with
    | zero => exact ⟨cs, hl, h1, fun i hi => by rw [Nat.zero_mul, Nat.zero_add, List.getElem?_append_left (by omega)]⟩
    | succ j =>
      obtain ⟨cs', hl', h1', hc⟩ := ih hr (by simpa using hj)
      refine ⟨cs', hl', h1', fun i hi => ?_⟩
      rw [← hc i hi, List.getElem?_append_right (by rw [hl, Nat.succ_mul]; omega)]
      congr 1; rw [hl, Nat.succ_mul]; omega
end
/-- a slice at A whose elements are the data xs -/
def RL {α : Type} (rep : World → List Value → α → Prop) (sz : Nat) (S : Nat → Prop) (w : World) (A : Option Addr) (xs : List α) : Prop := ∃ vs, RV S w A vs ∧ Reps (rep w) sz vs xs
section
variable {α : Type} {rep : World → List Value → α → Prop} {sz : Nat} {S S' : Nat → Prop} {w w' : World} {A : Option Addr} {xs : List α}
theorem RL.keep (h : RL rep sz S w A xs) (k : Keep S w w') (hm : ∀ cs x, rep w cs x → rep w' cs x) : RL rep sz S w' A xs :=
  let ⟨vs, h1, h2⟩ := h; ⟨vs, h1.keep k, h2.mono hm⟩
theorem RL.at_ (h : RL rep sz S w A xs) {j : Nat} (hj : j < xs.length) (hz : 0 < sz) : ∃ b o cs, A = some ⟨b, o, none⟩ ∧ cs.length = sz ∧ rep w cs xs[j] ∧ ∀ i, i < sz → w.cell? ⟨b, o + j * sz + i, none⟩ = cs[i]? := by
  obtain ⟨vs, h1, h2⟩ := h
  obtain ⟨cs, hl, hr, hc⟩ := h2.at_ hj
  obtain ⟨b, o, rfl, _, _⟩ := h1 (j * sz + 0) _ ((hc 0 hz).trans (List.getElem?_eq_getElem (by omega)))
  refine ⟨b, o, cs, rfl, hl, hr, fun i hi => ?_⟩
  have e := List.getElem?_eq_getElem (l := cs) (i := i) (by omega)
  obtain ⟨b', o', e', _, hcc⟩ := h1 (j * sz + i) _ ((hc i hi).trans e)
  injection e' with e'; injection e' with e1 e2; subst e1; subst e2
  rw [Nat.add_assoc, hcc, e]
end

theorem new_cells (w : World) (cs : List Value) (t : TypeId) (j : Nat) (u : Value) (h : cs[j]? = some u) : (w.alloc (.cells cs.toArray t)).cell? ⟨w.heap.size, 0 + j, none⟩ = some u := by
  have e : (w.alloc (.cells cs.toArray t)).heap[w.heap.size]? = some (.cells cs.toArray t) := by show (w.heap.push _)[w.heap.size]? = _; simp
  simp only [World.cell?, e]
  simpa using h
theorem ownsRow_nil (w : World) (base : Nat) (e : TypeId) (size : Nat) : w.ownsRow base e size (.slice none 0 0) 0 [] := ⟨by simp, .inl ⟨rfl, rfl⟩⟩
theorem own_form {w : World} {base : Nat} {e : TypeId} {size : Nat} {v : Value} {n : Nat} {vs : List Value} (h : w.ownsRow base e size v n vs) : ∃ A c, v = .slice A n c ∧ n ≤ c ∧ c ≤ 9223372036854775807 := by
  rcases h.2 with ⟨rfl, rfl⟩ | ⟨g, cap, cur, rfl, _, _, h1, h2, _⟩
  · exact ⟨none, 0, rfl, by omega, by omega⟩
  · exact ⟨_, cap, rfl, h1, by unfold maxLen at h2; omega⟩
theorem own_block {w : World} {base : Nat} {e : TypeId} {size : Nat} {v : Value} {n : Nat} {vs : List Value} (h : w.ownsRow base e size v n vs) : ∀ k, v.ownBlock = some k → base ≤ k := by
  rcases h.2 with ⟨rfl, rfl⟩ | ⟨g, cap, cur, rfl, hg, _⟩
  · intro k hk; simp [Value.ownBlock] at hk
  · intro k hk; simp [Value.ownBlock] at hk; omega
/-- what lies in blocks of S lies, unchanged, in blocks of S' -/
def Into (S S' : Nat → Prop) (w w' : World) : Prop := ∀ k, S k → k < w.heap.size → S' k ∧ w'.heap[k]? = w.heap[k]?
theorem Into.ofExt {S : Nat → Prop} {w w' : World} (h : Ext w w') : Into S S w w' := fun k hs hk => ⟨hs, h.block k hk⟩
theorem Into.ofKeep {S : Nat → Prop} {w w' : World} (h : Keep S w w') : Into S S w w' := fun k hs hk => ⟨hs, h.block k hk hs⟩
theorem Into.sub {S S' : Nat → Prop} (w : World) (h : ∀ k, S k → S' k) : Into S S' w w := fun k hs _ => ⟨h k hs, rfl⟩
theorem Into.subLt {S S' : Nat → Prop} (w : World) (h : ∀ k, S k → k < w.heap.size → S' k) : Into S S' w w := fun k hs hk => ⟨h k hs hk, rfl⟩
theorem lt_of_block {w : World} {k : Nat} {o : Obj} (h : w.heap[k]? = some o) : k < w.heap.size := (Array.getElem?_eq_some_iff.1 h).1
theorem RV.into {S S' : Nat → Prop} {w w' : World} {A : Option Addr} {vs : List Value} (h : RV S w A vs) (k : Into S S' w w') : RV S' w' A vs := fun j u hu =>
  let ⟨b, o, e, hs, hc⟩ := h j u hu
  have hlt : b < w.heap.size := lt_of_cell hc
  ⟨b, o, e, (k _ hs hlt).1, (World.cell?_of_block (w := w) (k _ hs hlt).2).trans hc⟩
theorem RI.into {S S' : Nat → Prop} {w w' : World} {A : Option Addr} {xs : List Int} (h : RI S w A xs) (k : Into S S' w w') : RI S' w' A xs := RV.into h k
theorem RL.into {α : Type} {rep rep' : World → List Value → α → Prop} {sz : Nat} {S S' : Nat → Prop} {w w' : World} {A : Option Addr} {xs : List α}
    (h : RL rep sz S w A xs) (k : Into S S' w w') (hm : ∀ cs x, rep w cs x → rep' w' cs x) : RL rep' sz S' w' A xs :=
  let ⟨vs, h1, h2⟩ := h; ⟨vs, h1.into k, h2.mono hm⟩
/-- what an append has done: the row v has become v' -/
structure Appd (w w' : World) (v v' : Value) : Prop where
  g : w.grownBy w' v.ownBlock
  at_ : v'.ownBlock = v.ownBlock ∨ v'.ownBlock = some w.heap.size
theorem Ext.app {w wr wa w1 : World} {v v' : Value} (h : Ext w wr) (hx : Ext wr wa) (ha : Appd wa w1 v v') (hv : ∀ k, v.ownBlock = some k → w.heap.size ≤ k) : Ext w w1 :=
  Below.grown (h.trans' hx) ha.g (h.trans' hx).size hv

/-- the slice type t, its element type e of so many cells and bytes -/
structure ElemTy (P : Program) (t e : TypeId) (size bytes : Nat) : Prop where
  ht : P.underlying t = some (.slice e)
  hi : ∃ i z, P.info? e = some i ∧ i.zero = some z ∧ i.size = size ∧ i.bytes = bytes ∧ z.cells.size = size
  hsz : 0 < size
  hby : 0 < bytes
theorem ElemTy.mk' {P : Program} {t e : TypeId} {size bytes : Nat} {z : Value} (ht : P.underlying t = some (.slice e)) (hi : (P.info? e).map (fun i => (i.zero, i.size, i.bytes)) = some (some z, size, bytes)) (hz : z.cells.size = size) (hsz : 0 < size) (hby : 0 < bytes) : ElemTy P t e size bytes := by
  obtain ⟨i0, hi, hz0, hz1, hz2⟩ := info_parts hi
  exact ⟨ht, ⟨i0, z, hi, hz0, hz1, hz2, hz⟩, hsz, hby⟩

theorem run_app_nil {P : Program} {t e : TypeId} {size bytes : Nat} (hT : ElemTy P t e size bytes) (w : World) (base : Nat) (ty : TypeId) (v : Value) (n : Nat) (xs : List Value) (hown : w.ownsRow base e size v n xs) (c : Nat) :
    (Builtin.append_ #[t, t] ty #[v, .slice none 0 c]).run P w = .ok v w := by
  obtain ⟨i, z, hi, _⟩ := hT.hi
  rcases hown.2 with ⟨rfl, rfl⟩ | ⟨g, cap, cur, rfl, _, _, hnc, _⟩
  · simp [Builtin.append_, run_underlying hT.ht, sizeOf, typeInfo, hi, Builtin.lenOf, Builtin.firstCells]
  · simp [Builtin.append_, run_underlying hT.ht, sizeOf, typeInfo, hi, Builtin.lenOf, Builtin.firstCells, hnc, storeCells]

theorem run_app {P : Program} {t e : TypeId} {size bytes : Nat} (hT : ElemTy P t e size bytes) (w : World) (base : Nat) (ty : TypeId) (v : Value) (n : Nat) (xs : List Value) (hown : w.ownsRow base e size v n xs)
    {S : Nat → Prop} (A : Option Addr) (m c : Nat) (news : List Value) (hl : news.length = m * size) (hr : RV S w A news) (h1 : ∀ u ∈ news, u.oneCell' = true) (hb : (n + m) * bytes ≤ 140737488355328) (hbase : base ≤ w.heap.size) :
    ∃ v' w', (Builtin.append_ #[t, t] ty #[v, .slice A m c]).run P w = .ok v' w' ∧ w'.ownsRow base e size v' (n + m) (xs ++ news) ∧ w.grownBy w' v.ownBlock ∧ (v'.ownBlock = v.ownBlock ∨ v'.ownBlock = some w.heap.size) := by
  cases A with
  | none =>
    have hn : news = [] := by
      cases news with
      | nil => rfl
      | cons u r => obtain ⟨b, o, e, _⟩ := hr 0 u rfl; cases e
    subst hn
    have hm : m = 0 := by
      rcases Nat.eq_zero_or_pos m with h0 | h0
      · exact h0
      · have := Nat.mul_pos h0 hT.hsz; simp at hl; omega
    subst hm
    exact ⟨v, w, run_app_nil hT w base ty v n xs hown c, by simpa using hown, World.grownBy.refl w _, .inl rfl⟩
  | some ad =>
    obtain ⟨i, z, hi, hz, hs, hby, hzs⟩ := hT.hi
    have h63 : n + m ≤ maxLen := by
      have : n + m ≤ (n + m) * bytes := Nat.le_mul_of_pos_right _ hT.hby
      unfold maxLen; omega
    have hc : ∀ j u, news[j]? = some u → w.cell? (ad.add j) = some u := fun j u hu => by
      obtain ⟨b, o, e, _, hc⟩ := hr j u hu
      injection e with e; subst e; rw [add_mk]; exact hc
    obtain ⟨v', w', hrun, h2, h3, _, h5⟩ := run_append_own_at (P := P) w base t ty e i z size bytes hT.ht hi hz hs hby hzs hT.hsz v n xs hown ad m c news hl hc h1 h63 hb hbase
    exact ⟨v', w', hrun, h2, h3, h5⟩

theorem wp_app {P : Program} {t e : TypeId} {size bytes : Nat} (hT : ElemTy P t e size bytes) {w : World} {o : Oper} {a : Act} {K : Act → World → Prop} {Q : Exit → Act → World → Prop} (s x : Operand)
    (ho : o.op = .call { callee := .builtin .append, args := #[s, x], argTypes := #[t, t] }) {base : Nat} {v : Value} {n : Nat} {xs : List Value} (hs : a.eval s = v) (hown : w.ownsRow base e size v n xs)
    {S : Nat → Prop} {A : Option Addr} {m c : Nat} {news : List Value} (hx : a.eval x = .slice A m c) (hl : news.length = m * size) (hr : RV S w A news) (h1 : ∀ u ∈ news, u.oneCell' = true) (hb : (n + m) * bytes ≤ 140737488355328) (hbase : base ≤ w.heap.size)
    (h : ∀ v' w', w'.ownsRow base e size v' (n + m) (xs ++ news) → Appd w w' v v' → K (a.put o.dst v') w') : o.wp P a w K Q := by
  obtain ⟨v', w', hrun, h2, h3, h4⟩ := run_app hT w base o.type v n xs hown A m c news hl hr h1 hb hbase
  unfold Oper.wp execOp
  simp only [ho, resolve, invoke, builtin, Sem.run_bind, Sem.run_pure, Result.andThen_ok, List.map_toArray, List.map_cons, List.map_nil, hs, hx, hrun]
  exact h v' w' h2 ⟨h3, h4⟩

/-- the same as one step of a region that draws its order -/
theorem step_app {P : Program} {t e : TypeId} {size bytes : Nat} (hT : ElemTy P t e size bytes) {w : World} {ops : Array Oper} {o : Oper} {a : Act} {K : Act → World → Prop} {Q : Exit → Act → World → Prop} {E : Prop} (hgd : o.guard = none) (s x : Operand)
    (ho : o.op = .call { callee := .builtin .append, args := #[s, x], argTypes := #[t, t] }) {base : Nat} {v : Value} {n : Nat} {xs : List Value} (hs : a.eval s = v) (hown : w.ownsRow base e size v n xs)
    {S : Nat → Prop} {A : Option Addr} {m c : Nat} {news : List Value} (hx : a.eval x = .slice A m c) (hl : news.length = m * size) (hr : RV S w A news) (h1 : ∀ u ∈ news, u.oneCell' = true) (hb : (n + m) * bytes ≤ 140737488355328) (hbase : base ≤ w.heap.size)
    (h : ∀ v' w', w'.ownsRow base e size v' (n + m) (xs ++ news) → Appd w w' v v' → K (a.put o.dst v') w') :
    if Region.wanted o (yielded ops a.tmps) = true then Oper.wp P o a w K Q else E := by
  have hw : Region.wanted o (yielded ops a.tmps) = true := by simp [Region.wanted, hgd]
  rw [if_pos hw]
  exact wp_app hT s x ho hs hown hx hl hr h1 hb hbase h

/-- the cells of a new block -/
theorem RV.new (w : World) (cs : List Value) (t : TypeId) : RV (fun k => k = w.heap.size) (w.alloc (.cells cs.toArray t)) (some ⟨w.heap.size, 0, none⟩) cs := fun j u hu => ⟨_, 0, rfl, rfl, new_cells w cs t j u hu⟩
theorem oneCell_ints (xs : List Int) : ∀ u ∈ ints xs, u.oneCell' = true := by
  intro u hu; obtain ⟨x, _, rfl⟩ := List.mem_map.1 hu; rfl

theorem own_some {w : World} {base : Nat} {e : TypeId} {size : Nat} {v : Value} {n : Nat} {vs : List Value} (h : w.ownsRow base e size v n vs) (hn : 0 < n) : ∃ g c, v = .slice (some ⟨g, 0, none⟩) n c ∧ base ≤ g ∧ n ≤ c ∧ c ≤ 9223372036854775807 := by
  rcases h.2 with ⟨rfl, rfl⟩ | ⟨g, cap, cur, rfl, hg, _, h1, h2, _⟩
  · omega
  · exact ⟨g, cap, rfl, hg, h1, by unfold maxLen at h2; omega⟩
theorem Ext.setCell' {w w1 : World} (h : Ext w w1) {p : Addr} (hp : w.heap.size ≤ p.block) (u : Value) : Ext w (w1.setCell p u) := Below.setCell h hp u
theorem own_keep {S : Nat → Prop} {w w' : World} {base : Nat} {e : TypeId} {size : Nat} {v : Value} {n : Nat} {vs : List Value} (h : w.ownsRow base e size v n vs) (k : Keep S w w') (hs : ∀ b, base ≤ b → S b) : w'.ownsRow base e size v n vs := by
  obtain ⟨h1, h2⟩ := h
  refine ⟨h1, ?_⟩
  rcases h2 with h2 | ⟨g, cap, cur, hv, hg, hh, r⟩
  · exact .inl h2
  · exact .inr ⟨g, cap, cur, hv, hg, (k.block g (lt_of_block hh) (hs g hg)).trans hh, r⟩
theorem own_ext {w w' : World} {base : Nat} {e : TypeId} {size : Nat} {v : Value} {n : Nat} {vs : List Value} (h : w.ownsRow base e size v n vs) (k : Ext w w') : w'.ownsRow base e size v n vs := own_keep (S := All) h (.ofExt k) (fun _ _ => trivial)
theorem own_lt {w : World} {base : Nat} {e : TypeId} {size : Nat} {v : Value} {n : Nat} {vs : List Value} (h : w.ownsRow base e size v n vs) : ∀ k, v.ownBlock = some k → k < w.heap.size := by
  rcases h.2 with ⟨rfl, rfl⟩ | ⟨g, cap, cur, rfl, hg, hh, _⟩
  · intro k hk; simp [Value.ownBlock] at hk
  · intro k hk; simp [Value.ownBlock] at hk; have := lt_of_block hh; omega
theorem Reps.set {α : Type} {rep : List Value → α → Prop} {sz : Nat} {vs : List Value} {xs : List α} (h : Reps rep sz vs xs) {j i : Nat} (hi : i < sz) {u : Value} {x : α} (hj : j < xs.length) (hx : ∀ cs, rep cs xs[j] → cs.length = sz → rep (cs.set i u) x) : Reps rep sz (vs.set (j * sz + i) u) (xs.set j x) := by
  induction xs generalizing vs j with
  | nil => simp at hj
  | cons y xs ih =>
    obtain ⟨cs, r, rfl, hl, h1, hr⟩ := h
    cases j with
    | zero => exact ⟨cs.set i u, r, by rw [Nat.zero_mul, Nat.zero_add, List.set_append_left _ _ (by omega)], by simp [hl], hx cs h1 hl, hr⟩
    | succ j =>
      refine ⟨cs, r.set (j * sz + i) u, ?_, hl, h1, ih hr (by simpa using hj) (by simpa using hx)⟩
      rw [List.set_append_right _ _ (by rw [hl, Nat.succ_mul]; omega)]
      congr 2; rw [hl, Nat.succ_mul]; omega
theorem Reps.all {α : Type} {rep : List Value → α → Prop} {sz : Nat} {vs : List Value} {xs : List α} (h : Reps rep sz vs xs) {Q : Value → Prop} (hq : ∀ cs x, rep cs x → ∀ u ∈ cs, Q u) : ∀ u ∈ vs, Q u := by
  induction xs generalizing vs with
  | nil => cases h; simp
  | cons y xs ih =>
    obtain ⟨cs, r, rfl, hl, h1, hr⟩ := h
    intro u hu
    rcases List.mem_append.1 hu with h2 | h2
    · exact hq cs y h1 u h2
    · exact ih hr u h2
theorem heap_new (w : World) (o : Obj) : (w.alloc o).heap[w.heap.size]? = some o := by show (w.heap.push o)[w.heap.size]? = _; simp
theorem heap2 (w : World) (o1 o2 : Obj) : ((w.alloc o1).alloc o2).heap[w.heap.size]? = some o1 ∧ ((w.alloc o1).alloc o2).heap[w.heap.size + 1]? = some o2 := by
  show ((w.heap.push o1).push o2)[w.heap.size]? = some o1 ∧ ((w.heap.push o1).push o2)[w.heap.size + 1]? = some o2
  simp only [Array.getElem?_push, Array.size_push]
  refine ⟨?_, ?_⟩
  · rw [if_neg (by omega), if_pos trivial]
  · rw [if_pos trivial]
theorem heap3 (w : World) (o1 o2 o3 : Obj) : (((w.alloc o1).alloc o2).alloc o3).heap[w.heap.size]? = some o1 ∧ (((w.alloc o1).alloc o2).alloc o3).heap[w.heap.size + 1]? = some o2 ∧ (((w.alloc o1).alloc o2).alloc o3).heap[w.heap.size + 1 + 1]? = some o3 := by
  show (((w.heap.push o1).push o2).push o3)[w.heap.size]? = some o1 ∧ (((w.heap.push o1).push o2).push o3)[w.heap.size + 1]? = some o2 ∧ (((w.heap.push o1).push o2).push o3)[w.heap.size + 1 + 1]? = some o3
  simp only [Array.getElem?_push, Array.size_push]
  refine ⟨?_, ?_, ?_⟩
  · rw [if_neg (by omega), if_neg (by omega), if_pos trivial]
  · rw [if_neg (by omega), if_pos trivial]
  · rw [if_pos trivial]
theorem heap4 (w : World) (o1 o2 o3 o4 : Obj) : ((((w.alloc o1).alloc o2).alloc o3).alloc o4).heap[w.heap.size]? = some o1 ∧ ((((w.alloc o1).alloc o2).alloc o3).alloc o4).heap[w.heap.size + 1]? = some o2 ∧
    ((((w.alloc o1).alloc o2).alloc o3).alloc o4).heap[w.heap.size + 1 + 1]? = some o3 ∧ ((((w.alloc o1).alloc o2).alloc o3).alloc o4).heap[w.heap.size + 1 + 1 + 1]? = some o4 := by
  show ((((w.heap.push o1).push o2).push o3).push o4)[w.heap.size]? = some o1 ∧ ((((w.heap.push o1).push o2).push o3).push o4)[w.heap.size + 1]? = some o2 ∧ ((((w.heap.push o1).push o2).push o3).push o4)[w.heap.size + 1 + 1]? = some o3 ∧ ((((w.heap.push o1).push o2).push o3).push o4)[w.heap.size + 1 + 1 + 1]? = some o4
  simp only [Array.getElem?_push, Array.size_push]
  refine ⟨?_, ?_, ?_, ?_⟩
  · rw [if_neg (by omega), if_neg (by omega), if_neg (by omega), if_pos trivial]
  · rw [if_neg (by omega), if_neg (by omega), if_pos trivial]
  · rw [if_neg (by omega), if_pos trivial]
  · rw [if_pos trivial]
theorem cell_of_heap {w : World} {g j : Nat} {cs : Array Value} {t : TypeId} {fz : Nat × Nat} {u : Value} (h : w.heap[g]? = some (.cells cs t fz)) (hu : cs[j]? = some u) : w.cell? ⟨g, j, none⟩ = some u := by
  simp only [World.cell?, h]; simpa using hu
theorem cell_a1 {w : World} {p : Addr} {u : Value} (h : w.cell? p = some u) (o1 : Obj) : (w.alloc o1).cell? p = some u := ((Ext.refl' w).alloc' o1).cell h
theorem cell_a2 {w : World} {p : Addr} {u : Value} (h : w.cell? p = some u) (o1 o2 : Obj) : ((w.alloc o1).alloc o2).cell? p = some u := cell_a1 (cell_a1 h o1) o2
theorem cell_a3 {w : World} {p : Addr} {u : Value} (h : w.cell? p = some u) (o1 o2 o3 : Obj) : (((w.alloc o1).alloc o2).alloc o3).cell? p = some u := cell_a1 (cell_a2 h o1 o2) o3
theorem cell_a4 {w : World} {p : Addr} {u : Value} (h : w.cell? p = some u) (o1 o2 o3 o4 : Obj) : ((((w.alloc o1).alloc o2).alloc o3).alloc o4).cell? p = some u := cell_a1 (cell_a3 h o1 o2 o3) o4
theorem Ext.le {w w' : World} (h : Ext w w') : w.heap.size ≤ w'.heap.size := h.size
theorem bcellE {W w1 : World} (hb : Ext W w1) : (∀ b o, b < W.heap.size → w1.cell? ⟨b, o, none⟩ = W.cell? ⟨b, o, none⟩) ∧ (∀ b o, b < W.heap.size → w1.frozen? ⟨b, o, none⟩ = W.frozen? ⟨b, o, none⟩) :=
  ⟨fun b o h => Below.cell hb (p := ⟨b, o, none⟩) h, fun b o h => Below.frozen hb (p := ⟨b, o, none⟩) h⟩
theorem own_set {w : World} {base : Nat} {e t : TypeId} {size : Nat} {v : Value} {n g : Nat} {vs : List Value} {cs : Array Value} {fz : Nat × Nat} (h : w.ownsRow base e size v n vs) (hg : w.heap[g]? = some (.cells cs t fz)) (hne : e ≠ t) (j : Nat) (u : Value) : (w.setCell ⟨g, j, none⟩ u).ownsRow base e size v n vs := by
  obtain ⟨h1, h2⟩ := h
  refine ⟨h1, ?_⟩
  rcases h2 with h2 | ⟨g', cap, cur, hv, hb, hh, r⟩
  · exact .inl h2
  · have : g' ≠ g := by
      rintro rfl
      rw [hg] at hh
      injection hh with hh
      injection hh with _ ht _
      exact hne ht.symm
    exact .inr ⟨g', cap, cur, hv, hb, (Below.heap_setCell w ⟨g, j, none⟩ u g' this).trans hh, r⟩
theorem own_ne {w : World} {base : Nat} {e t : TypeId} {size : Nat} {v : Value} {n g : Nat} {vs : List Value} {cs : Array Value} {fz : Nat × Nat} (h : w.ownsRow base e size v n vs) (hg : w.heap[g]? = some (.cells cs t fz)) (hne : e ≠ t) : v.ownBlock ≠ some g := by
  obtain ⟨h1, h2⟩ := h
  rcases h2 with ⟨rfl, _⟩ | ⟨g', cap, cur, rfl, hb, hh, r⟩
  · simp [Value.ownBlock]
  · intro e1
    have : g' = g := by simpa [Value.ownBlock] using e1
    subst this
    rw [hg] at hh
    injection hh with hh
    injection hh with _ ht _
    exact hne ht.symm
theorem set3 {w : World} {g : Nat} {a b c : Value} {t : TypeId} {fz : Nat × Nat} (h : w.heap[g]? = some (.cells #[a, b, c] t fz)) (x y z : Value) : (((w.setCell ⟨g, 0, none⟩ x).setCell ⟨g, 1, none⟩ y).setCell ⟨g, 2, none⟩ z).heap[g]? = some (.cells #[x, y, z] t fz) := by
  simp [World.setCell, Array.getElem?_modify, h]
theorem own_set3 {w : World} {base : Nat} {e t : TypeId} {size : Nat} {v : Value} {n g : Nat} {vs : List Value} {a b c : Value} {fz : Nat × Nat} (h : w.ownsRow base e size v n vs) (hg : w.heap[g]? = some (.cells #[a, b, c] t fz)) (hne : e ≠ t) (x y z : Value) : (((w.setCell ⟨g, 0, none⟩ x).setCell ⟨g, 1, none⟩ y).setCell ⟨g, 2, none⟩ z).ownsRow base e size v n vs := by
  refine own_set (own_set (own_set h hg hne 0 x) (cs := #[x, b, c]) (fz := fz) ?_ hne 1 y) (cs := #[x, y, c]) (fz := fz) ?_ hne 2 z
  · simp [World.setCell, Array.getElem?_modify, hg]
  · simp [World.setCell, Array.getElem?_modify, hg]
theorem ext_set3 {W w : World} (h : Ext W w) {g : Nat} (hg : W.heap.size ≤ g) (x y z : Value) : Ext W (((w.setCell ⟨g, 0, none⟩ x).setCell ⟨g, 1, none⟩ y).setCell ⟨g, 2, none⟩ z) :=
  ((h.setCell' (p := ⟨g, 0, none⟩) hg x).setCell' (p := ⟨g, 1, none⟩) hg y).setCell' (p := ⟨g, 2, none⟩) hg z
theorem Ext.lt_ {w w' : World} (h : Ext w w') : ∀ b, b < w.heap.size → b < w'.heap.size := fun _ hb => Nat.lt_of_lt_of_le hb h.size
theorem own_heap {w : World} {base : Nat} {e : TypeId} {size : Nat} {n g c : Nat} {vs : List Value} (h : w.ownsRow base e size (.slice (some ⟨g, 0, none⟩) n c) n vs) : ∃ cur, w.heap[g]? = some (.cells cur e (0, 0)) := by
  rcases h.2 with ⟨h1, _⟩ | ⟨g', cap, cur, hv, _, hh, _⟩
  · cases h1
  · injection hv with hA
    injection hA with hA
    injection hA with hA
    subst hA
    exact ⟨cur, hh⟩
theorem frozen_of_heap {w : World} {g : Nat} {cs : Array Value} {t : TypeId} (h : w.heap[g]? = some (.cells cs t (0, 0))) (j : Nat) : w.frozen? ⟨g, j, none⟩ = false := by simp [World.frozen?, h]
theorem own_base {w : World} {base base' : Nat} {e : TypeId} {size : Nat} {v : Value} {n : Nat} {vs : List Value} (h : w.ownsRow base e size v n vs) (hb : base' ≤ base) : w.ownsRow base' e size v n vs := by
  obtain ⟨h1, h2⟩ := h
  refine ⟨h1, ?_⟩
  rcases h2 with h2 | ⟨g, cap, cur, hv, hg, r⟩
  · exact .inl h2
  · exact .inr ⟨g, cap, cur, hv, by omega, r⟩
theorem Appd.blk {w w1 : World} {v v' : Value} (h : Appd w w1 v v') {g : Nat} {o : Obj} (hg : w.heap[g]? = some o) (hne : v.ownBlock ≠ some g) : w1.heap[g]? = some o := (h.g.block g (lt_of_block hg) (fun e => hne e.symm)).trans hg
theorem heap_keep {w : World} {g : Nat} {o : Obj} (h : w.heap[g]? = some o) (o' : Obj) : (w.alloc o').heap[g]? = some o := (Below.heap_alloc w o' g (lt_of_block h)).trans h
theorem set3at2 {w : World} {g : Nat} {a b c : Value} {t : TypeId} {fz : Nat × Nat} (h : w.heap[g]? = some (.cells #[a, b, c] t fz)) (z : Value) : (w.setCell ⟨g, 2, none⟩ z).heap[g]? = some (.cells #[a, b, z] t fz) := by
  simp [World.setCell, Array.getElem?_modify, h]
theorem heap_far {w : World} {g g' j : Nat} {o : Obj} (h : w.heap[g]? = some o) (hne : g ≠ g') (u : Value) : (w.setCell ⟨g', j, none⟩ u).heap[g]? = some o := (Below.heap_setCell w ⟨g', j, none⟩ u g hne).trans h
theorem own_app {w w1 : World} {base base' : Nat} {e e' : TypeId} {size size' : Nat} {v v' x : Value} {n n' : Nat} {vs us : List Value} (h : w.ownsRow base e size x n vs) (hv : w.ownsRow base' e' size' v n' us) (hne : e' ≠ e) (ha : Appd w w1 v v') : w1.ownsRow base e size x n vs := by
  obtain ⟨h1, h2⟩ := h
  refine ⟨h1, ?_⟩
  rcases h2 with h2 | ⟨g, cap, cur, hx, hg, hh, r⟩
  · exact .inl h2
  · exact .inr ⟨g, cap, cur, hx, hg, ha.blk hh (own_ne hv hh hne), r⟩
theorem Appd.undrew {w w1 : World} {v v' : Value} (h : Appd w.drew w1 v v') : Appd w w1 v v' := ⟨⟨h.g.os, h.g.tape, h.g.output, h.g.size, h.g.block⟩, h.at_⟩
theorem Keep.app {S : Nat → Prop} {W w w2 : World} {v v' : Value} (h : Keep S W w) (ha : Appd w w2 v v') (hv : ∀ k, v.ownBlock = some k → W.heap.size ≤ k) : Keep S W w2 :=
  ⟨ha.g.os.trans h.os, ha.g.tape.trans h.tape, ha.g.output.trans h.output, Nat.le_trans h.size ha.g.size, fun k hk hs => (ha.g.block k (Nat.lt_of_lt_of_le hk h.size) (fun e => by have := hv k e.symm; omega)).trans (h.block k hk hs)⟩
theorem Keep.alloc {S : Nat → Prop} {W w : World} (h : Keep S W w) (o : Obj) : Keep S W (w.alloc o) := h.trans (.ofExt ((Ext.refl' w).alloc' o))
theorem Keep.drew {S : Nat → Prop} {W w : World} (h : Keep S W w) : Keep S W w.drew := h.drewN 1
theorem Keep.le {S : Nat → Prop} {W w : World} (h : Keep S W w) : W.heap.size ≤ w.heap.size := h.size
theorem Keep.set {W w : World} {g : Nat} (h : Keep (fun k => k ≠ g) W w) (j : Nat) (u : Value) : Keep (fun k => k ≠ g) W (w.setCell ⟨g, j, none⟩ u) :=
  ⟨h.os, h.tape, h.output, by simpa [World.setCell] using h.size, fun k hk hs => (Below.heap_setCell w ⟨g, j, none⟩ u k hs).trans (h.block k hk hs)⟩
theorem own_at {w w' : World} {base : Nat} {e : TypeId} {size n g c : Nat} {vs : List Value} (h : w.ownsRow base e size (.slice (some ⟨g, 0, none⟩) n c) n vs) (hb : w'.heap[g]? = w.heap[g]?) : w'.ownsRow base e size (.slice (some ⟨g, 0, none⟩) n c) n vs := by
  obtain ⟨h1, h2⟩ := h
  refine ⟨h1, ?_⟩
  rcases h2 with h2 | ⟨g', cap, cur, hv, hg, hh, r⟩
  · exact .inl h2
  · have e : g' = g := by injection hv with hA; injection hA with hA; injection hA with hA; exact hA.symm
    subst e
    exact .inr ⟨g', cap, cur, hv, hg, hb.trans hh, r⟩
theorem Appd.extNil {w w1 : World} {v' : Value} (h : Appd w w1 (.slice none 0 0) v') : Ext w w1 := (Ext.refl' w).app (Ext.refl' w) h (by simp [Value.ownBlock])
theorem Ext.drew' {a b : World} (h : Ext a b) : Ext a b.drew := h.drewN' 1
theorem ret_int {k : IntKind} {a b : Int} (h : a = b) : Ending.returned (.int k a) = .returned (.int k b) := by rw [h]
theorem ret_bool {a b : Bool} (h : a = b) : Ending.returned (.bool a) = .returned (.bool b) := by rw [h]

end Go.Proofs.Ytmjmdncdmmcmaaa

/- Patterns as plain data: what a good pattern is, and that marking and appending keep it good. No condition. -/
namespace Go.Proofs.Ytmjmdncdmmcmaaa
set_option linter.unusedVariables false

/-- a message -/
structure Arc where
  fr : Nat
  ix : Int
  to : Nat
  at_ : Int
/-- a pattern -/
structure Pat where
  len : List Int
  ck : List (List Int)
  arcs : List Arc

/-- element q of a list of numbers -/
def nth (xs : List Int) (q : Nat) : Int := xs.getD q 0
theorem nth_eq {xs : List Int} {q : Nat} (h : q < xs.length) : nth xs q = xs[q] := by simp [nth, h]
theorem nth_set_same {xs : List Int} {q : Nat} (h : q < xs.length) (v : Int) : nth (xs.set q v) q = v := by simp [nth, h]
theorem nth_set_other {xs : List Int} {q r : Nat} (h : q ≠ r) (v : Int) : nth (xs.set q v) r = nth xs r := by
  simp only [nth, List.getD_eq_getElem?_getD, List.getElem?_set_ne h]
theorem nth_set {xs : List Int} {q r : Nat} (h : q < xs.length) (v : Int) : nth (xs.set q v) r = if q = r then v else nth xs r := by
  by_cases e : q = r
  · subst e; rw [if_pos rfl, nth_set_same h]
  · rw [if_neg e, nth_set_other e]
/-- row q of a list of lists -/
def rowOf (ls : List (List Int)) (q : Nat) : List Int := ls.getD q []
theorem rowOf_eq {ls : List (List Int)} {q : Nat} (h : q < ls.length) : rowOf ls q = ls[q] := by simp [rowOf, h]

/-- the checkpoints of a process with m events -/
structure RowOk (l : List Int) (m : Int) : Prop where
  head : ∃ r, l = 0 :: r
  asc : l.Pairwise (· < ·)
  le : ∀ x ∈ l, x ≤ m
theorem RowOk.nonneg {l : List Int} {m : Int} (h : RowOk l m) : ∀ x ∈ l, 0 ≤ x := by
  obtain ⟨r, rfl⟩ := h.head
  intro x hx
  rcases List.mem_cons.1 hx with e | e
  · omega
  · have := (List.pairwise_cons.1 h.asc).1 x e; omega
theorem RowOk.mono {l : List Int} {m m' : Int} (h : RowOk l m) (hm : m ≤ m') : RowOk l m' := ⟨h.head, h.asc, fun x hx => by have := h.le x hx; omega⟩
theorem RowOk.one {m : Int} (h : 0 ≤ m) : RowOk [0] m := ⟨⟨[], rfl⟩, by simp, by simpa using h⟩

/-- a rank of all points that messages and the order of each process raise -/
def Ranked (n : Nat) (len : List Int) (arcs : List Arc) (rk : Nat → Int → Nat) : Prop :=
  (∀ q, q < n → ∀ k : Int, 0 ≤ k → k < nth len q → rk q k < rk q (k + 1)) ∧ (∀ a ∈ arcs, a.at_ ≠ 0 → rk a.fr a.ix < rk a.to a.at_)

/-- an arc within a pattern of n processes -/
structure ArcOk (n : Nat) (len : List Int) (a : Arc) : Prop where
  fr : a.fr < n
  to : a.to < n
  ne : a.fr ≠ a.to
  ix0 : 0 ≤ a.ix
  ix1 : a.ix ≤ nth len a.fr
  at0 : 0 ≤ a.at_
  at1 : a.at_ ≤ nth len a.to

structure Good (p : Pat) : Prop where
  n2 : 2 ≤ p.len.length
  n5 : p.len.length ≤ 5
  ckl : p.ck.length = p.len.length
  lo : ∀ q, q < p.len.length → 0 ≤ nth p.len q
  hi : ∀ q, q < p.len.length → nth p.len q ≤ 64
  row : ∀ q, q < p.len.length → RowOk (rowOf p.ck q) (nth p.len q)
  arc : ∀ a ∈ p.arcs, ArcOk p.len.length p.len a
  uniq : ∀ i j (hi : i < p.arcs.length) (hj : j < p.arcs.length), i < j → p.arcs[i].to = p.arcs[j].to → p.arcs[i].at_ = p.arcs[j].at_ → p.arcs[i].at_ = 0
  few : p.arcs.length ≤ 256
  rank : ∃ rk N, Ranked p.len.length p.len p.arcs rk ∧ ∀ q, q < p.len.length → ∀ k : Int, 0 ≤ k → k ≤ nth p.len q → rk q k ≤ N

/-- one more event of process q -/
def Pat.more (p : Pat) (q : Nat) : Pat := { p with len := p.len.set q (nth p.len q + 1) }
/-- one more message -/
def Pat.send (p : Pat) (a : Arc) : Pat := { p with arcs := p.arcs ++ [a] }
/-- a checkpoint of process q at its end, if there is none -/
def Pat.mark (p : Pat) (q : Nat) : Pat := if nth p.len q ∈ rowOf p.ck q then p else { p with ck := p.ck.set q (rowOf p.ck q ++ [nth p.len q]) }

theorem ArcOk.mono {n : Nat} {len len' : List Int} {a : Arc} (h : ArcOk n len a) (hl : ∀ q, q < n → nth len q ≤ nth len' q) : ArcOk n len' a :=
  ⟨h.fr, h.to, h.ne, h.ix0, by have := hl _ h.fr; have := h.ix1; omega, h.at0, by have := hl _ h.to; have := h.at1; omega⟩

theorem nth_more {p : Pat} {q : Nat} (hq : q < p.len.length) (r : Nat) : nth (p.more q).len r = if q = r then nth p.len q + 1 else nth p.len r := nth_set hq _

/-- the rank with one more event on top -/
def rkMore (rk : Nat → Int → Nat) (q : Nat) (m : Int) (N : Nat) : Nat → Int → Nat := fun r k => if r = q ∧ k = m then N else rk r k
theorem rkMore_new (rk : Nat → Int → Nat) (q : Nat) (m : Int) (N : Nat) : rkMore rk q m N q m = N := by simp [rkMore]
theorem rkMore_old (rk : Nat → Int → Nat) {q r : Nat} {m k : Int} (N : Nat) (h : ¬ (r = q ∧ k = m)) : rkMore rk q m N r k = rk r k := by simp [rkMore, h]
theorem Good.rankMore {p : Pat} (h : Good p) {q : Nat} (hq : q < p.len.length) {rk : Nat → Int → Nat} {N : Nat} (h1 : Ranked p.len.length p.len p.arcs rk) (h3 : ∀ q, q < p.len.length → ∀ k : Int, 0 ≤ k → k ≤ nth p.len q → rk q k ≤ N) :
    Ranked p.len.length (p.more q).len p.arcs (rkMore rk q (nth p.len q + 1) (N + 1)) ∧ ∀ r, r < p.len.length → ∀ k : Int, 0 ≤ k → k ≤ nth (p.more q).len r → rkMore rk q (nth p.len q + 1) (N + 1) r k ≤ N + 1 := by
  obtain ⟨h1, h2⟩ := h1
  refine ⟨⟨?_, ?_⟩, ?_⟩
  · intro r hr k hk hlt'
    rw [nth_more hq] at hlt'
    by_cases e : q = r
    · subst e
      rw [if_pos rfl] at hlt'
      by_cases e2 : k = nth p.len q
      · rw [rkMore_old _ _ (by omega), e2, rkMore_new]
        have := h3 q hq (nth p.len q) (by omega) (by omega)
        omega
      · rw [rkMore_old _ _ (by omega), rkMore_old _ _ (by omega)]
        exact h1 q hq k hk (by omega)
    · rw [if_neg e] at hlt'
      rw [rkMore_old _ _ (by omega), rkMore_old _ _ (by omega)]
      exact h1 r hr k hk hlt'
  · intro a ha hne
    have ho := h.arc a ha
    have e1 := ho.ix1
    have e2 := ho.at1
    rw [rkMore_old _ _ (by rintro ⟨e, e'⟩; rw [e] at e1; omega), rkMore_old _ _ (by rintro ⟨e, e'⟩; rw [e] at e2; omega)]
    exact h2 a ha hne
  · intro r hr k hk hle
    by_cases hn : r = q ∧ k = nth p.len q + 1
    · rw [hn.1, hn.2, rkMore_new]; omega
    · rw [rkMore_old _ _ hn]
      rw [nth_more hq] at hle
      by_cases e : q = r
      · subst e
        rw [if_pos rfl] at hle
        have := h3 q hq k hk (by omega)
        omega
      · rw [if_neg e] at hle
        have := h3 r hr k hk hle
        omega
theorem Pat.more_length (p : Pat) (q : Nat) : (p.more q).len.length = p.len.length := by simp [Pat.more]
theorem Good.more {p : Pat} (h : Good p) {q : Nat} (hq : q < p.len.length) (hlt : nth p.len q < 64) : Good (p.more q) := by
  have hlen := p.more_length q
  have hup : ∀ r, r < p.len.length → nth p.len r ≤ nth (p.more q).len r := by
    intro r hr; rw [nth_more hq]; split
    · subst_vars; omega
    · omega
  refine ⟨by rw [hlen]; exact h.n2, by rw [hlen]; exact h.n5, by rw [hlen]; exact h.ckl, ?_, ?_, ?_, ?_, h.uniq, h.few, ?_⟩
  · intro r hr; rw [hlen] at hr; have := h.lo r hr; have := hup r hr; omega
  · intro r hr; rw [hlen] at hr; rw [nth_more hq]; split
    · omega
    · exact h.hi r hr
  · intro r hr; rw [hlen] at hr; exact (h.row r hr).mono (hup r hr)
  · intro a ha; rw [hlen]; exact (h.arc a ha).mono hup
  · obtain ⟨rk, N, h1, h3⟩ := h.rank
    have := h.rankMore hq h1 h3
    rw [hlen]
    exact ⟨_, _, this⟩

theorem Good.send {p : Pat} (h : Good p) {a : Arc} (ha : ArcOk p.len.length p.len a) (hfew : p.arcs.length < 256)
    (hu : ∀ b ∈ p.arcs, b.to = a.to → b.at_ = a.at_ → a.at_ = 0) (hr : ∃ rk N, (Ranked p.len.length p.len p.arcs rk ∧ ∀ q, q < p.len.length → ∀ k : Int, 0 ≤ k → k ≤ nth p.len q → rk q k ≤ N) ∧ (a.at_ ≠ 0 → rk a.fr a.ix < rk a.to a.at_)) : Good (p.send a) := by
  refine ⟨h.n2, h.n5, h.ckl, h.lo, h.hi, h.row, ?_, ?_, by simp [Pat.send]; omega, ?_⟩
  · intro b hb
    rcases List.mem_append.1 hb with hb | hb
    · exact h.arc b hb
    · rw [List.mem_singleton.1 hb]; exact ha
  · intro i j hi hj hij e1 e2
    have hi' : i < p.arcs.length := by simp [Pat.send] at hj; omega
    have gi : (p.send a).arcs[i] = p.arcs[i] := by simp only [Pat.send]; rw [List.getElem_append_left hi']
    rw [gi] at e1 e2 ⊢
    by_cases hj' : j < p.arcs.length
    · have gj : (p.send a).arcs[j] = p.arcs[j] := by simp only [Pat.send]; rw [List.getElem_append_left hj']
      rw [gj] at e1 e2
      exact h.uniq i j hi' hj' hij e1 e2
    · have gj : (p.send a).arcs[j] = a := by simp only [Pat.send]; rw [List.getElem_append_right (by omega)]; simp
      rw [gj] at e1 e2
      rw [e2]
      exact hu _ (List.getElem_mem hi') e1 e2
  · obtain ⟨rk, N, ⟨⟨h1, h2⟩, h3⟩, h4⟩ := hr
    refine ⟨rk, N, ⟨h1, fun b hb => ?_⟩, h3⟩
    rcases List.mem_append.1 hb with hb | hb
    · exact h2 b hb
    · rw [List.mem_singleton.1 hb]; exact h4

/-- a message that was not received -/
theorem Good.send0 {p : Pat} (h : Good p) {s q : Nat} {k : Int} (hs : s < p.len.length) (hq : q < p.len.length) (hne : s ≠ q) (hk : 0 ≤ k) (hk' : k ≤ nth p.len s) (hfew : p.arcs.length < 256) : Good (p.send ⟨s, k, q, 0⟩) := by
  obtain ⟨rk, N, h1, h2⟩ := h.rank
  exact h.send ⟨hs, hq, hne, hk, hk', Int.le_refl 0, h.lo q hq⟩ hfew (fun _ _ _ _ => rfl) ⟨rk, N, ⟨h1, h2⟩, fun h => absurd rfl h⟩

/-- an event that receives a message -/
theorem Good.recv {p : Pat} (h : Good p) {s q : Nat} {k : Int} (hs : s < p.len.length) (hq : q < p.len.length) (hne : s ≠ q) (hk : 0 ≤ k) (hk' : k ≤ nth p.len s) (hlt : nth p.len q < 64) (hfew : p.arcs.length < 256) : Good ((p.more q).send ⟨s, k, q, nth p.len q + 1⟩) := by
  have hg := h.more hq hlt
  have hlen : (p.more q).len.length = p.len.length := by simp [Pat.more]
  have e1 : nth (p.more q).len q = nth p.len q + 1 := by rw [nth_more hq, if_pos rfl]
  have e2 : nth (p.more q).len s = nth p.len s := by rw [nth_more hq, if_neg (Ne.symm hne)]
  have h0 := h.lo q hq
  refine hg.send ⟨by rw [hlen]; exact hs, by rw [hlen]; exact hq, hne, hk, by rw [e2]; exact hk', by simp only; omega, by simp only; omega⟩ hfew ?_ ?_
  · intro b hb hto hat
    have := (h.arc b hb).at1
    rw [hto] at this
    simp only at this hat
    omega
  · obtain ⟨rk, N, h1, h3⟩ := h.rank
    have := h.rankMore hq h1 h3
    rw [hlen]
    refine ⟨_, _, this, fun _ => ?_⟩
    show rkMore rk q (nth p.len q + 1) (N + 1) s k < rkMore rk q (nth p.len q + 1) (N + 1) q (nth p.len q + 1)
    rw [rkMore_new, rkMore_old _ _ (by rintro ⟨e, _⟩; exact hne e)]
    have := h3 s hs k hk hk'
    omega

theorem Good.mark {p : Pat} (h : Good p) {q : Nat} (hq : q < p.len.length) : Good (p.mark q) := by
  unfold Pat.mark
  split
  · exact h
  · rename_i hn
    refine ⟨h.n2, h.n5, by simpa using h.ckl, h.lo, h.hi, ?_, h.arc, h.uniq, h.few, h.rank⟩
    intro r hr
    have hck := h.ckl
    by_cases e : q = r
    · subst e
      have e1 : rowOf (p.ck.set q (rowOf p.ck q ++ [nth p.len q])) q = rowOf p.ck q ++ [nth p.len q] := by
        rw [rowOf, List.getD_eq_getElem?_getD, List.getElem?_set_self (by omega)]; rfl
      show RowOk (rowOf (p.ck.set q (rowOf p.ck q ++ [nth p.len q])) q) _
      rw [e1]
      have ho := h.row q hq
      obtain ⟨t, ht⟩ := ho.head
      refine ⟨⟨t ++ [nth p.len q], by rw [ht]; rfl⟩, ?_, ?_⟩
      · rw [List.pairwise_append]
        refine ⟨ho.asc, by simp, fun x hx y hy => ?_⟩
        rw [List.mem_singleton.1 hy]
        have := ho.le x hx
        have : x ≠ nth p.len q := fun e => hn (e ▸ hx)
        omega
      · intro x hx
        rcases List.mem_append.1 hx with hx | hx
        · exact ho.le x hx
        · rw [List.mem_singleton.1 hx]; exact Int.le_refl _
    · have e1 : rowOf (p.ck.set q (rowOf p.ck q ++ [nth p.len q])) r = rowOf p.ck r := by
        simp only [rowOf, List.getD_eq_getElem?_getD, List.getElem?_set_ne e]
      show RowOk (rowOf (p.ck.set q (rowOf p.ck q ++ [nth p.len q])) r) _
      rw [e1]; exact h.row r hr

/-- the pattern of n processes in which nothing has happened -/
def Pat.none (n : Nat) : Pat := ⟨List.replicate n 0, List.replicate n [0], []⟩
theorem Good.none {n : Nat} (h2 : 2 ≤ n) (h5 : n ≤ 5) : Good (Pat.none n) := by
  have hn : ∀ q, nth (Pat.none n).len q = 0 := by
    intro q; simp only [Pat.none, nth, List.getD_eq_getElem?_getD, List.getElem?_replicate]; split <;> rfl
  refine ⟨by simpa [Pat.none] using h2, by simpa [Pat.none] using h5, by simp [Pat.none], fun q _ => by rw [hn]; omega, fun q _ => by rw [hn]; omega, ?_, fun a ha => by simp [Pat.none] at ha, fun i j hi => by simp [Pat.none] at hi, by simp [Pat.none], ⟨fun _ k => k.toNat, 0, ⟨fun q _ k hk hlt => ?_, fun a ha => by simp [Pat.none] at ha⟩, fun q _ k hk hle => ?_⟩⟩
  · intro q hq
    have hq' : q < n := by simpa [Pat.none] using hq
    rw [hn]
    have : rowOf (Pat.none n).ck q = [0] := by simp [rowOf, Pat.none, hq']
    rw [this]; exact RowOk.one (Int.le_refl 0)
  · rw [hn] at hlt; omega
  · rw [hn] at hle; show k.toNat ≤ 0; omega
end Go.Proofs.Ytmjmdncdmmcmaaa

/- How patterns lie in memory. No condition. -/
namespace Go.Proofs.Ytmjmdncdmmcmaaa
open Go.RowKit
set_option linter.unusedVariables false

theorem ety_int : ElemTy Try.prog 25 3 1 8 := ElemTy.mk' (z := .int .i64 0) Try.underlying25 (by kernel_rfl) rfl (by omega) (by omega)
theorem ety_row : ElemTy Try.prog 41 25 1 24 := ElemTy.mk' (z := .slice none 0 0) Try.underlying41 (by kernel_rfl) rfl (by omega) (by omega)
theorem ety_arc : ElemTy Try.prog 42 84 4 32 := ElemTy.mk' (z := .agg #[.int .i64 0, .int .i64 0, .int .i64 0, .int .i64 0]) Try.underlying42 (by kernel_rfl) rfl (by omega) (by omega)

theorem RI.atN {S : Nat → Prop} {w : World} {A : Option Addr} {xs : List Int} (h : RI S w A xs) {k : Nat} (hk : k < xs.length) : ∃ b o, A = some ⟨b, o, none⟩ ∧ w.cell? ⟨b, o + k, none⟩ = some (.int .i64 (nth xs k)) := by
  rw [nth_eq hk]; exact h.at_ hk

/-- one row of a list of lists -/
def repRow (S : Nat → Prop) (w : World) (cs : List Value) (l : List Int) : Prop := ∃ A c, cs = [.slice A l.length c] ∧ l.length ≤ c ∧ c ≤ 9223372036854775807 ∧ RI S w A l
def RR (S : Nat → Prop) (w : World) (A : Option Addr) (ls : List (List Int)) : Prop := RL (repRow S) 1 S w A ls
theorem repRow.into {S S' : Nat → Prop} {w w' : World} (k : Into S S' w w') (cs : List Value) (l : List Int) (h : repRow S w cs l) : repRow S' w' cs l :=
  let ⟨A, c, e, h1, h2, h3⟩ := h; ⟨A, c, e, h1, h2, h3.into k⟩
theorem RR.into {S S' : Nat → Prop} {w w' : World} {A : Option Addr} {ls : List (List Int)} (h : RR S w A ls) (k : Into S S' w w') : RR S' w' A ls := RL.into h k (repRow.into k)
theorem repRow.one {S : Nat → Prop} {w : World} (cs : List Value) (l : List Int) (h : repRow S w cs l) : ∀ u ∈ cs, u.oneCell' = true := by
  obtain ⟨A, c, rfl, _⟩ := h; simp [Value.oneCell']
theorem RR.at_ {S : Nat → Prop} {w : World} {A : Option Addr} {ls : List (List Int)} (h : RR S w A ls) {j : Nat} (hj : j < ls.length) :
    ∃ b o B c, A = some ⟨b, o, none⟩ ∧ w.cell? ⟨b, o + j, none⟩ = some (.slice B (rowOf ls j).length c) ∧ (rowOf ls j).length ≤ c ∧ c ≤ 9223372036854775807 ∧ RI S w B (rowOf ls j) := by
  obtain ⟨b, o, cs, rfl, _, ⟨B, c, rfl, h1, h2, h3⟩, hc⟩ := RL.at_ h hj (by omega)
  rw [rowOf_eq hj]
  exact ⟨b, o, B, c, rfl, by simpa using hc 0 (by omega), h1, h2, h3⟩

def arcCells (a : Arc) : List Value := [.int .i64 (a.fr : Int), .int .i64 a.ix, .int .i64 (a.to : Int), .int .i64 a.at_]
def repArc (w : World) (cs : List Value) (a : Arc) : Prop := cs = arcCells a
def RA (S : Nat → Prop) (w : World) (A : Option Addr) (az : List Arc) : Prop := RL repArc 4 S w A az
theorem RA.into {S S' : Nat → Prop} {w w' : World} {A : Option Addr} {az : List Arc} (h : RA S w A az) (k : Into S S' w w') : RA S' w' A az := RL.into h k (fun _ _ h => h)
theorem repArc.one {w : World} (cs : List Value) (a : Arc) (h : repArc w cs a) : ∀ u ∈ cs, u.oneCell' = true := by
  rw [show cs = arcCells a from h]; simp [arcCells, Value.oneCell']
def arc0 : Arc := ⟨0, 0, 0, 0⟩
/-- message i -/
def arcOf (az : List Arc) (i : Nat) : Arc := az.getD i arc0
theorem arcOf_eq {az : List Arc} {i : Nat} (h : i < az.length) : arcOf az i = az[i] := by simp [arcOf, h]
theorem arcOf_mem {az : List Arc} {i : Nat} (h : i < az.length) : arcOf az i ∈ az := by rw [arcOf_eq h]; exact List.getElem_mem h
theorem RA.at_ {S : Nat → Prop} {w : World} {A : Option Addr} {az : List Arc} (h : RA S w A az) {j : Nat} (hj : j < az.length) :
    ∃ b o, A = some ⟨b, o, none⟩ ∧ w.cell? ⟨b, o + j * 4, none⟩ = some (.int .i64 ((arcOf az j).fr : Int)) ∧ w.cell? ⟨b, o + j * 4 + 1, none⟩ = some (.int .i64 (arcOf az j).ix) ∧ w.cell? ⟨b, o + j * 4 + 2, none⟩ = some (.int .i64 ((arcOf az j).to : Int)) ∧ w.cell? ⟨b, o + j * 4 + 3, none⟩ = some (.int .i64 (arcOf az j).at_) := by
  obtain ⟨b, o, cs, rfl, _, hr, hc⟩ := RL.at_ h hj (by omega)
  have e : cs = arcCells az[j] := hr
  subst e
  rw [arcOf_eq hj]
  exact ⟨b, o, rfl, by simpa [arcCells] using hc 0 (by omega), by simpa [arcCells] using hc 1 (by omega), by simpa [arcCells] using hc 2 (by omega), by simpa [arcCells] using hc 3 (by omega)⟩

/-- where a pattern lies -/
structure PV where
  A1 : Option Addr
  c1 : Nat
  A2 : Option Addr
  c2 : Nat
  A3 : Option Addr
  c3 : Nat
def PV.val (v : PV) (p : Pat) : Value := .agg #[.slice v.A1 p.len.length v.c1, .slice v.A2 p.ck.length v.c2, .slice v.A3 p.arcs.length v.c3]
structure PatAt (S : Nat → Prop) (w : World) (v : PV) (p : Pat) : Prop where
  len : RI S w v.A1 p.len
  ck : RR S w v.A2 p.ck
  arcs : RA S w v.A3 p.arcs
  l1 : p.len.length ≤ v.c1
  m1 : v.c1 ≤ 9223372036854775807
  l2 : p.ck.length ≤ v.c2
  m2 : v.c2 ≤ 9223372036854775807
  l3 : p.arcs.length ≤ v.c3
  m3 : v.c3 ≤ 9223372036854775807
theorem PatAt.into {S S' : Nat → Prop} {w w' : World} {v : PV} {p : Pat} (h : PatAt S w v p) (k : Into S S' w w') : PatAt S' w' v p :=
  ⟨h.len.into k, h.ck.into k, h.arcs.into k, h.l1, h.m1, h.l2, h.m2, h.l3, h.m3⟩
theorem PatAt.ext {S : Nat → Prop} {w w' : World} {v : PV} {p : Pat} (h : PatAt S w v p) (k : Ext w w') : PatAt S w' v p := h.into (Into.ofExt k)
end Go.Proofs.Ytmjmdncdmmcmaaa

/- The search for circles in a pattern (the function inside pattern.ordered). Conditions: the grid has 5 rows of 65 numbers. -/
namespace Go.Proofs.Ytmjmdncdmmcmaaa
open Go.RowKit
set_option linter.unusedVariables false

/-- a place of the grid -/
def gi (q k : Nat) : Nat := q * 65 + k
/-- the search from event k of process q: the answer and the marks; rc: one more than the message that an event received -/
def visF (rc : List Int) (az : List Arc) : Nat → Nat → Nat → List Int → Option (Bool × List Int)
  | 0, _, _, _ => none
  | f + 1, q, k, m =>
    if k = 0 ∨ nth m (gi q k) = 2 then some (true, m)
    else if nth m (gi q k) = 1 then some (false, m)
    else match visF rc az f q (k - 1) (m.set (gi q k) 1) with
      | none => none
      | some (false, m1) => some (false, m1.set (gi q k) 2)
      | some (true, m1) =>
        if 0 < nth rc (gi q k) then
          match visF rc az f (arcOf az (nth rc (gi q k) - 1).toNat).fr (arcOf az (nth rc (gi q k) - 1).toNat).ix.toNat m1 with
          | none => none
          | some (b, m2) => some (b, m2.set (gi q k) 2)
        else some (true, m1.set (gi q k) 2)

/-- what the search reads -/
structure VCtx (w : World) (gm gv gr ga gp : Nat) (A3 : Option Addr) (c3 : Nat) (rc : List Int) (az : List Arc) : Prop where
  nv : gv ≠ gm
  nr : gr ≠ gm
  np : gp ≠ gm
  cv : w.cell? ⟨gv, 0, none⟩ = some (.func (.func 117) #[] #[.pointer (some ⟨gm, 0, none⟩), .pointer (some ⟨gv, 0, none⟩), .pointer (some ⟨gr, 0, none⟩), .pointer (some ⟨gp, 0, none⟩)])
  cr : w.cell? ⟨gr, 0, none⟩ = some (.pointer (some ⟨ga, 0, none⟩))
  cp : w.cell? ⟨gp, 2, none⟩ = some (.slice A3 az.length c3)
  ca : RI (fun k => k ≠ gm) w (some ⟨ga, 0, none⟩) rc
  ar : RA (fun k => k ≠ gm) w A3 az
  lc : az.length ≤ c3
  mc : c3 ≤ 9223372036854775807
  rl : rc.length = 325
  few : az.length ≤ 256
  rb : ∀ j, j < 325 → 0 ≤ nth rc j ∧ nth rc j ≤ az.length
  ab : ∀ a ∈ az, a.fr < 5 ∧ 0 ≤ a.ix ∧ a.ix ≤ 64
theorem VCtx.keep {w w' : World} {gm gv gr ga gp : Nat} {A3 : Option Addr} {c3 : Nat} {rc : List Int} {az : List Arc} (h : VCtx w gm gv gr ga gp A3 c3 rc az) (k : Keep (fun k => k ≠ gm) w w') : VCtx w' gm gv gr ga gp A3 c3 rc az :=
  ⟨h.nv, h.nr, h.np, k.cell h.nv h.cv, k.cell h.nr h.cr, k.cell h.np h.cp, h.ca.keep k, h.ar.into (Into.ofKeep k), h.lc, h.mc, h.rl, h.few, h.rb, h.ab⟩
/-- the marks -/
def Marks (w : World) (gm : Nat) (m : List Int) : Prop := w.heap[gm]? = some (.cells (ints m).toArray 118 (0, 0)) ∧ m.length = 325
theorem Marks.cell {w : World} {gm : Nat} {m : List Int} (h : Marks w gm m) {j : Nat} (hj : j < 325) : w.cell? ⟨gm, j, none⟩ = some (.int .i64 (nth m j)) := by
  have hl := h.2
  simp [World.cell?, h.1, hl, hj, nth_eq]
theorem Marks.fz {w : World} {gm : Nat} {m : List Int} (h : Marks w gm m) (j : Nat) : w.frozen? ⟨gm, j, none⟩ = false := by simp [World.frozen?, h.1]
theorem Marks.set {w : World} {gm : Nat} {m : List Int} (h : Marks w gm m) (j : Nat) (v : Int) : Marks (w.setCell ⟨gm, j, none⟩ (.int .i64 v)) gm (m.set j v) := by
  refine ⟨?_, by simp [h.2]⟩
  simp [World.setCell, Array.getElem?_modify, h.1, List.map_set]
theorem Marks.ext {w w' : World} {gm : Nat} {m : List Int} (h : Marks w gm m) (k : Ext w w') : Marks w' gm m := ⟨(k.block gm (lt_of_block h.1)).trans h.1, h.2⟩
theorem keep_set (w : World) (g j : Nat) (u : Value) : Keep (fun k => k ≠ g) w (w.setCell ⟨g, j, none⟩ u) :=
  ⟨rfl, rfl, rfl, by simp [World.setCell], fun k hk hne => Below.heap_setCell _ _ _ _ hne⟩

set_option maxRecDepth 100000 in
set_option maxHeartbeats 1600000 in
theorem vis_any (gm gv gr ga gp : Nat) (A3 : Option Addr) (c3 : Nat) (rc : List Int) (az : List Arc) (f : Nat) : ∀ (q k : Nat) (m m' : List Int) (b : Bool) (w : World), q < 5 → k ≤ 64 → VCtx w gm gv gr ga gp A3 c3 rc az → Marks w gm m → visF rc az f q k m = some (b, m') →
    Calls Try.prog 117 #[.int .i64 (q : Int), .int .i64 (k : Int), .pointer (some ⟨gm, 0, none⟩), .pointer (some ⟨gv, 0, none⟩), .pointer (some ⟨gr, 0, none⟩), .pointer (some ⟨gp, 0, none⟩)] w fun e w' => e = .returned (.bool b) ∧ Marks w' gm m' ∧ Keep (fun k => k ≠ gm) w w' := by
  induction f with
  | zero => intro q k m m' b w _ _ _ _ h; cases h
  | succ f ih =>
    intro q k m m' b w hq hk hctx hm hv
    have IH := Lib.hid ih
    clear ih
    have hgi : gi q k < 325 := by unfold gi; omega
    have hc := hm.cell hgi
    unfold gi at hc
    rw [visF] at hv
    by_cases h0 : k = 0
    · subst h0
      rw [if_pos (.inl rfl)] at hv
      injection hv with hv
      injection hv with e1 e2
      subst e1; subst e2
      go_enter Try.func117, Try.ntmps117
      go_wp2_with fail
      go_ret
      exact ⟨rfl, hm, Keep.refl _ _⟩
    have hk0 : ((k : Int) == 0) = false := beq_eq_false_iff_ne.2 (by omega)
    have hq5 : (q : Int) < 5 := by omega
    have hk65 : (k : Int) < 65 := by omega
    by_cases h2 : nth m (gi q k) = 2
    · rw [if_pos (.inr h2)] at hv
      injection hv with hv
      injection hv with e1 e2
      subst e1; subst e2
      have hc2 : w.cell? ⟨gm, q * 65 + k, none⟩ = some (.int .i64 2) := by rw [hc]; exact congrArg (fun x => some (Value.int .i64 x)) h2
      clear hc h2 h0
      go_enter Try.func117, Try.ntmps117
      go_wp2_with fail
      go_ret
      exact ⟨rfl, hm, Keep.refl _ _⟩
    have hb2 : (nth m (q * 65 + k) == 2) = false := beq_eq_false_iff_ne.2 h2
    rw [if_neg (by rintro (h | h) <;> contradiction)] at hv
    by_cases h1 : nth m (gi q k) = 1
    · rw [if_pos h1] at hv
      injection hv with hv
      injection hv with e1 e2
      subst e1; subst e2
      have hc1 : w.cell? ⟨gm, q * 65 + k, none⟩ = some (.int .i64 1) := by rw [hc]; exact congrArg (fun x => some (Value.int .i64 x)) h1
      clear hc h2 h0 h1
      go_enter Try.func117, Try.ntmps117
      go_wp2_with fail
      go_ret
      exact ⟨rfl, hm, Keep.refl _ _⟩
    have hb1 : (nth m (q * 65 + k) == 1) = false := beq_eq_false_iff_ne.2 h1
    rw [if_neg h1] at hv
    have hfz := hm.fz (q * 65 + k)
    have hm1 := hm.set (q * 65 + k) 1
    have hk1 := keep_set w gm (q * 65 + k) (.int .i64 1)
    have hctx1 := hctx.keep hk1
    have hcv1 := hctx1.cv
    have hkk : ((k - 1 : Nat) : Int) = (k : Int) - 1 := by omega
    have HKK := Lib.hid hkk
    clear hkk h2 h1 h0
    go_enter Try.func117, Try.ntmps117
    go_wp2_with fail
    rw [← HKK.out]
    have hgi1 : q * 65 + k < 325 := hgi
    cases hr : visF rc az f q (k - 1) (m.set (gi q k) 1) with
    | none => rw [hr] at hv; cases hv
    | some bm =>
      obtain ⟨b1, m1⟩ := bm
      rw [hr] at hv
      refine (IH.out q (k - 1) _ m1 b1 _ hq (by omega) hctx1 hm1 hr).mono ?_
      rintro e w1 ⟨rfl, hm2, hk2⟩
      have hctx2 := hctx1.keep hk2
      have hk3 := hk1.trans hk2
      have hcr := hctx2.cr
      have hcp := hctx2.cp
      have hcv := hctx2.cv
      obtain ⟨hrb0, hrb1⟩ := hctx2.rb (q * 65 + k) hgi1
      have hfew := hctx2.few
      have hlc := hctx2.lc
      have hmc := hctx2.mc
      obtain ⟨_, _, e1, hca⟩ := hctx2.ca.atN (k := q * 65 + k) (by rw [hctx2.rl]; exact hgi1)
      injection e1 with e1
      injection e1 with e1 e2
      subst e1; subst e2
      rw [Nat.zero_add] at hca
      have hcm := hm2.cell hgi1
      have hfm := hm2.fz (q * 65 + k)
      have hm3 := hm2.set (q * 65 + k) 2
      have hk4 := hk3.trans (keep_set w1 gm (q * 65 + k) (.int .i64 2))
      clear hr hctx hctx1 hm hm1 hk1 hk2 hcv1 hc hfz hb1 hb2
      cases b1 with
      | false =>
        injection hv with hv
        injection hv with e1 e2
        subst e1; subst e2
        clear hctx2
        go_wp2_with fail
        go_ret
        exact ⟨rfl, hm3, hk4⟩
      | true =>
        dsimp only at hv
        by_cases hpos : 0 < nth rc (gi q k)
        · rw [if_pos hpos] at hv
          unfold gi at hv hpos
          obtain ⟨i, hi⟩ : ∃ i : Nat, nth rc (q * 65 + k) = (i : Int) + 1 := ⟨(nth rc (q * 65 + k) - 1).toNat, by omega⟩
          have hil : i < az.length := by omega
          rw [hi, show ((i : Int) + 1 - 1).toNat = i by omega] at hv
          rw [hi] at hca hpos
          clear hrb0 hrb1 hi
          obtain ⟨ab, ao, rfl, ha0, ha1, ha2, ha3⟩ := hctx2.ar.at_ hil
          obtain ⟨hf1, hf2, hf3⟩ := hctx2.ab _ (arcOf_mem hil)
          obtain ⟨j, hj⟩ := Int.eq_ofNat_of_zero_le hf2
          have hj64 : j ≤ 64 := by omega
          rw [hj] at ha1
          rw [hj, Int.toNat_natCast] at hv
          cases hr2 : visF rc az f (arcOf az i).fr j m1 with
          | none => rw [hr2] at hv; cases hv
          | some bm =>
            obtain ⟨b2, m2⟩ := bm
            rw [hr2] at hv
            injection hv with hv
            injection hv with e1 e2
            subst e1; subst e2
            generalize (arcOf az i).fr = r at *
            generalize (arcOf az i).to = r2 at *
            generalize (arcOf az i).at_ = r3 at *
            clear hj hf2 hf3
            have hx := (Ext.refl' w1).alloc' (.cells #[.int .i64 (r : Int), .int .i64 (j : Int), .int .i64 (r2 : Int), .int .i64 r3] 84)
            have hctx3 := hctx2.keep (.ofExt hx)
            have hmx := hm2.ext hx
            have hcv3 := hctx3.cv
            have hwf : ((i : Int) + 1 - 1) = i := by omega
            have HWF := Lib.hid hwf
            clear hctx2 hwf hfm hcm hm3 hk4
            go_wp2_with fail
            refine (IH.out r j _ m2 b2 _ hf1 hj64 hctx3 hmx hr2).mono ?_
            rintro e w2 ⟨rfl, hm4, hk5⟩
            have hk6 := (hk3.trans (.ofExt hx)).trans hk5
            have hcm := hm4.cell hgi1
            have hfm := hm4.fz (q * 65 + k)
            have hm5 := hm4.set (q * 65 + k) 2
            have hk7 := hk6.trans (keep_set w2 gm (q * 65 + k) (.int .i64 2))
            clear hctx3 hmx hm4 hk5 hk6 hx hcv3 hr2
            go_wp2_with fail
            go_ret
            exact ⟨rfl, hm5, hk7⟩
        · rw [if_neg hpos] at hv
          unfold gi at hv hpos
          injection hv with hv
          injection hv with e1 e2
          subst e1; subst e2
          clear hctx2
          go_wp2_with fail
          go_ret
          exact ⟨rfl, hm3, hk4⟩
end Go.Proofs.Ytmjmdncdmmcmaaa

/- What pattern.ordered returns: the search from the end of each process. Conditions: a grid of 325 numbers. -/
namespace Go.Proofs.Ytmjmdncdmmcmaaa
open Go.RowKit
set_option linter.unusedVariables false

/-- the search from the end of each process, from process q on -/
def ordF (rc : List Int) (az : List Arc) (f : Nat) : List Int → Nat → List Int → Option Bool
  | [], _, _ => some true
  | n :: r, q, m => match visF rc az f q n.toNat m with
    | none => none
    | some (false, _) => some false
    | some (true, m1) => ordF rc az f r (q + 1) m1
def zeros : List Int := List.replicate 325 0
theorem zeros_length : zeros.length = 325 := List.length_replicate
theorem zeros_cells : Try.zeroCells118 = (ints zeros).toArray := by kernel_rfl

set_option maxRecDepth 100000 in
set_option maxHeartbeats 1600000 in
theorem ordered_any {S : Nat → Prop} (v : PV) (p : Pat) (ga f : Nat) (rc : List Int) (b : Bool) (w : World) (hp : PatAt S w v p) (hn : p.len.length ≤ 5) (hlen : ∀ q, q < p.len.length → 0 ≤ nth p.len q ∧ nth p.len q ≤ 64)
    (hca : RI S w (some ⟨ga, 0, none⟩) rc) (hrl : rc.length = 325) (hfew : p.arcs.length ≤ 256) (hrb : ∀ j, j < 325 → 0 ≤ nth rc j ∧ nth rc j ≤ p.arcs.length) (hab : ∀ a ∈ p.arcs, a.fr < 5 ∧ 0 ≤ a.ix ∧ a.ix ≤ 64)
    (hf : ordF rc p.arcs f p.len 0 zeros = some b) :
    Calls Try.prog 94 #[v.val p, .pointer (some ⟨ga, 0, none⟩)] w fun e w' => e = .returned (.bool b) ∧ Ext w w' := by
  obtain ⟨A1, c1, A2, c2, A3, c3⟩ := v
  obtain ⟨h1, h2, h3, l1, m1, l2, m2, l3, m3⟩ := hp
  simp only at h1 h2 h3 l1 m1 l2 m2 l3 m3
  simp only [PV.val]
  have hx0 : Ext w ((((w.alloc (.cells #[.slice A1 p.len.length c1, .slice A2 p.ck.length c2, .slice A3 p.arcs.length c3] 44)).alloc (.cells #[.pointer (some ⟨ga, 0, none⟩)] 121)).alloc (.cells Try.zeroCells118 118)).alloc
      (.cells #[.func (.func 117) #[] #[.pointer (some ⟨w.heap.size + 1 + 1, 0, none⟩), .pointer (some ⟨w.heap.size + 1 + 1 + 1, 0, none⟩), .pointer (some ⟨w.heap.size + 1, 0, none⟩), .pointer (some ⟨w.heap.size, 0, none⟩)]] 133)) :=
    ((((Ext.refl' w).alloc' _).alloc' _).alloc' _).alloc' _
  have hctx0 : VCtx ((((w.alloc (.cells #[.slice A1 p.len.length c1, .slice A2 p.ck.length c2, .slice A3 p.arcs.length c3] 44)).alloc (.cells #[.pointer (some ⟨ga, 0, none⟩)] 121)).alloc (.cells Try.zeroCells118 118)).alloc
      (.cells #[.func (.func 117) #[] #[.pointer (some ⟨w.heap.size + 1 + 1, 0, none⟩), .pointer (some ⟨w.heap.size + 1 + 1 + 1, 0, none⟩), .pointer (some ⟨w.heap.size + 1, 0, none⟩), .pointer (some ⟨w.heap.size, 0, none⟩)]] 133))
      (w.heap.size + 1 + 1) (w.heap.size + 1 + 1 + 1) (w.heap.size + 1) ga w.heap.size A3 c3 rc p.arcs := by
    refine ⟨by omega, by omega, by omega, ?_, ?_, ?_, RI.into hca (fun k hs hk => ⟨by omega, hx0.block k hk⟩), h3.into (fun k hs hk => ⟨by omega, hx0.block k hk⟩), l3, m3, hrl, hfew, hrb, hab⟩
    · exact cell_of_heap (heap4 w _ _ _ _).2.2.2 rfl
    · exact cell_of_heap (heap4 w _ _ _ _).2.1 rfl
    · exact cell_of_heap (heap4 w _ _ _ _).1 rfl
  have hm0 : Marks ((((w.alloc (.cells #[.slice A1 p.len.length c1, .slice A2 p.ck.length c2, .slice A3 p.arcs.length c3] 44)).alloc (.cells #[.pointer (some ⟨ga, 0, none⟩)] 121)).alloc (.cells Try.zeroCells118 118)).alloc
      (.cells #[.func (.func 117) #[] #[.pointer (some ⟨w.heap.size + 1 + 1, 0, none⟩), .pointer (some ⟨w.heap.size + 1 + 1 + 1, 0, none⟩), .pointer (some ⟨w.heap.size + 1, 0, none⟩), .pointer (some ⟨w.heap.size, 0, none⟩)]] 133))
      (w.heap.size + 1 + 1) zeros := by
    refine ⟨?_, zeros_length⟩
    rw [zeros_cells]
    exact (heap4 w _ _ _ _).2.2.1
  have HC := Lib.hid hctx0
  have HM := Lib.hid hm0
  have HX := Lib.hid hx0
  have HL := Lib.hid hlen
  have HF := Lib.hid hf
  clear hctx0 hm0 hx0 hlen hf hrb hab hca
  go_enter Try.func94, Try.ntmps94
  go_wp2_with fail
  go_loopw [13] (fun i wr => ∃ k : Nat, k ≤ p.len.length ∧ i = .int .i64 k ∧ (∃ m, Marks wr (w.heap.size + 1 + 1) m ∧ Hid (ordF rc p.arcs f (p.len.drop k) k m = some b)) ∧ VCtx wr (w.heap.size + 1 + 1) (w.heap.size + 1 + 1 + 1) (w.heap.size + 1) ga w.heap.size A3 c3 rc p.arcs ∧ Ext w wr) (fun i _ => p.len.length - (intOf i).toNat)
  case atStart => exact ⟨0, Nat.zero_le _, rfl, ⟨zeros, HM.out, HF⟩, HC.out, HX.out⟩
  case round =>
    clear HC HM HX HF
    obtain ⟨k, hk, rfl, ⟨m, hm, HF⟩, hctx, hext⟩ := hrel
    by_cases hlt : k < p.len.length
    · obtain ⟨b1, o1, rfl, hcl⟩ := (h1.ext hext).atN hlt
      have hcv := hctx.cv
      obtain ⟨hl0, hl1⟩ := HL.out k hlt
      obtain ⟨n, hn'⟩ := Int.eq_ofNat_of_zero_le hl0
      have hf := HF.out
      rw [List.drop_eq_getElem_cons hlt, ← nth_eq hlt, hn', ordF, Int.toNat_natCast] at hf
      rw [hn'] at hcl hl1
      have hn64 : n ≤ 64 := by omega
      clear HF hl0 hl1 hn'
      cases hr : visF rc p.arcs f k n m with
      | none => rw [hr] at hf; cases hf
      | some bm =>
        obtain ⟨b1', m1⟩ := bm
        rw [hr] at hf
        have hv := vis_any (w.heap.size + 1 + 1) (w.heap.size + 1 + 1 + 1) (w.heap.size + 1) ga w.heap.size A3 c3 rc p.arcs f k n m m1 b1' wr (by omega) hn64 hctx hm hr
        have HV := Lib.hid hv
        have HF := Lib.hid hf
        clear hv hr hf
        go_wp2_with fail
        refine HV.out.mono ?_
        rintro e w1 ⟨rfl, hm1, hk1⟩
        have hctx1 := hctx.keep hk1
        have hext1 : Ext w w1 := hext.trans (hk1.below hext.size (fun k hk => by omega))
        have hf := HF.out
        clear hctx hm HV HF hk1
        cases b1' with
        | false =>
          injection hf with hf
          subst hf
          go_wp2_with fail
          go_ret
          exact ⟨rfl, hext1⟩
        | true =>
          have HF := Lib.hid hf
          clear hf
          go_wp2_with fail
          go_roundw
          case rel => exact ⟨k + 1, by omega, by go_num, ⟨m1, hm1, HF⟩, hctx1, hext1⟩
          case measure => simp [intOf]; omega
    · have hf := HF.out
      rw [List.drop_eq_nil_of_le (by omega), ordF] at hf
      injection hf with hf
      subst hf
      go_wp2_with fail
      go_ret
      exact ⟨rfl, hext⟩
end Go.Proofs.Ytmjmdncdmmcmaaa

/- The search finds no circle in a good pattern. No condition. -/
namespace Go.Proofs.Ytmjmdncdmmcmaaa
set_option linter.unusedVariables false

/-- one more than the message that each event received, after k messages -/
def recvTo (az : List Arc) : Nat → List Int
  | 0 => zeros
  | k + 1 => if (arcOf az k).at_ = 0 then recvTo az k else (recvTo az k).set (gi (arcOf az k).to (arcOf az k).at_.toNat) ((k : Int) + 1)
theorem recvTo_length (az : List Arc) (k : Nat) : (recvTo az k).length = 325 := by
  induction k with
  | zero => exact zeros_length
  | succ k ih => rw [recvTo]; split <;> simp [ih]
theorem nth_zeros (j : Nat) : nth zeros j = 0 := by
  simp only [nth, zeros, List.getD_eq_getElem?_getD, List.getElem?_replicate]; split <;> rfl
theorem recvTo_spec (az : List Arc) (k j : Nat) (h : nth (recvTo az k) j ≠ 0) : ∃ i, i < k ∧ nth (recvTo az k) j = (i : Int) + 1 ∧ (arcOf az i).at_ ≠ 0 ∧ gi (arcOf az i).to (arcOf az i).at_.toNat = j := by
  induction k with
  | zero => exact absurd (nth_zeros j) h
  | succ k ih =>
    rw [recvTo] at h ⊢
    by_cases h0 : (arcOf az k).at_ = 0
    · rw [if_pos h0] at h ⊢
      obtain ⟨i, h1, h2, h3⟩ := ih h
      exact ⟨i, by omega, h2, h3⟩
    · rw [if_neg h0] at h ⊢
      by_cases e : gi (arcOf az k).to (arcOf az k).at_.toNat = j
      · by_cases hl : j < 325
        · refine ⟨k, by omega, ?_, h0, e⟩
          rw [e, nth_set_same (by rw [recvTo_length]; exact hl)]
        · exfalso; apply h
          rw [nth, List.getD_eq_getElem?_getD, List.getElem?_eq_none (by rw [List.length_set, recvTo_length]; omega)]; rfl
      · rw [nth_set_other e] at h ⊢
        obtain ⟨i, h1, h2, h3⟩ := ih h
        exact ⟨i, by omega, h2, h3⟩
theorem recvTo_bd (az : List Arc) (k j : Nat) : 0 ≤ nth (recvTo az k) j ∧ nth (recvTo az k) j ≤ k := by
  by_cases h : nth (recvTo az k) j = 0
  · omega
  · obtain ⟨i, h1, h2, _⟩ := recvTo_spec az k j h; omega
theorem gi_inj {q k r j : Nat} (hk : k ≤ 64) (hj : j ≤ 64) (h : gi q k = gi r j) : q = r ∧ k = j := by unfold gi at h; omega
/-- a pattern whose events lie in the grid, and of which none received two messages -/
structure Fair (p : Pat) : Prop where
  n5 : p.len.length ≤ 5
  lo : ∀ q, q < p.len.length → 0 ≤ nth p.len q
  hi : ∀ q, q < p.len.length → nth p.len q ≤ 64
  arc : ∀ a ∈ p.arcs, ArcOk p.len.length p.len a
  uniq : ∀ i j (hi : i < p.arcs.length) (hj : j < p.arcs.length), i < j → p.arcs[i].to = p.arcs[j].to → p.arcs[i].at_ = p.arcs[j].at_ → p.arcs[i].at_ = 0
theorem Good.fair {p : Pat} (h : Good p) : Fair p := ⟨h.n5, h.lo, h.hi, h.arc, h.uniq⟩
theorem Fair.arcb {p : Pat} (h : Fair p) {a : Arc} (ha : a ∈ p.arcs) : a.fr < 5 ∧ a.to < 5 ∧ 0 ≤ a.ix ∧ a.ix ≤ 64 ∧ 0 ≤ a.at_ ∧ a.at_ ≤ 64 := by
  have ho := h.arc a ha
  have := h.n5
  have h1 := h.hi _ ho.fr
  have h2 := h.hi _ ho.to
  have := ho.fr; have := ho.to; have := ho.ix0; have := ho.ix1; have := ho.at0; have := ho.at1
  omega
/-- before its turn, a message finds its place free -/
theorem Fair.free {p : Pat} (h : Fair p) {k : Nat} (hk : k < p.arcs.length) (h0 : (arcOf p.arcs k).at_ ≠ 0) : nth (recvTo p.arcs k) (gi (arcOf p.arcs k).to (arcOf p.arcs k).at_.toNat) = 0 := by
  apply Classical.byContradiction
  intro hne
  obtain ⟨i, h1, _, h3, h4⟩ := recvTo_spec _ _ _ hne
  have hi : i < p.arcs.length := by omega
  have b1 := h.arcb (arcOf_mem hi)
  have b2 := h.arcb (arcOf_mem hk)
  obtain ⟨e1, e2⟩ := gi_inj (by omega) (by omega) h4
  rw [arcOf_eq hi] at *
  rw [arcOf_eq hk] at *
  exact h3 (h.uniq i k hi hk h1 e1 (by omega))

/-- no new mark 1 -/
def Less (m m' : List Int) : Prop := m'.length = 325 ∧ ∀ j, nth m' j = nth m j ∨ nth m' j = 2
theorem Less.one {m m' : List Int} (h : Less m m') {j : Nat} (h1 : nth m' j = 1) : nth m j = 1 := by
  rcases h.2 j with e | e
  · rw [← e]; exact h1
  · omega
theorem vis_good {p : Pat} (h : Fair p) {rk : Nat → Int → Nat} (hr : Ranked p.len.length p.len p.arcs rk) (f : Nat) : ∀ (q k : Nat) (m : List Int), q < p.len.length → (k : Int) ≤ nth p.len q → m.length = 325 → rk q k < f →
    (∀ r (j : Nat), r < p.len.length → (j : Int) ≤ nth p.len r → nth m (gi r j) = 1 → rk q k < rk r j) → ∃ m', visF (recvTo p.arcs p.arcs.length) p.arcs f q k m = some (true, m') ∧ Less m m' := by
  induction f with
  | zero => intro q k m _ _ _ h0; omega
  | succ f ih =>
    intro q k m hq hk hm hf hone
    have hq5 := h.n5
    have hk64 := h.hi q hq
    have hgl : gi q k < 325 := by unfold gi; omega
    rw [visF]
    by_cases h0 : k = 0 ∨ nth m (gi q k) = 2
    · rw [if_pos h0]; exact ⟨m, rfl, hm, fun j => .inl rfl⟩
    rw [if_neg h0]
    have h1 : nth m (gi q k) ≠ 1 := fun e => by have := hone q k hq hk e; omega
    rw [if_neg h1]
    have hk0 : k ≠ 0 := fun e => h0 (.inl e)
    have hrk : rk q ((k - 1 : Nat) : Int) < rk q k := by
      have := hr.1 q hq ((k - 1 : Nat) : Int) (by omega) (by omega)
      rwa [show ((k - 1 : Nat) : Int) + 1 = (k : Int) by omega] at this
    have hset : ∀ j, nth (m.set (gi q k) 1) j = if gi q k = j then 1 else nth m j := fun j => nth_set (by omega) 1
    obtain ⟨m1, e1, l1, s1⟩ := ih q (k - 1) (m.set (gi q k) 1) hq (by omega) (by simp [hm]) (by omega) (fun r j hr' hj h1' => by
      rw [hset] at h1'
      by_cases e : gi q k = gi r j
      · have := h.hi r hr'
        obtain ⟨rfl, rfl⟩ := gi_inj (by omega) (by omega) e
        exact hrk
      · rw [if_neg e] at h1'
        have := hone r j hr' hj h1'
        omega)
    rw [e1]
    dsimp only
    have hfin : ∀ m2, Less m1 m2 → Less m (m2.set (gi q k) 2) := by
      rintro m2 ⟨l2, s2⟩
      refine ⟨by simp [l2], fun j => ?_⟩
      rw [nth_set (by omega)]
      by_cases e : gi q k = j
      · rw [if_pos e]; exact .inr rfl
      · rw [if_neg e]
        rcases s2 j with e2 | e2
        · rcases s1 j with e3 | e3
          · rw [hset, if_neg e] at e3; exact .inl (e2.trans e3)
          · exact .inr (e2.trans e3)
        · exact .inr e2
    by_cases hp : 0 < nth (recvTo p.arcs p.arcs.length) (gi q k)
    · rw [if_pos hp]
      obtain ⟨i, hi, e2, hat, hg⟩ := recvTo_spec _ _ _ (show nth (recvTo p.arcs p.arcs.length) (gi q k) ≠ 0 by omega)
      rw [e2, show ((i : Int) + 1 - 1).toNat = i by omega]
      have ha := arcOf_mem hi
      generalize arcOf p.arcs i = a at *
      have hb := h.arcb ha
      have ho := h.arc a ha
      have i0 := ho.ix0
      have i1 := ho.ix1
      obtain ⟨et, ek⟩ := gi_inj (by omega) (by omega) hg
      have hlt := hr.2 a ha hat
      rw [et, show a.at_ = (k : Int) by omega] at hlt
      have hix : ((a.ix.toNat : Nat) : Int) = a.ix := Int.toNat_of_nonneg i0
      obtain ⟨m2, e3, l2⟩ := ih a.fr a.ix.toNat m1 ho.fr (by omega) l1 (by rw [hix]; omega) (fun r j hr' hj h1' => by
        rw [hix]
        have h2' : nth (m.set (gi q k) 1) (gi r j) = 1 := Less.one ⟨l1, s1⟩ h1'
        rw [hset] at h2'
        by_cases e : gi q k = gi r j
        · have := h.hi r hr'
          obtain ⟨rfl, rfl⟩ := gi_inj (by omega) (by omega) e
          exact hlt
        · rw [if_neg e] at h2'
          have := hone r j hr' hj h2'
          omega)
      rw [e3]
      exact ⟨_, rfl, hfin m2 l2⟩
    · rw [if_neg hp]
      exact ⟨_, rfl, hfin m1 ⟨l1, fun j => .inl rfl⟩⟩

theorem ord_good {p : Pat} (h : Fair p) {rk : Nat → Int → Nat} (hr : Ranked p.len.length p.len p.arcs rk) {N : Nat} (hN : ∀ q, q < p.len.length → ∀ k : Int, 0 ≤ k → k ≤ nth p.len q → rk q k ≤ N) :
    ∀ (l : List Int) (q : Nat) (m : List Int), l = p.len.drop q → m.length = 325 → (∀ j, nth m j ≠ 1) → ordF (recvTo p.arcs p.arcs.length) p.arcs (N + 1) l q m = some true
  | [], q, m, _, _, _ => rfl
  | n :: l, q, m, hl, hm, h1 => by
    have hq : q < p.len.length := by
      apply Classical.byContradiction; intro hn
      rw [List.drop_eq_nil_of_le (by omega)] at hl; cases hl
    rw [List.drop_eq_getElem_cons hq, ← nth_eq hq] at hl
    injection hl with e1 e2
    have h0 := h.lo q hq
    subst e1
    have hc : (((nth p.len q).toNat : Nat) : Int) = nth p.len q := Int.toNat_of_nonneg h0
    obtain ⟨m', e, l', s'⟩ := vis_good h hr (N + 1) q (nth p.len q).toNat m hq (by omega) hm (by have := hN q hq _ h0 (Int.le_refl _); rw [hc]; omega) (fun r j _ _ e => absurd e (h1 _))
    rw [ordF, e]
    exact ord_good h hr hN l (q + 1) m' e2 l' (fun j e => by
      rcases s' j with e3 | e3
      · exact h1 j (e3 ▸ e)
      · omega)
theorem Good.ordF {p : Pat} (h : Good p) : ∃ f, ordF (recvTo p.arcs p.arcs.length) p.arcs f p.len 0 zeros = some true := by
  obtain ⟨rk, N, h1, h2⟩ := h.rank
  exact ⟨N + 1, ord_good h.fair h1 h2 _ 0 zeros rfl zeros_length (fun j e => by rw [nth_zeros] at e; omega)⟩
end Go.Proofs.Ytmjmdncdmmcmaaa

/- pattern.Check: OK for a good pattern; what it says of a fair one. No condition beyond. -/
namespace Go.Proofs.Ytmjmdncdmmcmaaa
open Go.RowKit
set_option linter.unusedVariables false

set_option maxHeartbeats 800000 in
theorem ascending_any {S : Nat → Prop} (A : Option Addr) (c : Nat) (l : List Int) (m : Int) (w : World) (ha : RI S w A l) (hc : l.length ≤ c) (hc' : c ≤ 9223372036854775807) (hr : RowOk l m) (hm : m ≤ 64) :
    Calls Try.prog 92 #[.slice A l.length c, .int .i64 m] w fun e w' => e = .returned (.bool true) ∧ ∃ n, w' = w.drewN n := by
  obtain ⟨r, hl⟩ := hr.head
  have hpos : 0 < l.length := by rw [hl]; simp
  obtain ⟨b, o, rfl, h0⟩ := ha.atN hpos
  obtain ⟨_, _, e1, h1⟩ := ha.atN (k := l.length - 1) (by omega)
  injection e1 with e1
  injection e1 with e1 e2
  subst e1; subst e2
  have hn0 : nth l 0 = 0 := by rw [hl]; rfl
  rw [hn0, Nat.add_zero] at h0
  have hla : nth l (l.length - 1) ≤ m := hr.le _ (by rw [nth_eq (by omega)]; exact List.getElem_mem _)
  have hasc : ∀ i, 0 < i → i < l.length → nth l (i - 1) < nth l i := by
    intro i hi hil
    rw [nth_eq (by omega), nth_eq hil]
    exact List.pairwise_iff_getElem.1 hr.asc _ _ _ _ (by omega)
  have ht0 : ((l.length : Int) == 0) = false := beq_eq_false_iff_ne.2 (by omega)
  have hlt0 : (0 : Int) < l.length := by omega
  have HA := Lib.hid hasc
  clear hn0 hasc hl hr
  go_enter Try.func92, Try.ntmps92
  go_wp2
  go_loopw [5] (fun i wr => ∃ k n : Nat, 1 ≤ k ∧ k ≤ l.length ∧ i = .int .i64 k ∧ wr = w.drewN n) (fun i _ => l.length - (intOf i).toNat)
  case atStart => exact ⟨1, 0, by omega, by omega, rfl, rfl⟩
  case round =>
    obtain ⟨k, n, hk1, hk, rfl, rfl⟩ := hrel
    by_cases hlt : k < l.length
    · obtain ⟨_, _, e1, hk0⟩ := ha.atN hlt
      injection e1 with e1
      injection e1 with e1 e2
      subst e1; subst e2
      obtain ⟨_, _, e1, hk2⟩ := ha.atN (k := k - 1) (by omega)
      injection e1 with e1
      injection e1 with e1 e2
      subst e1; subst e2
      have hcmp := HA.out k (by omega) hlt
      have hltI : (k : Int) < l.length := by omega
      have hw1 : IntKind.i64.wrap ((k : Int) - 1) = (k : Int) - 1 := IntWalk.i64_in _ (by omega)
      have hw2 : ((k : Int) - 1).toNat = k - 1 := by omega
      have hw3 : (k : Int) - 1 < l.length := by omega
      have hw4 : 0 ≤ (k : Int) - 1 := by omega
      have hw5 : (1 : Int) ≤ k := by omega
      have hdec : decide (nth l k ≤ nth l (k - 1)) = false := by simp; omega
      go_wp2_with fail
      go_quiet (fail)
      clear hw1 hw2
      go_wp2
      go_roundw
      case rel => exact ⟨k + 1, _, by omega, by omega, by go_num, rfl⟩
      case measure => simp [intOf]; omega
    · go_wp2
      go_ret
      exact ⟨rfl, n, rfl⟩

set_option maxHeartbeats 1600000 in
theorem inRange_any {S : Nat → Prop} (v : PV) (p : Pat) (a : Arc) (w : World) (hp : PatAt S w v p) (hn : p.len.length ≤ 5) (ho : ArcOk p.len.length p.len a) (hb : a.ix ≤ 64 ∧ a.at_ ≤ 64) :
    Calls Try.prog 93 #[v.val p, .agg #[.int .i64 (a.fr : Int), .int .i64 a.ix, .int .i64 (a.to : Int), .int .i64 a.at_]] w fun e w' => e = .returned (.bool true) ∧ Ext w w' := by
  obtain ⟨A1, c1, A2, c2, A3, c3⟩ := v
  obtain ⟨h1, h2, h3, l1, m1, l2, m2, l3, m3⟩ := hp
  obtain ⟨fr, ix, to, at_⟩ := a
  obtain ⟨o1, o2, o3, o4, o5, o6, o7⟩ := ho
  simp only at h1 h2 h3 l1 m1 l2 m2 l3 m3 o1 o2 o3 o4 o5 o6 o7 hb
  simp only [PV.val]
  obtain ⟨b, o, rfl, hc1⟩ := h1.atN o1
  obtain ⟨_, _, e1, hc2⟩ := h1.atN o2
  injection e1 with e1
  injection e1 with e1 e2
  subst e1; subst e2
  have hbl := lt_of_cell hc1
  simp only at hbl
  have q1 : (fr : Int) < p.len.length := by omega
  have q2 : (to : Int) < p.len.length := by omega
  have q3 : ((fr : Int) == (to : Int)) = false := beq_eq_false_iff_ne.2 (by omega)
  have d1 : decide (0 ≤ ix) = true := by simpa using o4
  have d2 : decide (ix ≤ nth p.len fr) = true := by simpa using o5
  have d3 : decide (0 ≤ at_) = true := by simpa using o6
  have d4 : decide (at_ ≤ nth p.len to) = true := by simpa using o7
  generalize nth p.len fr = n1 at *
  generalize nth p.len to = n2 at *
  have f1 := cell_a4 hc1
  have f2 := cell_a4 hc2
  clear h1 h2 h3 o3 hc1 hc2
  go_enter Try.func93, Try.ntmps93
  go_wp2
  go_quiet (fail)
  go_wp2
  go_ret
  exact ⟨rfl, (((((Ext.refl' w).alloc' _).alloc' _).alloc' _).alloc' _).drewN' _⟩

/-- what pattern.Check asks of a pattern before it looks for circles -/
structure Shape (p : Pat) : Prop where
  fair : Fair p
  ckl : p.ck.length = p.len.length
  row : ∀ q, q < p.len.length → RowOk (rowOf p.ck q) (nth p.len q)
  few : p.arcs.length ≤ 256
theorem Good.shape {p : Pat} (h : Good p) : Shape p := ⟨h.fair, h.ckl, h.row, h.few⟩

set_option maxRecDepth 100000 in
set_option maxHeartbeats 3200000 in
theorem check_shape {S : Nat → Prop} (v : PV) (p : Pat) (f : Nat) (bo : Bool) (w : World) (hp : PatAt S w v p) (hs : Shape p) (hf : ordF (recvTo p.arcs p.arcs.length) p.arcs f p.len 0 zeros = some bo) :
    Calls Try.prog 61 #[v.val p] w fun e w' => e = .returned (.int .i64 (if bo then 0 else 7)) ∧ Ext w w' := by
  obtain ⟨hfair, hckl, hrow, hfew⟩ := hs
  have hn5 := hfair.n5
  have hp0 := hp
  obtain ⟨A1, c1, A2, c2, A3, c3⟩ := v
  obtain ⟨h1, h2, h3, l1, m1, l2, m2, l3, m3⟩ := hp
  simp only at h1 h2 h3 l1 m1 l2 m2 l3 m3
  have HP := Lib.hid hp0
  have HR := Lib.hid hrow
  have HFA := Lib.hid hfair
  have HF := Lib.hid hf
  clear hp0 hrow hf hfair
  simp only [PV.val]
  have ht : ((p.ck.length : Int) != (p.len.length : Int)) = false := by simp [hckl]
  have hck5 : p.ck.length ≤ 5 := by omega
  have HCK := Lib.hid hckl
  clear hckl
  have hx1 := (Ext.refl' w).alloc' (.cells #[.slice A1 p.len.length c1, .slice A2 p.ck.length c2, .slice A3 p.arcs.length c3] 44)
  go_enter Try.func61, Try.ntmps61
  go_wp2_with fail
  go_loop [30] (fun i => ∃ k : Nat, k ≤ p.len.length ∧ i = .int .i64 k) (fun i => p.len.length - (intOf i).toNat)
  case atStart => exact ⟨0, Nat.zero_le _, rfl⟩
  case round =>
    obtain ⟨k, hk, rfl⟩ := hrel
    by_cases hlt : k < p.len.length
    · obtain ⟨b1, o1, rfl, hcl⟩ := (h1.ext hx1).atN hlt
      have hlo := HFA.out.lo k hlt
      have hhi := HFA.out.hi k hlt
      generalize nth p.len k = y at *
      go_wp2_with fail
      go_round
      case rel => exact ⟨k + 1, by omega, by go_num⟩
      case measure => simp [intOf]; omega
    · skip
      go_wp2_with fail
      go_loopw [44] (fun i wr => ∃ k n : Nat, k ≤ p.ck.length ∧ i = .int .i64 k ∧ wr = (w.alloc (.cells #[.slice A1 p.len.length c1, .slice A2 p.ck.length c2, .slice A3 p.arcs.length c3] 44)).drewN n) (fun i _ => p.ck.length - (intOf i).toNat)
      case atStart => exact ⟨0, 0, Nat.zero_le _, rfl, rfl⟩
      case round =>
        obtain ⟨k, n, hk, rfl, rfl⟩ := hrel
        by_cases hlt : k < p.ck.length
        · have hlt' : k < p.len.length := by rw [← HCK.out]; exact hlt
          obtain ⟨b1, o1, rfl, hcl⟩ := (h1.ext hx1).atN hlt'
          obtain ⟨b2, o2, B, cc, rfl, hcr, hl2, hl3, hri⟩ := (h2.into (Into.ofExt hx1)).at_ hlt
          have hhi := HFA.out.hi k hlt'
          have hasc := ascending_any B cc (rowOf p.ck k) (nth p.len k) ((w.alloc (.cells #[.slice (some ⟨b1, o1, none⟩) p.len.length c1, .slice (some ⟨b2, o2, none⟩) p.ck.length c2, .slice A3 p.arcs.length c3] 44)).drewN n) hri hl2 hl3 (HR.out k hlt') hhi
          have HA := Lib.hid hasc
          clear hasc
          generalize nth p.len k = y at *
          go_wp2_with fail
          refine HA.out.mono ?_
          rintro e w' ⟨rfl, m, rfl⟩
          go_wp2_with fail
          go_roundw
          case rel => exact ⟨k + 1, _, by omega, by go_num, rfl⟩
          case measure => simp [intOf]; omega
        · skip
          have hb := heap2 w (.cells #[.slice A1 p.len.length c1, .slice A2 p.ck.length c2, .slice A3 p.arcs.length c3] 44) (.cells Try.zeroCells118 118)
          have hx2 := hx1.alloc' (.cells Try.zeroCells118 118)
          have HB := Lib.hid hb
          have HX := Lib.hid hx2
          clear hb hx2
          go_wp2_with fail
          go_loopw [61] (fun i wr => ∃ k : Nat, k ≤ p.arcs.length ∧ i = .int .i64 k ∧ Marks wr (w.heap.size + 1) (recvTo p.arcs k) ∧ (wr.cell? ⟨w.heap.size, 0, none⟩ = some (.slice A1 p.len.length c1) ∧ wr.cell? ⟨w.heap.size, 1, none⟩ = some (.slice A2 p.ck.length c2) ∧ wr.cell? ⟨w.heap.size, 2, none⟩ = some (.slice A3 p.arcs.length c3)) ∧ Ext w wr) (fun i _ => p.arcs.length - (intOf i).toNat)
          case atStart =>
            refine ⟨0, Nat.zero_le _, rfl, ⟨?_, zeros_length⟩, ⟨cell_of_heap HB.out.1 rfl, cell_of_heap HB.out.1 rfl, cell_of_heap HB.out.1 rfl⟩, HX.out.drewN' n⟩
            rw [show Try.zeroCells118 = (ints (recvTo p.arcs 0)).toArray from zeros_cells] at HB
            exact HB.out.2
          case round =>
            clear HB HX
            obtain ⟨k, hk, rfl, hm, ⟨g0, g1, g2⟩, hext⟩ := hrel
            have hsz := lt_of_block hm.1
            by_cases hlt : k < p.arcs.length
            · obtain ⟨b3, o3, rfl, a0, a1, a2, a3⟩ := (h3.into (Into.ofExt hext)).at_ hlt
              have ho := HFA.out.arc _ (arcOf_mem hlt)
              have hab := HFA.out.arcb (arcOf_mem hlt)
              have hfree := fun h0 => HFA.out.free hlt h0
              have hstep : recvTo p.arcs (k + 1) = if (arcOf p.arcs k).at_ = 0 then recvTo p.arcs k else (recvTo p.arcs k).set (gi (arcOf p.arcs k).to (arcOf p.arcs k).at_.toNat) ((k : Int) + 1) := rfl
              have HST := Lib.hid hstep
              have HFR := Lib.hid hfree
              have hx3 := (Ext.refl' wr).alloc' (.cells (arcCells (arcOf p.arcs k)).toArray 84)
              have hin := inRange_any _ p (arcOf p.arcs k) (wr.alloc (.cells (arcCells (arcOf p.arcs k)).toArray 84)) ((HP.out.ext hext).ext hx3) hn5 ho ⟨by omega, by omega⟩
              have HIN := Lib.hid hin
              clear hstep hfree hin ho
              have g0a := cell_a1 g0
              have g1a := cell_a1 g1
              have g2a := cell_a1 g2
              have hne : w.heap.size ≠ w.heap.size + 1 := by omega
              have hy2 : (wr.alloc (.cells (arcCells (arcOf p.arcs k)).toArray 84)).cell? ⟨wr.heap.size, 2, none⟩ = some (.int .i64 ((arcOf p.arcs k).to : Int)) := cell_of_heap (heap_new wr _) rfl
              have hy3 : (wr.alloc (.cells (arcCells (arcOf p.arcs k)).toArray 84)).cell? ⟨wr.heap.size, 3, none⟩ = some (.int .i64 (arcOf p.arcs k).at_) := cell_of_heap (heap_new wr _) rfl
              have HY2 := Lib.hid hy2
              have HY3 := Lib.hid hy3
              clear hy2 hy3
              go_wp2_with fail
              refine HIN.out.mono ?_
              rintro e w2 ⟨rfl, hx4⟩
              have hx5 := hx3.trans' hx4
              have hm2 := hm.ext hx5
              have k0 := hx5.cell g0
              have k1 := hx5.cell g1
              have k2 := hx5.cell g2
              have y2 := hx4.cell HY2.out
              have y3 := hx4.cell HY3.out
              have hext2 := hext.trans' hx5
              clear HIN HY2 HY3 hx4 hx3 hx5 g0 g1 g2 g0a g1a g2a hm
              obtain ⟨t, ht0⟩ : ∃ t : Nat, (arcOf p.arcs k).to = t := ⟨_, rfl⟩
              obtain ⟨z, hz0⟩ : ∃ z : Nat, (arcOf p.arcs k).at_ = (z : Int) := ⟨(arcOf p.arcs k).at_.toNat, by omega⟩
              rw [ht0] at y2
              rw [hz0] at y3
              have ht5 : t < 5 := by omega
              have hz64 : z ≤ 64 := by omega
              have hgl : t * 65 + z < 325 := by omega
              have HFR2 : Hid ((z : Int) ≠ 0 → nth (recvTo p.arcs k) (t * 65 + z) = 0) := by
                have h := HFR.out
                rw [hz0, ht0, Int.toNat_natCast] at h
                exact h
              have HST2 : Hid (recvTo p.arcs (k + 1) = if (z : Int) = 0 then recvTo p.arcs k else (recvTo p.arcs k).set (t * 65 + z) ((k : Int) + 1)) := by
                have h := HST.out
                rw [hz0, ht0, Int.toNat_natCast] at h
                exact h
              clear HFR HST ht0 hz0 hab a0 a1 a2 a3
              by_cases hz : z = 0
              · have hzb : ((z : Int) == 0) = true := by simp [hz]
                have hst := HST2.out
                rw [if_pos (by omega)] at hst
                have HST := Lib.hid hst
                clear hst hz HFR2 HST2
                go_wp2_with fail
                go_roundw
                case rel => exact ⟨k + 1, by omega, by go_num, by rw [HST.out]; exact hm2, ⟨k0, k1, k2⟩, hext2⟩
                case measure => simp [intOf]; omega
              · have hzb : ((z : Int) == 0) = false := beq_eq_false_iff_ne.2 (by omega)
                have hst := HST2.out
                rw [if_neg (by omega)] at hst
                have hfr := HFR2.out (by omega)
                have hcell := hm2.cell hgl
                rw [hfr] at hcell
                have hfz := hm2.fz (t * 65 + z)
                have hm3 := hm2.set (t * 65 + z) ((k : Int) + 1)
                rw [← hst] at hm3
                have HST := Lib.hid hst
                clear hst hz HFR2 HST2 hfr
                have ht5' : (t : Int) < 5 := by omega
                have hz65' : (z : Int) < 65 := by omega
                have hne1 : w.heap.size ≠ w.heap.size + 1 := by omega
                have s0 := World.cell?_setCell_other w2 ⟨w.heap.size + 1, t * 65 + z, none⟩ ⟨w.heap.size, 0, none⟩ (.int .i64 ((k : Int) + 1)) (by simp)
                have s1 := World.cell?_setCell_other w2 ⟨w.heap.size + 1, t * 65 + z, none⟩ ⟨w.heap.size, 1, none⟩ (.int .i64 ((k : Int) + 1)) (by simp)
                have s2 := World.cell?_setCell_other w2 ⟨w.heap.size + 1, t * 65 + z, none⟩ ⟨w.heap.size, 2, none⟩ (.int .i64 ((k : Int) + 1)) (by simp)
                rw [k0] at s0
                rw [k1] at s1
                rw [k2] at s2
                have hext3 := hext2.setCell' (p := ⟨w.heap.size + 1, t * 65 + z, none⟩) (by show w.heap.size ≤ w.heap.size + 1; omega) (.int .i64 ((k : Int) + 1))
                have S0 := Lib.hid s0
                have S1 := Lib.hid s1
                have S2 := Lib.hid s2
                clear s0 s1 s2
                go_wp2_with fail
                go_quiet (fail)
                go_wp2_with fail
                have hw1 : IntKind.i64.wrap ((k : Int) + 1) = (k : Int) + 1 := IntWalk.i64_in _ (by omega)
                have y2' : (w2.drewN nq).cell? ⟨wr.heap.size, 2, none⟩ = some (.int .i64 (t : Int)) := y2
                have y3' : (w2.drewN nq).cell? ⟨wr.heap.size, 3, none⟩ = some (.int .i64 (z : Int)) := y3
                have hcell' : (w2.drewN nq).cell? ⟨w.heap.size + 1, t * 65 + z, none⟩ = some (.int .i64 0) := hcell
                have hfz' : (w2.drewN nq).frozen? ⟨w.heap.size + 1, t * 65 + z, none⟩ = false := hfz
                clear y2 y3 hcell hfz
                generalize hw3 : w2.drewN nq = w3 at y2' y3' hcell' hfz' ⊢
                have HW := Lib.hid hw3
                clear hw3
                refine wp_region_still_tail 8 (by kernel_rfl) (by kernel_rfl) ?_
                simp only [List.take_succ_cons, List.take_zero, List.drop_succ_cons, List.drop_zero]
                repeat still_step
                refine wpStill_nil ?_
                change wpList _ _ _ _ _ w3.drew
                clear hw1
                go_wp2_with fail
                go_roundw
                case rel =>
                  refine ⟨k + 1, by omega, by go_num, ?_, ?_, ?_⟩
                  · rw [← HW.out]; exact hm3
                  · rw [← HW.out]; exact ⟨S0.out, S1.out, S2.out⟩
                  · rw [← HW.out]; exact hext3.drewN' (nq + 1)
                case measure => simp [intOf]; omega
            · obtain rfl : k = p.arcs.length := by omega
              have hca : RI All wr (some ⟨w.heap.size + 1, 0, none⟩) (recvTo p.arcs p.arcs.length) := fun j u hu => by
                rw [List.getElem?_map] at hu
                cases hz : (recvTo p.arcs p.arcs.length)[j]? with
                | none => rw [hz] at hu; cases hu
                | some x =>
                  rw [hz] at hu
                  injection hu with hu
                  obtain ⟨hj, hx⟩ := List.getElem?_eq_some_iff.1 hz
                  rw [recvTo_length] at hj
                  refine ⟨_, _, rfl, trivial, ?_⟩
                  rw [Nat.zero_add, hm.cell hj, nth_eq (by rw [recvTo_length]; exact hj), hx, ← hu]
              have hord := ordered_any (S := All) ⟨A1, c1, A2, c2, A3, c3⟩ p (w.heap.size + 1) f (recvTo p.arcs p.arcs.length) bo wr ((HP.out.ext hext).into (Into.sub _ fun _ _ => trivial)) hn5 (fun q hq => ⟨HFA.out.lo q hq, HFA.out.hi q hq⟩) hca (recvTo_length _ _) hfew (fun j _ => recvTo_bd _ _ _) (fun a ha => by have := HFA.out.arcb ha; omega) HF.out
              have HO := Lib.hid hord
              clear hord hca hm
              go_wp2_with fail
              refine HO.out.mono ?_
              rintro e w2 ⟨rfl, hx4⟩
              have hext2 := hext.trans' hx4
              clear HO hx4
              cases bo with
              | true =>
                go_wp2_with fail
                go_ret
                exact ⟨rfl, hext2⟩
              | false =>
                go_wp2_with fail
                go_ret
                exact ⟨rfl, hext2⟩

theorem check_good {S : Nat → Prop} (v : PV) (p : Pat) (w : World) (hp : PatAt S w v p) (hg : Good p) : Calls Try.prog 61 #[v.val p] w fun e w' => e = .returned (.int .i64 0) ∧ Ext w w' := by
  obtain ⟨f, hf⟩ := hg.ordF
  exact check_shape v p f true w hp hg.shape hf
end Go.Proofs.Ytmjmdncdmmcmaaa

