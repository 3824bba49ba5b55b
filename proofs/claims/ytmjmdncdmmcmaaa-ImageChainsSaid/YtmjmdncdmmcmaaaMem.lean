/- Memory words: a slice that reads as a list; what stays as it was; small facts on lists and numbers. No condition. -/
import Derived.WalkKit
import Derived.WalkSpells
import Derived.WalkLawsBesides
import Derived.Lib.Hide
import Derived.Deep.QuietTactic
import Derived.BigQuiet
import Derived.Maps.AppendAt
import Derived.Laws.CopyOwn
import Derived.StillTailTactics
import Derived.Deep.RegionHeld3
namespace Go.Proofs.Ytmjmdncdmmcmaaa
open Go.RowKit

theorem lt_of_cell {w : World} {p : Addr} {u : Value} (h : w.cell? p = some u) : p.block < w.heap.size := by
  rcases Nat.lt_or_ge p.block w.heap.size with hlt | hge
  · exact hlt
  · unfold World.cell? at h; rw [Array.getElem?_eq_none hge] at h; cases h

/-- of the blocks in S none has changed -/
structure Keep (S : Nat → Prop) (w w' : World) : Prop where
  os : w'.os = w.os
  tape : w'.tape = w.tape
  output : w'.output = w.output
  size : w.heap.size ≤ w'.heap.size
  block : ∀ k, k < w.heap.size → S k → w'.heap[k]? = w.heap[k]?

/-- nothing that lay in memory has changed -/
abbrev Ext (w w' : World) : Prop := Below w.heap.size w w'
abbrev All : Nat → Prop := fun _ => True

theorem Keep.refl (S : Nat → Prop) (w : World) : Keep S w w := ⟨rfl, rfl, rfl, Nat.le_refl _, fun _ _ _ => rfl⟩
theorem Keep.trans {S : Nat → Prop} {a b c : World} (h : Keep S a b) (k : Keep S b c) : Keep S a c :=
  ⟨k.os.trans h.os, k.tape.trans h.tape, k.output.trans h.output, Nat.le_trans h.size k.size, fun i hi hs => (k.block i (Nat.lt_of_lt_of_le hi h.size) hs).trans (h.block i hi hs)⟩
theorem Keep.mono {S S' : Nat → Prop} {a b : World} (h : Keep S a b) (hs : ∀ k, S' k → S k) : Keep S' a b :=
  ⟨h.os, h.tape, h.output, h.size, fun i hi k => h.block i hi (hs i k)⟩
theorem Keep.drewN {S : Nat → Prop} {a b : World} (h : Keep S a b) (n : Nat) : Keep S a (b.drewN n) := ⟨h.os, h.tape, h.output, h.size, h.block⟩
theorem Keep.ofExt {S : Nat → Prop} {a b : World} (h : Ext a b) : Keep S a b := ⟨h.os, h.tape, h.output, h.size, fun i hi _ => h.block i hi⟩
theorem Keep.ext {a b : World} {S : Nat → Prop} (h : Keep S a b) (hs : ∀ k, k < a.heap.size → S k) : Ext a b := ⟨h.os, h.tape, h.output, h.size, fun i hi => h.block i hi (hs i hi)⟩
theorem Keep.below {a b : World} {S : Nat → Prop} {B : Nat} (h : Keep S a b) (hB : B ≤ a.heap.size) (hs : ∀ k, k < B → S k) : Below B a b := ⟨h.os, h.tape, h.output, h.size, fun i hi => h.block i (by omega) (hs i hi)⟩
theorem Keep.ofGrown {a b : World} {S : Nat → Prop} {row : Option Nat} (h : a.grownBy b row) (hs : ∀ k, S k → some k ≠ row) : Keep S a b :=
  ⟨h.os, h.tape, h.output, h.size, fun i hi k => h.block i hi (hs i k)⟩
theorem Keep.ofBelow {a b : World} {S : Nat → Prop} {B : Nat} (h : Below B a b) (hs : ∀ k, S k → k < B) : Keep S a b := ⟨h.os, h.tape, h.output, h.size, fun i _ k => h.block i (hs i k)⟩
theorem Keep.cell {S : Nat → Prop} {w w' : World} (h : Keep S w w') {p : Addr} {u : Value} (hs : S p.block) (hc : w.cell? p = some u) : w'.cell? p = some u :=
  (World.cell?_of_block (w := w) (h.block p.block (lt_of_cell hc) hs)).trans hc
theorem Ext.cell {w w' : World} (h : Ext w w') {p : Addr} {u : Value} (hc : w.cell? p = some u) : w'.cell? p = some u :=
  (Below.cell h (lt_of_cell hc)).trans hc
theorem Ext.trans' {a b c : World} (h : Ext a b) (k : Ext b c) : Ext a c := Below.trans h (k.mono h.size)
theorem Ext.refl' (a : World) : Ext a a := Below.refl _ _
theorem Ext.drewN' {a b : World} (h : Ext a b) (n : Nat) : Ext a (b.drewN n) := ⟨h.os, h.tape, h.output, h.size, h.block⟩
theorem Ext.alloc' {a b : World} (h : Ext a b) (o : Obj) : Ext a (b.alloc o) := Below.alloc h h.size o

theorem add_mk (b o k : Nat) : (⟨b, o, none⟩ : Addr).add k = ⟨b, o + k, none⟩ := by unfold Addr.add; split <;> simp [*]
theorem block_add (a : Addr) (n : Nat) : (a.add n).block = a.block := by unfold Addr.add; split <;> rfl
theorem spot_of_cell {w : World} {a : Addr} {u : Value} (h : w.cell? a = some u) : a = ⟨a.block, a.off, none⟩ := by
  obtain ⟨b, o, s⟩ := a
  cases s with
  | none => rfl
  | some s => unfold World.cell? at h; simp at h; split at h <;> cases h

/-- from address A on, in blocks of S, lie the cells vs -/
def RV (S : Nat → Prop) (w : World) (A : Option Addr) (vs : List Value) : Prop := ∀ j u, vs[j]? = some u → ∃ b o, A = some ⟨b, o, none⟩ ∧ S b ∧ w.cell? ⟨b, o + j, none⟩ = some u

section
variable {S S' : Nat → Prop} {w w' : World} {A : Option Addr} {vs : List Value}
theorem RV.keep (h : RV S w A vs) (k : Keep S w w') : RV S w' A vs := fun j u hu =>
  let ⟨b, o, e, hs, hc⟩ := h j u hu; ⟨b, o, e, hs, k.cell hs hc⟩
theorem RV.ext (h : RV S w A vs) (k : Ext w w') : RV S w' A vs := h.keep (.ofExt k)
theorem RV.below {B : Nat} (h : RV (fun b => b < B) w A vs) (k : Below B w w') : RV (fun b => b < B) w' A vs := h.keep (.ofBelow k fun _ h => h)
theorem RV.sub (h : RV S w A vs) (hs : ∀ k, S k → S' k) : RV S' w A vs := fun j u hu =>
  let ⟨b, o, e, k, hc⟩ := h j u hu; ⟨b, o, e, hs _ k, hc⟩
theorem RV.nil_ (S : Nat → Prop) (w : World) (A : Option Addr) : RV S w A [] := fun j u hu => by simp at hu
theorem RV.drewN (h : RV S w A vs) (n : Nat) : RV S (w.drewN n) A vs := h
theorem RV.at_ {k : Nat} (h : RV S w A vs) (hk : k < vs.length) : ∃ b o, A = some ⟨b, o, none⟩ ∧ w.cell? ⟨b, o + k, none⟩ = some vs[k] :=
  let ⟨b, o, e, _, hc⟩ := h k _ (List.getElem?_eq_getElem hk); ⟨b, o, e, hc⟩
theorem RV.at_block {k : Nat} (h : RV S w A vs) (hk : k < vs.length) : ∃ b o, A = some ⟨b, o, none⟩ ∧ S b :=
  let ⟨b, o, e, k, _⟩ := h k _ (List.getElem?_eq_getElem hk); ⟨b, o, e, k⟩
theorem RV.drop {b o : Nat} (h : RV S w (some ⟨b, o, none⟩) vs) (k : Nat) : RV S w (some ⟨b, o + k, none⟩) (vs.drop k) := fun j u hu => by
  rw [List.getElem?_drop] at hu
  obtain ⟨b', o', e, hs, hc⟩ := h _ u hu
  injection e with e; injection e with e1 e2; subst e1; subst e2
  exact ⟨_, _, rfl, hs, by rw [Nat.add_assoc]; exact hc⟩
theorem RV.take (h : RV S w A vs) (k : Nat) : RV S w A (vs.take k) := fun j u hu => by
  rw [List.getElem?_take] at hu
  split at hu
  · exact h j u hu
  · cases hu
theorem RV.dropO (h : RV S w A vs) (k : Nat) : RV S w (A.map (·.add k)) (vs.drop k) := by
  intro j u hu
  rw [List.getElem?_drop] at hu
  obtain ⟨b, o, rfl, hs, hc⟩ := h _ u hu
  exact ⟨b, o + k, by simp [add_mk], hs, by rw [Nat.add_assoc]; exact hc⟩
theorem RV.ofOwn {base : Nat} {e : TypeId} {size n c : Nat} (h : w.ownsRow base e size (.slice A n c) n vs) : RV (fun b => base ≤ b) w A vs := by
  intro j u hu
  obtain ⟨h1, h2⟩ := h
  rcases h2 with ⟨h3, h4⟩ | ⟨g, cap, cur, hv, hg, hh, hn, hm, hsz, htk⟩
  · subst h4; simp at h1; subst h1; simp at hu
  · injection hv with hA _ hcc; subst hA; subst hcc
    have := World.ownsRow.cells (base := base) (e := e) (size := size) (v := .slice (some ⟨g, 0, none⟩) n c) (n := n) ⟨h1, .inr ⟨g, _, cur, rfl, hg, hh, hn, hm, hsz, htk⟩⟩ rfl j u hu
    rw [add_mk] at this
    exact ⟨g, 0, rfl, hg, this⟩
theorem RV.ofOwn' {base : Nat} {e : TypeId} {size n c : Nat} (h : w.ownsRow base e size (.slice A n c) n vs) (hs : ∀ b, base ≤ b → S b) : RV S w A vs := (RV.ofOwn h).sub hs
end

abbrev ints (xs : List Int) : List Value := xs.map (Value.int .i64)
/-- from address A on, in blocks of S, lie the numbers xs -/
def RI (S : Nat → Prop) (w : World) (A : Option Addr) (xs : List Int) : Prop := RV S w A (ints xs)
section
variable {S S' : Nat → Prop} {w w' : World} {A : Option Addr} {xs : List Int}
theorem RI.keep (h : RI S w A xs) (k : Keep S w w') : RI S w' A xs := RV.keep h k
theorem RI.ext (h : RI S w A xs) (k : Ext w w') : RI S w' A xs := RV.ext h k
theorem RI.sub (h : RI S w A xs) (hs : ∀ k, S k → S' k) : RI S' w A xs := RV.sub h hs
theorem RI.at_ (h : RI S w A xs) {k : Nat} (hk : k < xs.length) : ∃ b o, A = some ⟨b, o, none⟩ ∧ w.cell? ⟨b, o + k, none⟩ = some (.int .i64 xs[k]) :=
  let ⟨b, o, e, _, hc⟩ := h k _ (by simp [hk]); ⟨b, o, e, hc⟩
theorem RI.take (h : RI S w A xs) (k : Nat) : RI S w A (xs.take k) := by
  have := RV.take h k; unfold RI; rw [ints, List.map_take]; exact this
theorem RI.drop {b o : Nat} (h : RI S w (some ⟨b, o, none⟩) xs) (k : Nat) : RI S w (some ⟨b, o + k, none⟩) (xs.drop k) := by
  have := RV.drop h k; unfold RI; rw [ints, List.map_drop]; exact this
theorem RI.dropO (h : RI S w A xs) (k : Nat) : RI S w (A.map (·.add k)) (xs.drop k) := by
  have := RV.dropO h k; unfold RI; rw [ints, List.map_drop]; exact this
theorem RI.nil_ (S : Nat → Prop) (w : World) (A : Option Addr) : RI S w A [] := RV.nil_ S w A
end

section
variable {α : Type}
/-- the cells vs hold, sz a piece, the data xs -/
def Reps (rep : List Value → α → Prop) (sz : Nat) : List Value → List α → Prop
  | vs, [] => vs = []
  | vs, x :: xs => ∃ cs r, vs = cs ++ r ∧ cs.length = sz ∧ rep cs x ∧ Reps rep sz r xs
variable {rep rep' : List Value → α → Prop} {sz : Nat}
theorem Reps.length {vs : List Value} {xs : List α} (h : Reps rep sz vs xs) : vs.length = xs.length * sz := by
  induction xs generalizing vs with
  | nil => cases h; simp
  | cons x xs ih =>
    obtain ⟨cs, r, rfl, hl, _, hr⟩ := h
    rw [List.length_append, ih hr, hl, List.length_cons, Nat.succ_mul]; omega
theorem Reps.mono {vs : List Value} {xs : List α} (h : Reps rep sz vs xs) (hm : ∀ cs x, rep cs x → rep' cs x) : Reps rep' sz vs xs := by
  induction xs generalizing vs with
  | nil => exact h
  | cons x xs ih =>
    obtain ⟨cs, r, e, hl, h1, hr⟩ := h
    exact ⟨cs, r, e, hl, hm _ _ h1, ih hr⟩
theorem Reps.append {vs us : List Value} {xs ys : List α} (h : Reps rep sz vs xs) (k : Reps rep sz us ys) : Reps rep sz (vs ++ us) (xs ++ ys) := by
  induction xs generalizing vs with
  | nil => cases h; exact k
  | cons x xs ih =>
    obtain ⟨cs, r, rfl, hl, h1, hr⟩ := h
    exact ⟨cs, r ++ us, by simp, hl, h1, ih hr⟩
theorem Reps.one {cs : List Value} {x : α} (hl : cs.length = sz) (h : rep cs x) : Reps rep sz cs [x] := ⟨cs, [], by simp, hl, h, rfl⟩
theorem Reps.snoc {vs cs : List Value} {xs : List α} {x : α} (h : Reps rep sz vs xs) (hl : cs.length = sz) (k : rep cs x) : Reps rep sz (vs ++ cs) (xs ++ [x]) := h.append (.one hl k)
theorem Reps.at_ {vs : List Value} {xs : List α} (h : Reps rep sz vs xs) {j : Nat} (hj : j < xs.length) : ∃ cs, cs.length = sz ∧ rep cs xs[j] ∧ ∀ i, i < sz → vs[j * sz + i]? = cs[i]? := by
  induction xs generalizing vs j with
  | nil => simp at hj
  | cons x xs ih =>
    obtain ⟨cs, r, rfl, hl, h1, hr⟩ := h
    cases j with
    | zero => exact ⟨cs, hl, h1, fun i hi => by rw [Nat.zero_mul, Nat.zero_add, List.getElem?_append_left (by omega)]⟩
    | succ j =>
      obtain ⟨cs', hl', h1', hc⟩ := ih hr (by simpa using hj)
      refine ⟨cs', hl', h1', fun i hi => ?_⟩
      rw [← hc i hi, List.getElem?_append_right (by rw [hl, Nat.succ_mul]; omega)]
      congr 1; rw [hl, Nat.succ_mul]; omega
end
/-- a slice at A whose elements are the data xs -/
def RL {α : Type} (rep : World → List Value → α → Prop) (sz : Nat) (S : Nat → Prop) (w : World) (A : Option Addr) (xs : List α) : Prop := ∃ vs, RV S w A vs ∧ Reps (rep w) sz vs xs
section
variable {α : Type} {rep : World → List Value → α → Prop} {sz : Nat} {S S' : Nat → Prop} {w w' : World} {A : Option Addr} {xs : List α}
theorem RL.keep (h : RL rep sz S w A xs) (k : Keep S w w') (hm : ∀ cs x, rep w cs x → rep w' cs x) : RL rep sz S w' A xs :=
  let ⟨vs, h1, h2⟩ := h; ⟨vs, h1.keep k, h2.mono hm⟩
theorem RL.at_ (h : RL rep sz S w A xs) {j : Nat} (hj : j < xs.length) (hz : 0 < sz) : ∃ b o cs, A = some ⟨b, o, none⟩ ∧ cs.length = sz ∧ rep w cs xs[j] ∧ ∀ i, i < sz → w.cell? ⟨b, o + j * sz + i, none⟩ = cs[i]? := by
  obtain ⟨vs, h1, h2⟩ := h
  obtain ⟨cs, hl, hr, hc⟩ := h2.at_ hj
  obtain ⟨b, o, rfl, _, _⟩ := h1 (j * sz + 0) _ ((hc 0 hz).trans (List.getElem?_eq_getElem (by omega)))
  refine ⟨b, o, cs, rfl, hl, hr, fun i hi => ?_⟩
  have e := List.getElem?_eq_getElem (l := cs) (i := i) (by omega)
  obtain ⟨b', o', e', _, hcc⟩ := h1 (j * sz + i) _ ((hc i hi).trans e)
  injection e' with e'; injection e' with e1 e2; subst e1; subst e2
  rw [Nat.add_assoc, hcc, e]
theorem RL.nil_ (rep : World → List Value → α → Prop) (sz : Nat) (S : Nat → Prop) (w : World) (A : Option Addr) : RL rep sz S w A [] := ⟨[], RV.nil_ _ _ _, rfl⟩
end

theorem new_cells (w : World) (cs : List Value) (t : TypeId) (j : Nat) (u : Value) (h : cs[j]? = some u) : (w.alloc (.cells cs.toArray t)).cell? ⟨w.heap.size, 0 + j, none⟩ = some u := by
  have e : (w.alloc (.cells cs.toArray t)).heap[w.heap.size]? = some (.cells cs.toArray t) := by show (w.heap.push _)[w.heap.size]? = _; simp
  simp only [World.cell?, e]
  simpa using h
theorem ownsRow_nil (w : World) (base : Nat) (e : TypeId) (size : Nat) : w.ownsRow base e size (.slice none 0 0) 0 [] := ⟨by simp, .inl ⟨rfl, rfl⟩⟩
theorem own_form {w : World} {base : Nat} {e : TypeId} {size : Nat} {v : Value} {n : Nat} {vs : List Value} (h : w.ownsRow base e size v n vs) : ∃ A c, v = .slice A n c ∧ n ≤ c ∧ c ≤ 9223372036854775807 := by
  rcases h.2 with ⟨rfl, rfl⟩ | ⟨g, cap, cur, rfl, _, _, h1, h2, _⟩
  · exact ⟨none, 0, rfl, by omega, by omega⟩
  · exact ⟨_, cap, rfl, h1, by unfold maxLen at h2; omega⟩
theorem own_block {w : World} {base : Nat} {e : TypeId} {size : Nat} {v : Value} {n : Nat} {vs : List Value} (h : w.ownsRow base e size v n vs) : ∀ k, v.ownBlock = some k → base ≤ k := by
  rcases h.2 with ⟨rfl, rfl⟩ | ⟨g, cap, cur, rfl, hg, _⟩
  · intro k hk; simp [Value.ownBlock] at hk
  · intro k hk; simp [Value.ownBlock] at hk; omega
theorem reps_mk {α : Type} {rep : List Value → α → Prop} {sz : Nat} {w : World} {b : Nat} : ∀ (xs : List α) (o : Nat), (∀ j (hj : j < xs.length), ∃ cs, cs.length = sz ∧ rep cs xs[j] ∧ ∀ i u, cs[i]? = some u → w.cell? ⟨b, o + j * sz + i, none⟩ = some u) →
    ∃ vs, (∀ j u, vs[j]? = some u → w.cell? ⟨b, o + j, none⟩ = some u) ∧ Reps rep sz vs xs
  | [], o, _ => ⟨[], fun j u h => by simp at h, rfl⟩
  | x :: xs, o, h => by
    obtain ⟨cs, hl, hr, hc⟩ := h 0 (by simp)
    obtain ⟨vs, h1, h2⟩ := reps_mk xs (o + sz) (fun j hj => by
      obtain ⟨cs', hl', hr', hc'⟩ := h (j + 1) (by simpa using hj)
      refine ⟨cs', hl', by simpa using hr', fun i u hu => ?_⟩
      have := hc' i u hu
      rw [Nat.succ_mul] at this
      rw [show o + sz + j * sz + i = o + (j * sz + sz) + i by omega]; exact this)
    refine ⟨cs ++ vs, fun j u hu => ?_, cs, vs, rfl, hl, hr, h2⟩
    by_cases hj : j < cs.length
    · rw [List.getElem?_append_left hj] at hu
      simpa using hc j u hu
    · rw [List.getElem?_append_right (by omega)] at hu
      have := h1 _ u hu
      rw [show o + sz + (j - cs.length) = o + j by omega] at this
      exact this
theorem choose_list {α : Type} {Q : Nat → α → Prop} : ∀ (n : Nat), (∀ i, i < n → ∃ p, Q i p) → ∃ ps : List α, ps.length = n ∧ ∀ i (h : i < ps.length), Q i ps[i]
  | 0, _ => ⟨[], rfl, fun i h => by simp at h⟩
  | n + 1, h => by
    obtain ⟨ps, hl, hq⟩ := choose_list n (fun i hi => h i (by omega))
    obtain ⟨p, hp⟩ := h n (by omega)
    refine ⟨ps ++ [p], by simp [hl], fun i hi => ?_⟩
    by_cases hlt : i < ps.length
    · rw [List.getElem_append_left hlt]; exact hq i hlt
    · have : i = n := by simp at hi; omega
      subst this
      rw [List.getElem_append_right (by omega)]
      simpa [hl] using hp
/-- what lies in blocks of S lies, unchanged, in blocks of S' -/
def Into (S S' : Nat → Prop) (w w' : World) : Prop := ∀ k, S k → k < w.heap.size → S' k ∧ w'.heap[k]? = w.heap[k]?
theorem Into.ofExt {S : Nat → Prop} {w w' : World} (h : Ext w w') : Into S S w w' := fun k hs hk => ⟨hs, h.block k hk⟩
theorem Into.ofKeep {S : Nat → Prop} {w w' : World} (h : Keep S w w') : Into S S w w' := fun k hs hk => ⟨hs, h.block k hk hs⟩
theorem Into.sub {S S' : Nat → Prop} (w : World) (h : ∀ k, S k → S' k) : Into S S' w w := fun k hs _ => ⟨h k hs, rfl⟩
theorem Into.subLt {S S' : Nat → Prop} (w : World) (h : ∀ k, S k → k < w.heap.size → S' k) : Into S S' w w := fun k hs hk => ⟨h k hs hk, rfl⟩
theorem lt_of_block {w : World} {k : Nat} {o : Obj} (h : w.heap[k]? = some o) : k < w.heap.size := (Array.getElem?_eq_some_iff.1 h).1
theorem RV.into {S S' : Nat → Prop} {w w' : World} {A : Option Addr} {vs : List Value} (h : RV S w A vs) (k : Into S S' w w') : RV S' w' A vs := fun j u hu =>
  let ⟨b, o, e, hs, hc⟩ := h j u hu
  have hlt : b < w.heap.size := lt_of_cell hc
  ⟨b, o, e, (k _ hs hlt).1, (World.cell?_of_block (w := w) (k _ hs hlt).2).trans hc⟩
theorem RI.into {S S' : Nat → Prop} {w w' : World} {A : Option Addr} {xs : List Int} (h : RI S w A xs) (k : Into S S' w w') : RI S' w' A xs := RV.into h k
theorem RL.into {α : Type} {rep rep' : World → List Value → α → Prop} {sz : Nat} {S S' : Nat → Prop} {w w' : World} {A : Option Addr} {xs : List α}
    (h : RL rep sz S w A xs) (k : Into S S' w w') (hm : ∀ cs x, rep w cs x → rep' w' cs x) : RL rep' sz S' w' A xs :=
  let ⟨vs, h1, h2⟩ := h; ⟨vs, h1.into k, h2.mono hm⟩
/-- S without the block of the row v -/
def Off (v : Value) (S : Nat → Prop) : Nat → Prop := fun k => S k ∧ some k ≠ v.ownBlock
/-- what an append has done: the row v has become v' -/
structure Appd (w w' : World) (v v' : Value) : Prop where
  g : w.grownBy w' v.ownBlock
  at_ : v'.ownBlock = v.ownBlock ∨ v'.ownBlock = some w.heap.size
theorem Into.old {S : Nat → Prop} {v : Value} {B : Nat} (w : World) (h : ∀ k, v.ownBlock = some k → B ≤ k) : Into (fun k => S k ∧ k < B) (Off v S) w w := fun k hs _ =>
  ⟨⟨hs.1, fun e => by have := h k e.symm; have := hs.2; omega⟩, rfl⟩
theorem Into.trans {S S' S'' : Nat → Prop} {a b c : World} (h : Into S S' a b) (k : Into S' S'' b c) (hz : a.heap.size ≤ b.heap.size) : Into S S'' a c := fun i hs hi =>
  let ⟨h1, h2⟩ := h i hs hi
  let ⟨k1, k2⟩ := k i h1 (by omega)
  ⟨k1, k2.trans h2⟩
theorem Into.app {S : Nat → Prop} {wr wa w1 : World} {v v' : Value} (hx : Ext wr wa) (ha : Appd wa w1 v v') : Into (Off v S) (Off v' S) wr w1 := by
  obtain ⟨hg, hat⟩ := ha
  intro k hs hk
  have hz := hx.size
  refine ⟨⟨hs.1, ?_⟩, (hg.block k (by omega) hs.2).trans (hx.block k hk)⟩
  rcases hat with e | e <;> rw [e]
  · exact hs.2
  · intro h; injection h; omega
theorem Ext.app {w wr wa w1 : World} {v v' : Value} (h : Ext w wr) (hx : Ext wr wa) (ha : Appd wa w1 v v') (hv : ∀ k, v.ownBlock = some k → w.heap.size ≤ k) : Ext w w1 :=
  Below.grown (h.trans' hx) ha.g (h.trans' hx).size hv

/-- the slice type t, its element type e of so many cells and bytes -/
structure ElemTy (P : Program) (t e : TypeId) (size bytes : Nat) : Prop where
  ht : P.underlying t = some (.slice e)
  hi : ∃ i z, P.info? e = some i ∧ i.zero = some z ∧ i.size = size ∧ i.bytes = bytes ∧ z.cells.size = size
  hsz : 0 < size
  hby : 0 < bytes
theorem ElemTy.mk' {P : Program} {t e : TypeId} {size bytes : Nat} {z : Value} (ht : P.underlying t = some (.slice e)) (hi : (P.info? e).map (fun i => (i.zero, i.size, i.bytes)) = some (some z, size, bytes)) (hz : z.cells.size = size) (hsz : 0 < size) (hby : 0 < bytes) : ElemTy P t e size bytes := by
  obtain ⟨i0, hi, hz0, hz1, hz2⟩ := info_parts hi
  exact ⟨ht, ⟨i0, z, hi, hz0, hz1, hz2, hz⟩, hsz, hby⟩

theorem run_app_nil {P : Program} {t e : TypeId} {size bytes : Nat} (hT : ElemTy P t e size bytes) (w : World) (base : Nat) (ty : TypeId) (v : Value) (n : Nat) (xs : List Value) (hown : w.ownsRow base e size v n xs) (c : Nat) :
    (Builtin.append_ #[t, t] ty #[v, .slice none 0 c]).run P w = .ok v w := by
  obtain ⟨i, z, hi, _⟩ := hT.hi
  rcases hown.2 with ⟨rfl, rfl⟩ | ⟨g, cap, cur, rfl, _, _, hnc, _⟩
  · simp [Builtin.append_, run_underlying hT.ht, sizeOf, typeInfo, hi, Builtin.lenOf, Builtin.firstCells]
  · simp [Builtin.append_, run_underlying hT.ht, sizeOf, typeInfo, hi, Builtin.lenOf, Builtin.firstCells, hnc, storeCells]

theorem run_app {P : Program} {t e : TypeId} {size bytes : Nat} (hT : ElemTy P t e size bytes) (w : World) (base : Nat) (ty : TypeId) (v : Value) (n : Nat) (xs : List Value) (hown : w.ownsRow base e size v n xs)
    {S : Nat → Prop} (A : Option Addr) (m c : Nat) (news : List Value) (hl : news.length = m * size) (hr : RV S w A news) (h1 : ∀ u ∈ news, u.oneCell' = true) (hb : (n + m) * bytes ≤ 140737488355328) (hbase : base ≤ w.heap.size) :
    ∃ v' w', (Builtin.append_ #[t, t] ty #[v, .slice A m c]).run P w = .ok v' w' ∧ w'.ownsRow base e size v' (n + m) (xs ++ news) ∧ w.grownBy w' v.ownBlock ∧ (v'.ownBlock = v.ownBlock ∨ v'.ownBlock = some w.heap.size) := by
  cases A with
  | none =>
    have hn : news = [] := by
      cases news with
      | nil => rfl
      | cons u r => obtain ⟨b, o, e, _⟩ := hr 0 u rfl; cases e
    subst hn
    have hm : m = 0 := by
      rcases Nat.eq_zero_or_pos m with h0 | h0
      · exact h0
      · have := Nat.mul_pos h0 hT.hsz; simp at hl; omega
    subst hm
    exact ⟨v, w, run_app_nil hT w base ty v n xs hown c, by simpa using hown, World.grownBy.refl w _, .inl rfl⟩
  | some ad =>
    obtain ⟨i, z, hi, hz, hs, hby, hzs⟩ := hT.hi
    have h63 : n + m ≤ maxLen := by
      have : n + m ≤ (n + m) * bytes := Nat.le_mul_of_pos_right _ hT.hby
      unfold maxLen; omega
    have hc : ∀ j u, news[j]? = some u → w.cell? (ad.add j) = some u := fun j u hu => by
      obtain ⟨b, o, e, _, hc⟩ := hr j u hu
      injection e with e; subst e; rw [add_mk]; exact hc
    obtain ⟨v', w', hrun, h2, h3, _, h5⟩ := run_append_own_at (P := P) w base t ty e i z size bytes hT.ht hi hz hs hby hzs hT.hsz v n xs hown ad m c news hl hc h1 h63 hb hbase
    exact ⟨v', w', hrun, h2, h3, h5⟩

theorem wp_app {P : Program} {t e : TypeId} {size bytes : Nat} (hT : ElemTy P t e size bytes) {w : World} {o : Oper} {a : Act} {K : Act → World → Prop} {Q : Exit → Act → World → Prop} (s x : Operand)
    (ho : o.op = .call { callee := .builtin .append, args := #[s, x], argTypes := #[t, t] }) {base : Nat} {v : Value} {n : Nat} {xs : List Value} (hs : a.eval s = v) (hown : w.ownsRow base e size v n xs)
    {S : Nat → Prop} {A : Option Addr} {m c : Nat} {news : List Value} (hx : a.eval x = .slice A m c) (hl : news.length = m * size) (hr : RV S w A news) (h1 : ∀ u ∈ news, u.oneCell' = true) (hb : (n + m) * bytes ≤ 140737488355328) (hbase : base ≤ w.heap.size)
    (h : ∀ v' w', w'.ownsRow base e size v' (n + m) (xs ++ news) → Appd w w' v v' → K (a.put o.dst v') w') : o.wp P a w K Q := by
  obtain ⟨v', w', hrun, h2, h3, h4⟩ := run_app hT w base o.type v n xs hown A m c news hl hr h1 hb hbase
  unfold Oper.wp execOp
  simp only [ho, resolve, invoke, builtin, Sem.run_bind, Sem.run_pure, Result.andThen_ok, List.map_toArray, List.map_cons, List.map_nil, hs, hx, hrun]
  exact h v' w' h2 ⟨h3, h4⟩

/-- append onto a row of the call's own -/
theorem wpList_app {P : Program} {t e : TypeId} {size bytes : Nat} (hT : ElemTy P t e size bytes) {w : World} {ops : Array Oper} {rest : List Oper} {o : Oper} {a : Act} {Q : Exit → Act → World → Prop} (hgd : o.guard = none) (s x : Operand)
    (ho : o.op = .call { callee := .builtin .append, args := #[s, x], argTypes := #[t, t] }) {base : Nat} {v : Value} {n : Nat} {xs : List Value} (hs : a.eval s = v) (hown : w.ownsRow base e size v n xs)
    {S : Nat → Prop} {A : Option Addr} {m c : Nat} {news : List Value} (hx : a.eval x = .slice A m c) (hl : news.length = m * size) (hr : RV S w A news) (h1 : ∀ u ∈ news, u.oneCell' = true) (hb : (n + m) * bytes ≤ 140737488355328) (hbase : base ≤ w.heap.size)
    (h : ∀ v' w', w'.ownsRow base e size v' (n + m) (xs ++ news) → Appd w w' v v' → wpList P ops Q rest (a.put o.dst v') w') : wpList P ops Q (o :: rest) a w :=
  wpList_plain hgd fun _ hK => wp_app hT s x ho hs hown hx hl hr h1 hb hbase fun v' w' h2 h3 => hK _ _ (h v' w' h2 h3)

/-- the same as one step of a region that draws its order -/
theorem step_app {P : Program} {t e : TypeId} {size bytes : Nat} (hT : ElemTy P t e size bytes) {w : World} {ops : Array Oper} {o : Oper} {a : Act} {K : Act → World → Prop} {Q : Exit → Act → World → Prop} {E : Prop} (hgd : o.guard = none) (s x : Operand)
    (ho : o.op = .call { callee := .builtin .append, args := #[s, x], argTypes := #[t, t] }) {base : Nat} {v : Value} {n : Nat} {xs : List Value} (hs : a.eval s = v) (hown : w.ownsRow base e size v n xs)
    {S : Nat → Prop} {A : Option Addr} {m c : Nat} {news : List Value} (hx : a.eval x = .slice A m c) (hl : news.length = m * size) (hr : RV S w A news) (h1 : ∀ u ∈ news, u.oneCell' = true) (hb : (n + m) * bytes ≤ 140737488355328) (hbase : base ≤ w.heap.size)
    (h : ∀ v' w', w'.ownsRow base e size v' (n + m) (xs ++ news) → Appd w w' v v' → K (a.put o.dst v') w') :
    if Region.wanted o (yielded ops a.tmps) = true then Oper.wp P o a w K Q else E := by
  have hw : Region.wanted o (yielded ops a.tmps) = true := by simp [Region.wanted, hgd]
  rw [if_pos hw]
  exact wp_app hT s x ho hs hown hx hl hr h1 hb hbase h

/-- the cells of a new block -/
theorem RV.new (w : World) (cs : List Value) (t : TypeId) : RV (fun k => k = w.heap.size) (w.alloc (.cells cs.toArray t)) (some ⟨w.heap.size, 0, none⟩) cs := fun j u hu => ⟨_, 0, rfl, rfl, new_cells w cs t j u hu⟩
theorem RV.new' {S : Nat → Prop} (w : World) (cs : List Value) (t : TypeId) (g : Nat) (hg : w.heap.size = g) (hS : S g) : RV S (w.alloc (.cells cs.toArray t)) (some ⟨g, 0, none⟩) cs := by
  subst hg; exact (RV.new w cs t).sub (fun k e => e ▸ hS)
theorem oneCell_ints (xs : List Int) : ∀ u ∈ ints xs, u.oneCell' = true := by
  intro u hu; obtain ⟨x, _, rfl⟩ := List.mem_map.1 hu; rfl

theorem own_some {w : World} {base : Nat} {e : TypeId} {size : Nat} {v : Value} {n : Nat} {vs : List Value} (h : w.ownsRow base e size v n vs) (hn : 0 < n) : ∃ g c, v = .slice (some ⟨g, 0, none⟩) n c ∧ base ≤ g ∧ n ≤ c ∧ c ≤ 9223372036854775807 := by
  rcases h.2 with ⟨rfl, rfl⟩ | ⟨g, cap, cur, rfl, hg, _, h1, h2, _⟩
  · omega
  · exact ⟨g, cap, rfl, hg, h1, by unfold maxLen at h2; omega⟩
theorem Ext.own {w w1 w2 : World} {row : Option Nat} (h : Ext w w1) (hg : w1.grownBy w2 row) (hr : ∀ k, row = some k → w.heap.size ≤ k) : Ext w w2 := Below.grown h hg h.size hr
theorem Ext.setCell' {w w1 : World} (h : Ext w w1) {p : Addr} (hp : w.heap.size ≤ p.block) (u : Value) : Ext w (w1.setCell p u) := Below.setCell h hp u
theorem own_keep {S : Nat → Prop} {w w' : World} {base : Nat} {e : TypeId} {size : Nat} {v : Value} {n : Nat} {vs : List Value} (h : w.ownsRow base e size v n vs) (k : Keep S w w') (hs : ∀ b, base ≤ b → S b) : w'.ownsRow base e size v n vs := by
  obtain ⟨h1, h2⟩ := h
  refine ⟨h1, ?_⟩
  rcases h2 with h2 | ⟨g, cap, cur, hv, hg, hh, r⟩
  · exact .inl h2
  · exact .inr ⟨g, cap, cur, hv, hg, (k.block g (lt_of_block hh) (hs g hg)).trans hh, r⟩
theorem own_ext {w w' : World} {base : Nat} {e : TypeId} {size : Nat} {v : Value} {n : Nat} {vs : List Value} (h : w.ownsRow base e size v n vs) (k : Ext w w') : w'.ownsRow base e size v n vs := own_keep (S := All) h (.ofExt k) (fun _ _ => trivial)
theorem Keep.setOwn {S : Nat → Prop} {w w1 : World} (h : Keep S w w1) {p : Addr} (hp : w.heap.size ≤ p.block) (u : Value) : Keep S w (w1.setCell p u) :=
  ⟨h.os, h.tape, h.output, by simpa [World.setCell] using h.size, fun k hk hs => (Below.heap_setCell w1 p u k (by omega)).trans (h.block k hk hs)⟩
theorem quietAdd {P : Program} {f : FuncId} {args : Array Value} {w : World} {a n : Nat} {v : Value} (h : Calls P f args (w.drewN (a + n)) fun e w' => e = .returned v ∧ ∃ m, w' = (w.drewN (a + n)).drewN m) :
    Calls P f args (w.drewN (a + n)) fun e w'' => e = .returned v ∧ ∃ m, w'' = w.drewN (a + m) :=
  h.mono fun _ _ ⟨he, m, hm⟩ => ⟨he, n + m, by rw [hm, World.drewN_drewN, Nat.add_assoc]⟩
theorem quietAddSame {P : Program} {f : FuncId} {args : Array Value} {w : World} {a n : Nat} {v : Value} (h : Calls P f args (w.drewN (a + n)) fun e w' => e = .returned v ∧ w.drewN (a + n) = w') :
    Calls P f args (w.drewN (a + n)) fun e w'' => e = .returned v ∧ ∃ m, w'' = w.drewN (a + m) :=
  h.mono fun _ _ ⟨he, hm⟩ => ⟨he, n, hm.symm⟩
theorem quietSame {P : Program} {f : FuncId} {args : Array Value} {w : World} {n : Nat} {v : Value} (h : Calls P f args (w.drewN n) fun e w' => e = .returned v ∧ w.drewN n = w') :
    Calls P f args (w.drewN n) fun e w'' => e = .returned v ∧ ∃ m, w'' = w.drewN m :=
  h.mono fun _ _ ⟨he, hm⟩ => ⟨he, n, hm.symm⟩
theorem own_lt {w : World} {base : Nat} {e : TypeId} {size : Nat} {v : Value} {n : Nat} {vs : List Value} (h : w.ownsRow base e size v n vs) : ∀ k, v.ownBlock = some k → k < w.heap.size := by
  rcases h.2 with ⟨rfl, rfl⟩ | ⟨g, cap, cur, rfl, hg, hh, _⟩
  · intro k hk; simp [Value.ownBlock] at hk
  · intro k hk; simp [Value.ownBlock] at hk; have := lt_of_block hh; omega
/-- what was made behind a row v lies off it -/
theorem Into.fresh {S : Nat → Prop} {wr : World} {base : Nat} {e : TypeId} {size : Nat} {v : Value} {n : Nat} {vs : List Value} (w1 : World) (h : wr.ownsRow base e size v n vs) (hS : ∀ k, wr.heap.size ≤ k → S k) : Into (fun b => wr.heap.size ≤ b) (Off v S) w1 w1 := fun k hs _ =>
  ⟨⟨hS k hs, fun e => by have := own_lt h k e.symm; omega⟩, rfl⟩
/-- xs with ys laid over it from place o on -/
def over {α : Type} (xs : List α) (o : Nat) (ys : List α) : List α := xs.take o ++ (ys ++ xs.drop (o + ys.length))
theorem over_length {α : Type} (xs : List α) (o : Nat) (ys : List α) (h : o + ys.length ≤ xs.length) : (over xs o ys).length = xs.length := by simp [over]; omega
theorem over_nil {α : Type} (xs : List α) (o : Nat) : over xs o [] = xs := by simp [over]
theorem over_map {α β : Type} (f : α → β) (xs : List α) (o : Nat) (ys : List α) : (over xs o ys).map f = over (xs.map f) o (ys.map f) := by
  simp only [over, List.map_append, List.map_take, List.map_drop, List.length_map]
theorem over_take {α : Type} (xs : List α) (o : Nat) (ys : List α) (n : Nat) (h : o + ys.length ≤ n) : (over xs o ys).take n = over (xs.take n) o ys := by
  unfold over
  rw [List.take_append, List.take_append, List.take_take, List.take_take, List.drop_take]
  by_cases hl : o ≤ xs.length
  · have h1 : (xs.take o).length = o := by rw [List.length_take]; omega
    have h2 : n - (xs.take o).length - ys.length = n - (o + ys.length) := by omega
    rw [h2, Nat.min_comm o n, List.take_of_length_le (l := ys) (by omega)]
  · have h1 : (xs.take o).length = xs.length := by rw [List.length_take]; omega
    have h3 : xs.drop (o + ys.length) = [] := List.drop_eq_nil_of_le (by omega)
    rw [h3, Nat.min_comm o n, List.take_of_length_le (l := ys) (by omega)]
    simp

theorem over_get {α : Type} (xs : List α) (o : Nat) (ys : List α) (h : o + ys.length ≤ xs.length) (i : Nat) : (over xs o ys)[i]? = if i < o then xs[i]? else if i < o + ys.length then ys[i - o]? else xs[i]? := by
  unfold over
  have h1 : (xs.take o).length = o := by rw [List.length_take]; omega
  by_cases hi : i < o
  · rw [if_pos hi, List.getElem?_append_left (by omega), List.getElem?_take, if_pos hi]
  · rw [if_neg hi, List.getElem?_append_right (by omega), h1]
    by_cases hj : i < o + ys.length
    · rw [if_pos hj, List.getElem?_append_left (by omega)]
    · rw [if_neg hj, List.getElem?_append_right (by omega), List.getElem?_drop]
      congr 1; omega
theorem over_step {α : Type} (xs : List α) (o : Nat) (ys : List α) (h : o + ys.length ≤ xs.length) {j : Nat} (hj : j < ys.length) : over xs o (ys.take (j + 1)) = (over xs o (ys.take j)).set (o + j) ys[j] := by
  have l1 : (ys.take (j + 1)).length = j + 1 := by rw [List.length_take]; omega
  have l2 : (ys.take j).length = j := by rw [List.length_take]; omega
  apply List.ext_getElem?
  intro i
  rw [over_get _ _ _ (by omega), List.getElem?_set, over_length _ _ _ (by omega), over_get _ _ _ (by omega), l1, l2, List.getElem?_take, List.getElem?_take]
  by_cases h1 : i < o
  · rw [if_pos h1, if_neg (by omega), if_pos h1]
  · rw [if_neg h1]
    by_cases h2 : i < o + (j + 1)
    · rw [if_pos h2, if_pos (by omega)]
      by_cases h3 : i = o + j
      · rw [if_pos (by omega), if_pos (by omega)]
        rw [show i - o = j by omega, List.getElem?_eq_getElem hj]
      · rw [if_neg (by omega), if_neg h1, if_pos (by omega), if_pos (by omega)]
    · rw [if_neg h2, if_neg (by omega), if_neg h1, if_neg (by omega)]
/-- copy into a row of the call's own, from place off on -/
theorem wpList_copyRow {P : Program} {t e : TypeId} {bytes : Nat} (hT : ElemTy P t e 1 bytes) {w : World} {ops : Array Oper} {rest : List Oper} {o : Oper} {a : Act} {Q : Exit → Act → World → Prop} (hgd : o.guard = none) (d s : Operand)
    (ho : o.op = .call { callee := .builtin .copy, args := #[d, s], argTypes := #[t, t] }) {base g cap n off : Nat} {vs cs : List Value} (hown : w.ownsRow base e 1 (.slice (some ⟨g, 0, none⟩) n cap) n vs)
    {S : Nat → Prop} {dp sp : Option Addr} {dLen dCap sLen sCap : Nat} (hd : a.eval d = .slice dp dLen dCap) (hs : a.eval s = .slice sp sLen sCap) (hl1 : cs.length = sLen) (hl2 : cs.length = dLen)
    (hdp : 0 < dLen → dp = some ⟨g, off, none⟩) (hr : RV S w sp cs) (hfit : off + cs.length ≤ n) (h1 : ∀ v ∈ cs, v.oneCell' = true)
    (h : ∀ w', w'.ownsRow base e 1 (.slice (some ⟨g, 0, none⟩) n cap) n (over vs off cs) → Keep (fun k => k ≠ g) w w' → w'.heap.size = w.heap.size → wpList P ops Q rest (a.put o.dst (goInt cs.length)) w') :
    wpList P ops Q (o :: rest) a w := by
  obtain ⟨i, z, hi, hz, hsz, _, _⟩ := hT.hi
  have hsz' : (P.info? e).map (·.size) = some 1 := by rw [hi]; simp [hsz]
  by_cases h0 : cs.length = 0
  · obtain rfl : cs = [] := List.eq_nil_of_length_eq_zero h0
    refine wpList_copy_nothing hgd d s t t ho e hT.ht hsz' dp sp dLen dCap sLen sCap hd hs (by rw [← hl1, ← hl2]; rfl) ?_
    exact h w (by rw [over_nil]; exact hown) (Keep.refl _ _) rfl
  · obtain ⟨b, o', hsp, _, _⟩ := hr 0 _ (List.getElem?_eq_getElem (by omega))
    subst hsp
    have hdp' := hdp (by omega)
    subst hdp'
    obtain ⟨hvl, hv⟩ := hown
    rcases hv with ⟨hv, _⟩ | ⟨g', cap', cur, hv, hg, hh, hn, hm, hcs, htk⟩
    · cases hv
    · injection hv with hA _ hcap
      injection hA with hA; injection hA with hA
      subst hA; subst hcap
      refine wpList_copy_own hgd d s t t ho e hT.ht hsz' g off dLen dCap ⟨b, o', none⟩ sLen sCap hd hs cur e hh cs (by rw [← hl1, ← hl2]; exact (Nat.min_self _).symm) (fun j v hv => ?_) (by omega) h1 ?_
      · obtain ⟨b', o'', e', _, hc⟩ := hr j v hv
        injection e' with e'; injection e' with e1 e2; subst e1; subst e2; rw [add_mk]; exact hc
      · have hlen : (over cur.toList off cs).length = cur.size := by rw [over_length _ _ _ (by simp; omega)]; simp
        refine h _ ⟨?_, .inr ⟨g, cap, (over cur.toList off cs).toArray, rfl, hg, setRow_heap w g _ _ e _ hh, hn, hm, by simpa using hlen.trans hcs, ?_⟩⟩ ⟨rfl, rfl, rfl, by simp [World.setRow], fun k _ hk => setRow_other w g k _ (by omega)⟩ (by simp [World.setRow])
        · rw [over_length _ _ _ (by omega)]; exact hvl
        · rw [← htk, ← over_take _ _ _ _ (by omega)]

theorem stillOf {P : Program} {f : FuncId} {args : Array Value} {w : World} {v : Value} (h : Calls P f args w fun e w' => e = .returned v ∧ w = w') : Calls P f args w fun e w' => e = .returned v ∧ w' = w :=
  h.mono fun _ _ ⟨he, hw⟩ => ⟨he, hw.symm⟩
theorem Reps.set {α : Type} {rep : List Value → α → Prop} {sz : Nat} {vs : List Value} {xs : List α} (h : Reps rep sz vs xs) {j i : Nat} (hi : i < sz) {u : Value} {x : α} (hj : j < xs.length) (hx : ∀ cs, rep cs xs[j] → cs.length = sz → rep (cs.set i u) x) : Reps rep sz (vs.set (j * sz + i) u) (xs.set j x) := by
  induction xs generalizing vs j with
  | nil => simp at hj
  | cons y xs ih =>
    obtain ⟨cs, r, rfl, hl, h1, hr⟩ := h
    cases j with
    | zero => exact ⟨cs.set i u, r, by rw [Nat.zero_mul, Nat.zero_add, List.set_append_left _ _ (by omega)], by simp [hl], hx cs h1 hl, hr⟩
    | succ j =>
      refine ⟨cs, r.set (j * sz + i) u, ?_, hl, h1, ih hr (by simpa using hj) (by simpa using hx)⟩
      rw [List.set_append_right _ _ (by rw [hl, Nat.succ_mul]; omega)]
      congr 2; rw [hl, Nat.succ_mul]; omega
theorem Reps.all {α : Type} {rep : List Value → α → Prop} {sz : Nat} {vs : List Value} {xs : List α} (h : Reps rep sz vs xs) {Q : Value → Prop} (hq : ∀ cs x, rep cs x → ∀ u ∈ cs, Q u) : ∀ u ∈ vs, Q u := by
  induction xs generalizing vs with
  | nil => cases h; simp
  | cons y xs ih =>
    obtain ⟨cs, r, rfl, hl, h1, hr⟩ := h
    intro u hu
    rcases List.mem_append.1 hu with h2 | h2
    · exact hq cs y h1 u h2
    · exact ih hr u h2
theorem heap_new (w : World) (o : Obj) : (w.alloc o).heap[w.heap.size]? = some o := by show (w.heap.push o)[w.heap.size]? = _; simp
theorem heap2 (w : World) (o1 o2 : Obj) : ((w.alloc o1).alloc o2).heap[w.heap.size]? = some o1 ∧ ((w.alloc o1).alloc o2).heap[w.heap.size + 1]? = some o2 := by
  show ((w.heap.push o1).push o2)[w.heap.size]? = some o1 ∧ ((w.heap.push o1).push o2)[w.heap.size + 1]? = some o2
  simp only [Array.getElem?_push, Array.size_push]
  refine ⟨?_, ?_⟩
  · rw [if_neg (by omega), if_pos trivial]
  · rw [if_pos trivial]
theorem heap3 (w : World) (o1 o2 o3 : Obj) : (((w.alloc o1).alloc o2).alloc o3).heap[w.heap.size]? = some o1 ∧ (((w.alloc o1).alloc o2).alloc o3).heap[w.heap.size + 1]? = some o2 ∧ (((w.alloc o1).alloc o2).alloc o3).heap[w.heap.size + 1 + 1]? = some o3 := by
  show (((w.heap.push o1).push o2).push o3)[w.heap.size]? = some o1 ∧ (((w.heap.push o1).push o2).push o3)[w.heap.size + 1]? = some o2 ∧ (((w.heap.push o1).push o2).push o3)[w.heap.size + 1 + 1]? = some o3
  simp only [Array.getElem?_push, Array.size_push]
  refine ⟨?_, ?_, ?_⟩
  · rw [if_neg (by omega), if_neg (by omega), if_pos trivial]
  · rw [if_neg (by omega), if_pos trivial]
  · rw [if_pos trivial]
theorem heap4 (w : World) (o1 o2 o3 o4 : Obj) : ((((w.alloc o1).alloc o2).alloc o3).alloc o4).heap[w.heap.size]? = some o1 ∧ ((((w.alloc o1).alloc o2).alloc o3).alloc o4).heap[w.heap.size + 1]? = some o2 ∧
    ((((w.alloc o1).alloc o2).alloc o3).alloc o4).heap[w.heap.size + 1 + 1]? = some o3 ∧ ((((w.alloc o1).alloc o2).alloc o3).alloc o4).heap[w.heap.size + 1 + 1 + 1]? = some o4 := by
  show ((((w.heap.push o1).push o2).push o3).push o4)[w.heap.size]? = some o1 ∧ ((((w.heap.push o1).push o2).push o3).push o4)[w.heap.size + 1]? = some o2 ∧ ((((w.heap.push o1).push o2).push o3).push o4)[w.heap.size + 1 + 1]? = some o3 ∧ ((((w.heap.push o1).push o2).push o3).push o4)[w.heap.size + 1 + 1 + 1]? = some o4
  simp only [Array.getElem?_push, Array.size_push]
  refine ⟨?_, ?_, ?_, ?_⟩
  · rw [if_neg (by omega), if_neg (by omega), if_neg (by omega), if_pos trivial]
  · rw [if_neg (by omega), if_neg (by omega), if_pos trivial]
  · rw [if_neg (by omega), if_pos trivial]
  · rw [if_pos trivial]
theorem cell_of_heap {w : World} {g j : Nat} {cs : Array Value} {t : TypeId} {fz : Nat × Nat} {u : Value} (h : w.heap[g]? = some (.cells cs t fz)) (hu : cs[j]? = some u) : w.cell? ⟨g, j, none⟩ = some u := by
  simp only [World.cell?, h]; simpa using hu
theorem cell_a1 {w : World} {p : Addr} {u : Value} (h : w.cell? p = some u) (o1 : Obj) : (w.alloc o1).cell? p = some u := ((Ext.refl' w).alloc' o1).cell h
theorem cell_a2 {w : World} {p : Addr} {u : Value} (h : w.cell? p = some u) (o1 o2 : Obj) : ((w.alloc o1).alloc o2).cell? p = some u := cell_a1 (cell_a1 h o1) o2
theorem cell_a3 {w : World} {p : Addr} {u : Value} (h : w.cell? p = some u) (o1 o2 o3 : Obj) : (((w.alloc o1).alloc o2).alloc o3).cell? p = some u := cell_a1 (cell_a2 h o1 o2) o3
theorem cell_a4 {w : World} {p : Addr} {u : Value} (h : w.cell? p = some u) (o1 o2 o3 o4 : Obj) : ((((w.alloc o1).alloc o2).alloc o3).alloc o4).cell? p = some u := cell_a1 (cell_a3 h o1 o2 o3) o4
theorem Ext.le {w w' : World} (h : Ext w w') : w.heap.size ≤ w'.heap.size := h.size
theorem bcellE {W w1 : World} (hb : Ext W w1) : (∀ b o, b < W.heap.size → w1.cell? ⟨b, o, none⟩ = W.cell? ⟨b, o, none⟩) ∧ (∀ b o, b < W.heap.size → w1.frozen? ⟨b, o, none⟩ = W.frozen? ⟨b, o, none⟩) :=
  ⟨fun b o h => Below.cell hb (p := ⟨b, o, none⟩) h, fun b o h => Below.frozen hb (p := ⟨b, o, none⟩) h⟩
theorem own_set {w : World} {base : Nat} {e t : TypeId} {size : Nat} {v : Value} {n g : Nat} {vs : List Value} {cs : Array Value} {fz : Nat × Nat} (h : w.ownsRow base e size v n vs) (hg : w.heap[g]? = some (.cells cs t fz)) (hne : e ≠ t) (j : Nat) (u : Value) : (w.setCell ⟨g, j, none⟩ u).ownsRow base e size v n vs := by
  obtain ⟨h1, h2⟩ := h
  refine ⟨h1, ?_⟩
  rcases h2 with h2 | ⟨g', cap, cur, hv, hb, hh, r⟩
  · exact .inl h2
  · have : g' ≠ g := by
      rintro rfl
      rw [hg] at hh
      injection hh with hh
      injection hh with _ ht _
      exact hne ht.symm
    exact .inr ⟨g', cap, cur, hv, hb, (Below.heap_setCell w ⟨g, j, none⟩ u g' this).trans hh, r⟩
theorem own_ne {w : World} {base : Nat} {e t : TypeId} {size : Nat} {v : Value} {n g : Nat} {vs : List Value} {cs : Array Value} {fz : Nat × Nat} (h : w.ownsRow base e size v n vs) (hg : w.heap[g]? = some (.cells cs t fz)) (hne : e ≠ t) : v.ownBlock ≠ some g := by
  obtain ⟨h1, h2⟩ := h
  rcases h2 with ⟨rfl, _⟩ | ⟨g', cap, cur, rfl, hb, hh, r⟩
  · simp [Value.ownBlock]
  · intro e1
    have : g' = g := by simpa [Value.ownBlock] using e1
    subst this
    rw [hg] at hh
    injection hh with hh
    injection hh with _ ht _
    exact hne ht.symm
theorem set3 {w : World} {g : Nat} {a b c : Value} {t : TypeId} {fz : Nat × Nat} (h : w.heap[g]? = some (.cells #[a, b, c] t fz)) (x y z : Value) : (((w.setCell ⟨g, 0, none⟩ x).setCell ⟨g, 1, none⟩ y).setCell ⟨g, 2, none⟩ z).heap[g]? = some (.cells #[x, y, z] t fz) := by
  simp [World.setCell, Array.getElem?_modify, h]
theorem own_set3 {w : World} {base : Nat} {e t : TypeId} {size : Nat} {v : Value} {n g : Nat} {vs : List Value} {a b c : Value} {fz : Nat × Nat} (h : w.ownsRow base e size v n vs) (hg : w.heap[g]? = some (.cells #[a, b, c] t fz)) (hne : e ≠ t) (x y z : Value) : (((w.setCell ⟨g, 0, none⟩ x).setCell ⟨g, 1, none⟩ y).setCell ⟨g, 2, none⟩ z).ownsRow base e size v n vs := by
  refine own_set (own_set (own_set h hg hne 0 x) (cs := #[x, b, c]) (fz := fz) ?_ hne 1 y) (cs := #[x, y, c]) (fz := fz) ?_ hne 2 z
  · simp [World.setCell, Array.getElem?_modify, hg]
  · simp [World.setCell, Array.getElem?_modify, hg]
theorem ext_set3 {W w : World} (h : Ext W w) {g : Nat} (hg : W.heap.size ≤ g) (x y z : Value) : Ext W (((w.setCell ⟨g, 0, none⟩ x).setCell ⟨g, 1, none⟩ y).setCell ⟨g, 2, none⟩ z) :=
  ((h.setCell' (p := ⟨g, 0, none⟩) hg x).setCell' (p := ⟨g, 1, none⟩) hg y).setCell' (p := ⟨g, 2, none⟩) hg z
theorem Ext.lt_ {w w' : World} (h : Ext w w') : ∀ b, b < w.heap.size → b < w'.heap.size := fun _ hb => Nat.lt_of_lt_of_le hb h.size
theorem own_heap {w : World} {base : Nat} {e : TypeId} {size : Nat} {n g c : Nat} {vs : List Value} (h : w.ownsRow base e size (.slice (some ⟨g, 0, none⟩) n c) n vs) : ∃ cur, w.heap[g]? = some (.cells cur e (0, 0)) := by
  rcases h.2 with ⟨h1, _⟩ | ⟨g', cap, cur, hv, _, hh, _⟩
  · cases h1
  · injection hv with hA
    injection hA with hA
    injection hA with hA
    subst hA
    exact ⟨cur, hh⟩
theorem frozen_of_heap {w : World} {g : Nat} {cs : Array Value} {t : TypeId} (h : w.heap[g]? = some (.cells cs t (0, 0))) (j : Nat) : w.frozen? ⟨g, j, none⟩ = false := by simp [World.frozen?, h]
theorem own_base {w : World} {base base' : Nat} {e : TypeId} {size : Nat} {v : Value} {n : Nat} {vs : List Value} (h : w.ownsRow base e size v n vs) (hb : base' ≤ base) : w.ownsRow base' e size v n vs := by
  obtain ⟨h1, h2⟩ := h
  refine ⟨h1, ?_⟩
  rcases h2 with h2 | ⟨g, cap, cur, hv, hg, r⟩
  · exact .inl h2
  · exact .inr ⟨g, cap, cur, hv, by omega, r⟩
theorem Appd.blk {w w1 : World} {v v' : Value} (h : Appd w w1 v v') {g : Nat} {o : Obj} (hg : w.heap[g]? = some o) (hne : v.ownBlock ≠ some g) : w1.heap[g]? = some o := (h.g.block g (lt_of_block hg) (fun e => hne e.symm)).trans hg
theorem heap_keep {w : World} {g : Nat} {o : Obj} (h : w.heap[g]? = some o) (o' : Obj) : (w.alloc o').heap[g]? = some o := (Below.heap_alloc w o' g (lt_of_block h)).trans h
theorem set3at2 {w : World} {g : Nat} {a b c : Value} {t : TypeId} {fz : Nat × Nat} (h : w.heap[g]? = some (.cells #[a, b, c] t fz)) (z : Value) : (w.setCell ⟨g, 2, none⟩ z).heap[g]? = some (.cells #[a, b, z] t fz) := by
  simp [World.setCell, Array.getElem?_modify, h]
theorem heap_far {w : World} {g g' j : Nat} {o : Obj} (h : w.heap[g]? = some o) (hne : g ≠ g') (u : Value) : (w.setCell ⟨g', j, none⟩ u).heap[g]? = some o := (Below.heap_setCell w ⟨g', j, none⟩ u g hne).trans h
theorem own_app {w w1 : World} {base base' : Nat} {e e' : TypeId} {size size' : Nat} {v v' x : Value} {n n' : Nat} {vs us : List Value} (h : w.ownsRow base e size x n vs) (hv : w.ownsRow base' e' size' v n' us) (hne : e' ≠ e) (ha : Appd w w1 v v') : w1.ownsRow base e size x n vs := by
  obtain ⟨h1, h2⟩ := h
  refine ⟨h1, ?_⟩
  rcases h2 with h2 | ⟨g, cap, cur, hx, hg, hh, r⟩
  · exact .inl h2
  · exact .inr ⟨g, cap, cur, hx, hg, ha.blk hh (own_ne hv hh hne), r⟩
theorem Appd.undrew {w w1 : World} {v v' : Value} (h : Appd w.drew w1 v v') : Appd w w1 v v' := ⟨⟨h.g.os, h.g.tape, h.g.output, h.g.size, h.g.block⟩, h.at_⟩
theorem Keep.app {S : Nat → Prop} {W w w2 : World} {v v' : Value} (h : Keep S W w) (ha : Appd w w2 v v') (hv : ∀ k, v.ownBlock = some k → W.heap.size ≤ k) : Keep S W w2 :=
  ⟨ha.g.os.trans h.os, ha.g.tape.trans h.tape, ha.g.output.trans h.output, Nat.le_trans h.size ha.g.size, fun k hk hs => (ha.g.block k (Nat.lt_of_lt_of_le hk h.size) (fun e => by have := hv k e.symm; omega)).trans (h.block k hk hs)⟩
theorem Keep.alloc {S : Nat → Prop} {W w : World} (h : Keep S W w) (o : Obj) : Keep S W (w.alloc o) := h.trans (.ofExt ((Ext.refl' w).alloc' o))
theorem Keep.drew {S : Nat → Prop} {W w : World} (h : Keep S W w) : Keep S W w.drew := h.drewN 1
theorem Keep.le {S : Nat → Prop} {W w : World} (h : Keep S W w) : W.heap.size ≤ w.heap.size := h.size
theorem Keep.set {W w : World} {g : Nat} (h : Keep (fun k => k ≠ g) W w) (j : Nat) (u : Value) : Keep (fun k => k ≠ g) W (w.setCell ⟨g, j, none⟩ u) :=
  ⟨h.os, h.tape, h.output, by simpa [World.setCell] using h.size, fun k hk hs => (Below.heap_setCell w ⟨g, j, none⟩ u k hs).trans (h.block k hk hs)⟩
theorem own_at {w w' : World} {base : Nat} {e : TypeId} {size n g c : Nat} {vs : List Value} (h : w.ownsRow base e size (.slice (some ⟨g, 0, none⟩) n c) n vs) (hb : w'.heap[g]? = w.heap[g]?) : w'.ownsRow base e size (.slice (some ⟨g, 0, none⟩) n c) n vs := by
  obtain ⟨h1, h2⟩ := h
  refine ⟨h1, ?_⟩
  rcases h2 with h2 | ⟨g', cap, cur, hv, hg, hh, r⟩
  · exact .inl h2
  · have e : g' = g := by injection hv with hA; injection hA with hA; injection hA with hA; exact hA.symm
    subst e
    exact .inr ⟨g', cap, cur, hv, hg, hb.trans hh, r⟩
theorem Appd.extNil {w w1 : World} {v' : Value} (h : Appd w w1 (.slice none 0 0) v') : Ext w w1 := (Ext.refl' w).app (Ext.refl' w) h (by simp [Value.ownBlock])
theorem Ext.drew' {a b : World} (h : Ext a b) : Ext a b.drew := h.drewN' 1
theorem ret_slice2 {A : Option Addr} {n n' c c' : Nat} (h : n = n') (k : c = c') : Ending.returned (.slice A n c) = .returned (.slice A n' c') := by rw [h, k]
theorem ret_slice {A : Option Addr} {n n' c : Nat} (h : n = n') : Ending.returned (.slice A n c) = .returned (.slice A n' c) := by rw [h]
theorem ret_int {k : IntKind} {a b : Int} (h : a = b) : Ending.returned (.int k a) = .returned (.int k b) := by rw [h]
theorem ret_bool {a b : Bool} (h : a = b) : Ending.returned (.bool a) = .returned (.bool b) := by rw [h]

theorem take_eq_step {α : Type} {xs ys : List α} {k : Nat} (hx : k < xs.length) (hy : k < ys.length) (h : xs.take k = ys.take k) (e : xs[k] = ys[k]) : xs.take (k + 1) = ys.take (k + 1) := by
  rw [List.take_succ_eq_append_getElem hx, List.take_succ_eq_append_getElem hy, h, e]
theorem eq_of_take {α : Type} {xs ys : List α} {k : Nat} (hl : xs.length = ys.length) (hk : xs.length ≤ k) (h : xs.take k = ys.take k) : xs = ys := by
  rw [List.take_of_length_le hk, List.take_of_length_le (by omega)] at h; exact h
end Go.Proofs.Ytmjmdncdmmcmaaa
