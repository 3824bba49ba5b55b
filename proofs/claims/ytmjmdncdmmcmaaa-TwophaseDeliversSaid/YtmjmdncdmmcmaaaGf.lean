/- The sanity check of chapter 18. No condition. -/
import Derived.Test.YtmjmdncdmmcmaaaGd
import Derived.Test.YtmjmdncdmmcmaaaGc
import Derived.MapKept
import Derived.Carry
import Derived.Test.YtmjmdncdmmcmaaaGe
namespace Go.Proofs.Ytmjmdncdmmcmaaa
open Go.RowKit
set_option linter.unusedVariables false
set_option linter.unusedSimpArgs false

/-- the first n pieces become data -/
theorem St.freezeN {w0 w : World} {M : Nat → Prop} {cs : List (Chunk w0 M)} (n : Nat) (h : St w0 M cs w) : St w0 M (froz (fun k => ∃ c ∈ cs.take n, c.own k) w :: cs.drop n) w := by
  have hcs : cs = cs.take n ++ cs.drop n := (List.take_append_drop n cs).symm
  have hap := h.apart
  rw [hcs, List.pairwise_append] at hap
  refine ⟨h.keep, ?_, ?_, List.pairwise_cons.2 ⟨?_, hap.2.1⟩⟩
  · intro c hc
    rcases List.mem_cons.1 hc with rfl | hc
    · rintro k ⟨c, hc, hk⟩
      exact ⟨c.lt (h.all c (List.mem_of_mem_take hc)) hk, rfl⟩
    · exact h.all c (List.mem_of_mem_drop hc)
  · intro c hc k hk
    rcases List.mem_cons.1 hc with rfl | hc
    · obtain ⟨c, hc, hk⟩ := hk
      exact h.new c (List.mem_of_mem_take hc) k hk
    · exact h.new c (List.mem_of_mem_drop hc) k hk
  · rintro d hd k ⟨c, hc, hk⟩
    exact hap.2.2 c hc d hd k hk

theorem RV.ofBlkT {T : Nat → Prop} {w : World} {t : TypeId} {g : Nat} {us : List Value} (h : w.heap[g]? = some (.cells us.toArray t (0, 0))) (ht : T g) : RV T w (some ⟨g, 0, none⟩) us := fun j u hu => ⟨g, 0, rfl, ht, by rw [Nat.zero_add]; exact cell_of_heap h (by simpa using hu)⟩

theorem St.blkRV {w0 w : World} {M : Nat → Prop} {cs : List (Chunk w0 M)} {f : Chunk w0 M → List (Chunk w0 M)} {g : Nat} {vs : List Value} {t : TypeId} (h : St w0 M cs w) [hp : PickB g cs vs t f] : RV All w (some ⟨g, 0, none⟩) vs := RV.ofBlk ((hp.eq ▸ h : St w0 M (f (blk g vs t)) w).at_ hp.gap : w.heap[g]? = _)
section
variable {S T : Nat → Prop} {w : World} {A1 A2 A3 X : Option Addr} {c1 c2 c3 c : Nat}
end
end Go.Proofs.Ytmjmdncdmmcmaaa

/- Maps keyed by points: look-up, update, as operations of a walk. No condition. -/
namespace Go.Proofs.Ytmjmdncdmmcmaaa
open Go.RowKit
set_option linter.unusedVariables false
set_option linter.unusedSectionVars false

/-- a point as a value -/
abbrev ptv (k : Int × Int) : Value := .agg #[.int .i64 k.1, .int .i64 k.2]
/-- entries as a list of points and values -/
def EntL (es : List MapEntry) (L : List ((Int × Int) × Value)) : Prop := es.map (fun e => (e.key, e.val)) = L.map (fun x => (ptv x.1, x.2))
/-- block g is a map, m says what it holds -/
def MapAt (w : World) (g : Nat) (m : Int × Int → Option Value) : Prop := ∃ (es : Array MapEntry) (clock : Nat) (L : List ((Int × Int) × Value)), w.heap[g]? = some (.map es clock) ∧ EntL es.toList L ∧ ∀ k, L.lookup k = m k
def mpc {w0 : World} {M : Nat → Prop} (g : Nat) (m : Int × Int → Option Value) : Chunk w0 M :=
  ⟨fun k => k = g, fun w => MapAt w g m, fun {w w'} h hk => by obtain ⟨es, c, L, h1, h2, h3⟩ := h; exact ⟨es, c, L, (hk g (.inl rfl)).trans h1, h2, h3⟩, fun {w k} h e => by obtain ⟨es, c, L, h1, _⟩ := h; subst e; exact lt_of_block h1⟩
class PickM {w0 : World} {M : Nat → Prop} (g : Nat) (cs : List (Chunk w0 M)) (m : outParam (Int × Int → Option Value)) (f : outParam (Chunk w0 M → List (Chunk w0 M))) : Prop where
  eq : cs = f (mpc g m)
  gap : Gap f
instance {w0 : World} {M : Nat → Prop} (g : Nat) (m : Int × Int → Option Value) (r : List (Chunk w0 M)) : PickM g (mpc g m :: r) m (fun c => c :: r) := ⟨rfl, .head r⟩
instance (priority := low) {w0 : World} {M : Nat → Prop} (g : Nat) (m : Int × Int → Option Value) (d : Chunk w0 M) (r : List (Chunk w0 M)) (f : Chunk w0 M → List (Chunk w0 M)) [h : PickM g r m f] : PickM g (d :: r) m (fun c => d :: f c) := ⟨by rw [h.eq], .tail d h.gap⟩
section
variable {ops : Array Oper} {Q : Exit → Act → World → Prop} {a : Act} {w w0 : World} {M : Nat → Prop} {cs fx : List (Chunk w0 M)} {f : Chunk w0 M → List (Chunk w0 M)} {rest : List Oper} {d : Option Tmp} {tt t e : TypeId} {pos : String} {af : Array Edge} {gd : Option (Nat × Bool)} {x y z : Operand} {md : Region.Mode} {fuel : Nat} {listed : Array Bool} {late : List Nat} {g : Nat} {i j : Int} {m : Int × Int → Option Value} {v zv : Value}
theorem oU (k : wpList Try.prog ops Q (⟨d, .mapUpdate t x y z, tt, pos, af, gd⟩ :: rest) a w) : wpList Try.prog ops Q (⟨d, .mapUpdate t x y z, tt, pos, af, gd⟩ :: rest) a w := k
end
end Go.Proofs.Ytmjmdncdmmcmaaa

/- Clocks: the clock of a point is the least consistent cut that contains it. No condition. -/
namespace Go.Proofs.Ytmjmdncdmmcmaaa
set_option linter.unusedVariables false
set_option linter.unusedSimpArgs false

/-- c is the clock of event k of process q -/
structure IsClk (p : Pat) (q : Nat) (k : Int) (c : List Int) : Prop where
  v : validB p.len c = true
  s : consB p.arcs c = true
  e : nth c q = k
  l : ∀ z, validB p.len z = true → consB p.arcs z = true → k ≤ nth z q → Le p.len.length c z
theorem le_antisymm {n : Nat} {x y : List Int} (hx : x.length = n) (hy : y.length = n) (h1 : Le n x y) (h2 : Le n y x) : x = y := by
  apply List.ext_getElem (by omega)
  intro i hi hj
  have a := h1 i (by omega)
  have b := h2 i (by omega)
  rw [nth_eq hi, nth_eq hj] at a b
  omega
section
variable {p : Pat} {rk : Nat → Int → Nat}
theorem rank_mono (hr : Ranked p.len.length p.len p.arcs rk) {q : Nat} (hq : q < p.len.length) : ∀ (d : Nat) (i : Int), 0 ≤ i → i + d ≤ nth p.len q → rk q i ≤ rk q (i + d)
  | 0, i, _, _ => by simp
  | d + 1, i, h0, h => by
    have h1 := rank_mono hr hq d i h0 (by omega)
    have h2 := hr.1 q hq (i + d) (by omega) (by omega)
    have e : i + (d : Int) + 1 = i + ((d + 1 : Nat) : Int) := by omega
    rw [e] at h2; omega
/-- where the message came from that an event received -/
def srcF (az : List Arc) (k : Int × Int) : Option (Nat × Int) := (az.reverse.find? (fun a => decide (a.at_ ≠ 0) && decide (((a.to : Int), a.at_) = k))).map fun a => (a.fr, a.ix)
end
end Go.Proofs.Ytmjmdncdmmcmaaa

/- causal: fits, raise, newHistory. Conditions: the pattern is good and lies in memory, the points are points of it. -/
namespace Go.Proofs.Ytmjmdncdmmcmaaa
open Go.RowKit
set_option linter.unusedVariables false
set_option linter.unusedSimpArgs false

/-- a point of a pattern -/
abbrev PtOk (p : Pat) (a : Nat × Int) : Prop := a.1 < p.len.length ∧ 0 ≤ a.2 ∧ a.2 ≤ nth p.len a.1

end Go.Proofs.Ytmjmdncdmmcmaaa

/- causal.newHistory: a history with no clocks yet. Conditions: the messages lie in memory. -/
namespace Go.Proofs.Ytmjmdncdmmcmaaa
open Go.RowKit
set_option linter.unusedVariables false
set_option linter.unusedSimpArgs false

end Go.Proofs.Ytmjmdncdmmcmaaa

/- causal: the state of a history during a call; copy; raise. Conditions: as said at each. -/
namespace Go.Proofs.Ytmjmdncdmmcmaaa
open Go.RowKit
set_option linter.unusedVariables false
set_option linter.unusedSimpArgs false
set_option linter.unusedSectionVars false

section
variable {w0 w w' : World} {M : Nat → Prop} {cs : List (Chunk w0 M)} {f1 f2 : Chunk w0 M → List (Chunk w0 M)} {gs gc : Nat} {sm cm cm' : Int × Int → Option Value}
end
section
variable {P : Program} {ops : Array Oper} {Q : Exit → Act → World → Prop} {a : Act} {w w0 : World} {M : Nat → Prop} {cs ds : List (Chunk w0 M)} {f : Chunk w0 M → List (Chunk w0 M)} {rest : List Oper} {d : Option Tmp} {tt ty t e : TypeId} {pos : String} {af : Array Edge} {x y : Operand}
end
end Go.Proofs.Ytmjmdncdmmcmaaa

/- causal: the clock of a point, by recursion with a memory of clocks. Conditions: the pattern is good, the history lies in memory. -/
namespace Go.Proofs.Ytmjmdncdmmcmaaa
open Go.RowKit
set_option linter.unusedVariables false
set_option linter.unusedSimpArgs false

theorem srcF_none {az : List Arc} {q : Nat} {k : Int} (h : srcF az ((q : Int), k) = none) (hk : k ≠ 0) : ∀ a ∈ az, a.to = q → a.at_ ≠ k := by
  intro a ha e1 e2
  unfold srcF at h
  rw [Option.map_eq_none_iff, List.find?_eq_none] at h
  have := h a (by simpa using ha)
  apply this
  simp [e1, e2, hk]
theorem srcF_some {az : List Arc} {q : Nat} {k : Int} {s : Nat × Int} (h : srcF az ((q : Int), k) = some s) : ∃ a ∈ az, a.to = q ∧ a.at_ = k ∧ k ≠ 0 ∧ s = (a.fr, a.ix) := by
  unfold srcF at h
  rw [Option.map_eq_some_iff] at h
  obtain ⟨a, ha, hs⟩ := h
  have hm := List.mem_of_find?_eq_some ha
  have hp := List.find?_some ha
  simp only [Bool.and_eq_true, decide_eq_true_eq, Prod.mk.injEq] at hp
  exact ⟨a, by simpa using hm, by omega, hp.2.2, by rw [← hp.2.2]; exact hp.1, hs.symm⟩
end Go.Proofs.Ytmjmdncdmmcmaaa

/- causal.Clock, causal.Past. Conditions: the pattern is good and lies in memory, the points are points of it. -/
namespace Go.Proofs.Ytmjmdncdmmcmaaa
open Go.RowKit
set_option linter.unusedVariables false
set_option linter.unusedSimpArgs false
set_option linter.unusedSectionVars false

/-- c is the least consistent cut that contains the points of l -/
structure IsPast (p : Pat) (l : List (Nat × Int)) (c : List Int) : Prop where
  v : validB p.len c = true
  s : consB p.arcs c = true
  h : ∀ a ∈ l, a.2 ≤ nth c a.1
  l : ∀ z, validB p.len z = true → consB p.arcs z = true → (∀ a ∈ l, a.2 ≤ nth z a.1) → Le p.len.length c z
section
variable {w0 w w' : World} {M : Nat → Prop} {cs : List (Chunk w0 M)} {f f1 f2 f3 : Chunk w0 M → List (Chunk w0 M)} {gh gs gc n c1 : Nat} {A1 : Option Addr} {sm cm : Int × Int → Option Value}
end
end Go.Proofs.Ytmjmdncdmmcmaaa

