/- Slices of a slice: from a place on, up to a place. No condition. -/
import Derived.Test.YtmjmdncdmmcmaaaGc
import Derived.Test.YtmjmdncdmmcmaaaRowLd
namespace Go.Proofs.Ytmjmdncdmmcmaaa
open Go.RowKit
set_option linter.unusedVariables false
set_option linter.unusedSimpArgs false
set_option linter.unusedSectionVars false

/-- where a slice begins behind its first k elements -/
def fromA (A : Option Addr) (k c sz : Nat) : Option Addr := match A with
  | none => none
  | some a => if k = c then some ⟨a.block, a.off, none⟩ else some ⟨a.block, a.off + k * sz, none⟩
theorem run_from {P : Program} {t e : TypeId} {A : Option Addr} {k n c sz : Nat} (hu : P.underlying t = some (.slice e)) (hs : (P.info? e).map (·.size) = some sz) (hA : A = none → n = 0 ∧ c = 0) (hB : ∀ a, A = some a → a.spot = none) (hk : k ≤ n) (hc : n ≤ c) (w : World) :
    (Instr.sliceAt t (.slice A n c) (some (.int .i64 (k : Int))) none none).run P w = .ok (.slice (fromA A k c sz) (n - k) (c - k)) w := by
  have h1 : (k : Int) ≤ (n : Int) := by omega
  have h2 : (n : Int) ≤ (c : Int) := by omega
  cases A with
  | none =>
    obtain ⟨rfl, rfl⟩ := hA rfl
    have : k = 0 := by omega
    subst this
    simp [Instr.sliceAt, Instr.slice, run_underlying hu, Instr.sliceBounds, Instr.sliceBound, asIntOf, run_sizeOf hs, add_mk, fromA]
  | some a =>
    obtain ⟨b, o, sp⟩ := a
    have := hB _ rfl
    simp only at this
    subst this
    by_cases e : k = c
    · subst e
      have : n = k := by omega
      subst this
      simp [Instr.sliceAt, Instr.slice, run_underlying hu, Instr.sliceBounds, Instr.sliceBound, asIntOf, run_sizeOf hs, add_mk, fromA]
    · have h3 : ¬ c - k = 0 := by omega
      have e2 : ¬ c = k := fun h => e h.symm
      simp [Instr.sliceAt, Instr.slice, run_underlying hu, Instr.sliceBounds, Instr.sliceBound, asIntOf, run_sizeOf hs, add_mk, fromA, hk, hc, h1, h2, h3, e, e2]
theorem RV.fromA {T : Nat → Prop} {w : World} {A : Option Addr} {vs : List Value} {n c sz : Nat} (h : RV T w A vs) (hl : vs.length = n * sz) (hc : n ≤ c) (k : Nat) : RV T w (Go.Proofs.Ytmjmdncdmmcmaaa.fromA A k c sz) (vs.drop (k * sz)) := by
  cases A with
  | none =>
    have hv : vs = [] := by
      cases vs with
      | nil => rfl
      | cons v vs => obtain ⟨b, o, e, _⟩ := h 0 v rfl; cases e
    rw [hv]; simp; exact RV.nil_ _ _ _
  | some a =>
    by_cases e : k = c
    · rw [List.drop_of_length_le (by rw [hl, e]; exact Nat.mul_le_mul_right _ hc)]
      exact RV.nil_ _ _ _
    · intro j u hu
      obtain ⟨b, o, e2, h1, h2⟩ := h (k * sz + j) u (by rw [← hu, List.getElem?_drop])
      injection e2 with e2
      subst e2
      exact ⟨b, o + k * sz, by simp [Go.Proofs.Ytmjmdncdmmcmaaa.fromA, e], h1, by rw [Nat.add_assoc]; exact h2⟩
theorem dFrom {P : Program} {ops : Array Oper} {Q : Exit → Act → World → Prop} {a : Act} {w w0 : World} {M : Nat → Prop} {cs fx : List (Chunk w0 M)} {md : Region.Mode} {fuel : Nat} {listed : Array Bool} {late : List Nat} {d : Option Tmp} {tt t e : TypeId} {pos : String} {af : Array Edge} {gd : Option (Nat × Bool)} {x y : Operand} {A FA : Option Addr} {k n c sz : Nat} (hFA : FA = fromA A k c sz) (hu : P.underlying t = some (.slice e)) (hs : (P.info? e).map (·.size) = some sz) (hA : A = none → n = 0 ∧ c = 0) (hB : ∀ a, A = some a → a.spot = none) (hk : k ≤ n) (hc : n ≤ c) (hS : St w0 M cs w) (i : Nat) [hsb : SubC fx cs]
    (hi : ops[i]? = some ⟨d, .slice t x (some y) none none, tt, pos, af, gd⟩) (hw : Region.wanted ⟨d, .slice t x (some y) none none, tt, pos, af, gd⟩ (yielded ops a.tmps) = true) (hx' : oval a x = some (.slice A n c)) (hy' : oval a y = some (.int .i64 (k : Int)))
    (h : wpAnyL P md ops Q (SF w0 M fx) late fuel (listed.setIfInBounds i true) (a.put d (.slice FA (n - k) (c - k))) w) (hno : Region.noSelect ops = true := by kernel_rfl) (hf : (Region.free md ops listed i && lateOk md ops late i) = true := by kernel_rfl) (hr : (Region.ready md ops listed).contains i = true := by kernel_rfl) (hQ : ∀ c a v w, Q (.panic c) (a.put d v) w → Q (.panic c) a w := by exact fun _ _ _ _ h => h) : wpAnyL P md ops Q (SF w0 M fx) late (fuel + 1) listed a w :=
  dr_pure hS i hi hno hf hr hQ hw (fun w => by simp only [execOp, oval_eval hx', oval_eval hy', Option.map_none, Option.map_some, Sem.run_bind, run_from hu hs hA hB hk hc, Result.andThen_ok, Sem.run_pure, hFA]) h
theorem run_to {P : Program} {t e : TypeId} {A : Option Addr} {k n c sz : Nat} (hu : P.underlying t = some (.slice e)) (hs : (P.info? e).map (·.size) = some sz) (hA : A = none → n = 0 ∧ c = 0) (hB : ∀ a, A = some a → a.spot = none) (hk : k ≤ n) (hc : n ≤ c) (w : World) :
    (Instr.sliceAt t (.slice A n c) none (some (.int .i64 (k : Int))) none).run P w = .ok (.slice A k c) w := by
  have h1 : (k : Int) ≤ (n : Int) := by omega
  have h2 : (n : Int) ≤ (c : Int) := by omega
  cases A with
  | none =>
    obtain ⟨rfl, rfl⟩ := hA rfl
    have : k = 0 := by omega
    subst this
    simp [Instr.sliceAt, Instr.slice, run_underlying hu, Instr.sliceBounds, Instr.sliceBound, asIntOf, run_sizeOf hs, add_mk]
  | some a =>
    obtain ⟨b, o, sp⟩ := a
    have := hB _ rfl
    simp only at this
    subst this
    have h3 : (k : Int) ≤ (c : Int) := by omega
    have h4 : k ≤ c := by omega
    by_cases e : c = 0
    · subst e
      have : k = 0 := by omega
      subst this
      simp [Instr.sliceAt, Instr.slice, run_underlying hu, Instr.sliceBounds, Instr.sliceBound, asIntOf, run_sizeOf hs, add_mk]
    · simp [Instr.sliceAt, Instr.slice, run_underlying hu, Instr.sliceBounds, Instr.sliceBound, asIntOf, run_sizeOf hs, add_mk, hk, hc, h1, h2, h3, h4, e]
end Go.Proofs.Ytmjmdncdmmcmaaa
