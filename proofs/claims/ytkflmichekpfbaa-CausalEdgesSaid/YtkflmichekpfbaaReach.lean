/- rollbacknetlaw17.reach: following the edges backwards. Conditions: the pattern is good and lies in memory, the points are points of it. -/
import Derived.Test.YtkflmichekpfbaaOrders
namespace Go.Proofs.Ytkflmichekpfbaa
open Go.RowKit
set_option linter.unusedVariables false
set_option linter.unusedSimpArgs false
set_option linter.unusedSectionVars false

theorem run_eqPt {a : Act} {w : World} {d : Option Tmp} {tt : TypeId} {pos : String} {af : Array Edge} {gd : Option (Nat × Bool)} {x y : Operand} {i j k l : Int} (hx' : oval a x = some (.agg #[.int .i64 i, .int .i64 j])) (hy' : oval a y = some (.agg #[.int .i64 k, .int .i64 l])) :
    (execOp a.eval ⟨d, .binOp .eql 37 x y 37, tt, pos, af, gd⟩).run Try.prog w = .ok (.value (.bool (decide ((i, j) = (k, l))))) w := by
  simp only [execOp, oval_eval hx', oval_eval hy']
  go_simp
  by_cases h1 : i = k <;> by_cases h2 : j = l <;> simp [h1, h2]
/-- two points are compared -/
theorem sEq {ops : Array Oper} {Q : Exit → Act → World → Prop} {rest : List Oper} {a : Act} {w : World} {d : Option Tmp} {tt : TypeId} {pos : String} {af : Array Edge} {gd : Option (Nat × Bool)} {x y : Operand} {i j : Nat} {k l : Int} (hw : Region.wanted ⟨d, .binOp .eql 37 x y 37, tt, pos, af, gd⟩ (yielded ops a.tmps) = true) (hx' : oval a x = some (.agg #[.int .i64 (i : Int), .int .i64 k])) (hy' : oval a y = some (.agg #[.int .i64 (j : Int), .int .i64 l]))
    (h : ∀ r : Bool, (r = true ↔ (i, k) = (j, l)) → wpList Try.prog ops Q rest (a.put d (.bool r)) w) : wpList Try.prog ops Q (⟨d, .binOp .eql 37 x y 37, tt, pos, af, gd⟩ :: rest) a w :=
  st_run hw (run_eqPt hx' hy') (h _ (by
    rw [decide_eq_true_eq]
    simp only [Prod.mk.injEq]
    omega))
/-- what the edges of a point lead to, the first i arcs looked at -/
def sentTo (x : Nat × Int) (r : Arc) : Bool := decide (0 < r.at_ ∧ r.to = x.1 ∧ r.at_ = x.2)
def nexts (p : Pat) (x : Nat × Int) (i : Nat) : List (Nat × Int) := (if 0 < x.2 then [(x.1, x.2 - 1)] else []) ++ ((p.arcs.take i).filter (sentTo x)).map fun r => (r.fr, r.ix)
section
variable {p : Pat} {a b x y : Nat × Int} {s t : List (Nat × Int)}
theorem nexts_zero (h : x.2 = 0) : nexts p x 0 = [] := by simp [nexts, h]
theorem nexts_pos (h : 0 < x.2) : nexts p x 0 = [(x.1, x.2 - 1)] := by simp [nexts, h]
theorem nexts_no {i : Nat} (hi : i < p.arcs.length) (h : sentTo x p.arcs[i] = false) : nexts p x (i + 1) = nexts p x i := by
  unfold nexts
  rw [List.take_succ_eq_append_getElem hi, List.filter_append, List.filter_cons]
  simp [h]
theorem nexts_yes {i : Nat} (hi : i < p.arcs.length) (h : sentTo x p.arcs[i] = true) : nexts p x (i + 1) = nexts p x i ++ [(p.arcs[i].fr, p.arcs[i].ix)] := by
  unfold nexts
  rw [List.take_succ_eq_append_getElem hi, List.filter_append, List.filter_cons]
  simp [h]
theorem mem_nexts (hg : Good p) : y ∈ nexts p x p.arcs.length ↔ Pred p x y := by
  unfold nexts
  rw [List.take_length, List.mem_append]
  constructor
  · rintro (h | h)
    · split at h
      · rename_i h0
        exact .inl ⟨h0, List.mem_singleton.1 h⟩
      · simp at h
    · obtain ⟨r, hr, rfl⟩ := List.mem_map.1 h
      obtain ⟨hr, h1⟩ := List.mem_filter.1 hr
      simp only [sentTo, decide_eq_true_eq] at h1
      refine .inr ?_
      have := arc_src hg hr (by omega)
      rw [show (r.to, r.at_) = x from by rw [h1.2.1, h1.2.2]] at this
      exact this
  · rintro (⟨h0, rfl⟩ | h)
    · exact .inl (by rw [if_pos h0]; simp)
    · obtain ⟨r, hr, hto, hat, h0, rfl⟩ := src_arc h
      refine .inr (List.mem_map.2 ⟨r, List.mem_filter.2 ⟨hr, ?_⟩, rfl⟩)
      have := (hg.arc r hr).at0
      simp only [sentTo, decide_eq_true_eq]
      exact ⟨by omega, hto, hat⟩
/-- the search: s is seen, t is to be looked at, e is being looked at; a was not met -/
structure Fol (p : Pat) (a b : Nat × Int) (s t : List (Nat × Int)) (e : Option (Nat × Int)) : Prop where
  ok : ∀ x ∈ t, PtOk p x ∧ Reach p b x
  na : a ∉ s
  cl : ∀ x, (x = b ∨ x ∈ s) → x ∉ t → some x ≠ e → ∀ y, Pred p x y → y ∈ s
theorem Fol.start (hb : PtOk p b) : Fol p a b [] [b] none :=
  ⟨fun x hx => by rw [List.mem_singleton.1 hx]; exact ⟨hb, .refl⟩, by simp, fun x hx hn => by
    rcases hx with rfl | hx
    · simp at hn
    · simp at hx⟩
theorem Fol.pop (h : Fol p a b s (t ++ [x]) none) : Fol p a b s t (some x) :=
  ⟨fun y hy => h.ok y (by simp [hy]), h.na, fun z hz hn hne => h.cl z hz (fun hm => by
    rcases List.mem_append.1 hm with hm | hm
    · exact hn hm
    · exact hne (by rw [List.mem_singleton.1 hm])) (by simp)⟩
theorem Fol.add (h : Fol p a b s t (some x)) (hy : PtOk p y) (hr : Reach p b y) (hne : y ≠ a) : Fol p a b (s ++ [y]) (t ++ [y]) (some x) := by
  refine ⟨fun z hz => ?_, fun hm => ?_, fun z hz hn hz2 v hv => ?_⟩
  · rcases List.mem_append.1 hz with hz | hz
    · exact h.ok z hz
    · rw [List.mem_singleton.1 hz]; exact ⟨hy, hr⟩
  · rcases List.mem_append.1 hm with hm | hm
    · exact h.na hm
    · exact hne (List.mem_singleton.1 hm).symm
  · have hzy : z ≠ y := fun e => hn (by rw [e]; simp)
    have hz' : z = b ∨ z ∈ s := by
      rcases hz with hz | hz
      · exact .inl hz
      · rcases List.mem_append.1 hz with hz | hz
        · exact .inr hz
        · exact absurd (List.mem_singleton.1 hz) hzy
    exact List.mem_append_left _ (h.cl z hz' (fun hm => hn (by simp [hm])) hz2 v hv)
theorem Fol.done (h : Fol p a b s t (some x)) (hx : ∀ y, Pred p x y → y ∈ s) : Fol p a b s t none :=
  ⟨h.ok, h.na, fun z hz hn _ v hv => by
    by_cases e : z = x
    · subst e; exact hx v hv
    · exact h.cl z hz hn (fun h => e (by injection h)) v hv⟩
theorem Fol.fin (h : Fol p a b s [] none) : ¬ (a ≠ b ∧ Reach p b a) := by
  rintro ⟨hne, hr⟩
  have : ∀ z, Reach p b z → z = b ∨ z ∈ s := by
    intro z hz
    induction hz with
    | refl => exact .inl rfl
    | step _ hp ih => exact .inr (h.cl _ ih (by simp) (by simp) _ hp)
  rcases this a hr with h1 | h1
  · exact hne h1
  · exact h.na h1
theorem hit (hg : Good p) (hb : PtOk p b) (hr : Reach p b x) (hp : Pred p x a) : a ≠ b ∧ Reach p b a := by
  refine ⟨fun e => ?_, hr.step hp⟩
  obtain ⟨rk, _, hrk, _⟩ := hg.rank
  have h1 := hp.rank hrk (hr.ok hg hb)
  rcases hr.rank hg hrk hb with h2 | h2
  · subst h2; subst e; omega
  · subst e; omega
/-- what is seen, as a function -/
def inL (s : List (Nat × Int)) : Int × Int → Bool := fun k => s.any fun x => decide (key x = k)
theorem inL_snoc (s : List (Nat × Int)) (y : Nat × Int) : inL (s ++ [y]) = seeS (inL s) (key y) := by
  funext k
  simp only [inL, seeS, List.any_append, List.any_cons, List.any_nil, Bool.or_false]
  rw [Bool.or_comm]
  congr 1
  rw [decide_eq_decide]
  exact eq_comm
theorem inL_false (h : y ∉ s) : inL s (key y) = false := by
  unfold inL
  rw [List.any_eq_false]
  intro x hx hk
  rw [decide_eq_true_eq] at hk
  exact h (by rw [← key_inj hk]; exact hx)
end
end Go.Proofs.Ytkflmichekpfbaa
