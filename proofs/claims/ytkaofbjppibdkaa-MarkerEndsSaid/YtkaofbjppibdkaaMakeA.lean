/- Rows of messages and rows of lists, as pieces of memory. No condition. -/
import Derived.Test.YtkaofbjppibdkaaArms
import Derived.Test.YtkaofbjppibdkaaCdsCut
import Derived.Test.YtkaofbjppibdkaaPatA
import Derived.Test.YtkaofbjppibdkaaWith
namespace Go.Proofs.Ytkaofbjppibdkaa
open Go.RowKit
set_option linter.unusedVariables false
set_option linter.unusedSimpArgs false
set_option linter.unusedSectionVars false

theorem reps_arcs (w : World) : ∀ (arcs : List Arc), Reps (repArc w) 4 (arcs.flatMap arcCells) arcs
  | [] => rfl
  | a :: l => ⟨arcCells a, l.flatMap arcCells, by simp, rfl, rfl, reps_arcs w l⟩
theorem reps_arcs_eq {w : World} : ∀ {vs : List Value} {arcs : List Arc}, Reps (repArc w) 4 vs arcs → vs = arcs.flatMap arcCells
  | vs, [], h => h
  | vs, a :: l, h => by
    obtain ⟨cs, r, rfl, _, h1, h2⟩ := h
    rw [reps_arcs_eq h2, show cs = arcCells a from h1]; simp
/-- a row of messages -/
abbrev arow {w0 : World} {M : Nat → Prop} (L : Option Addr) (c : Nat) (arcs : List Arc) : Chunk w0 M := row (.slice L arcs.length c) 62 4 arcs.length (arcs.flatMap arcCells)
section
variable {w0 w : World} {M : Nat → Prop} {cs : List (Chunk w0 M)} {f : Chunk w0 M → List (Chunk w0 M)}
theorem St.ra {A : Option Addr} {k c n : Nat} {e : TypeId} {arcs : List Arc} (h : St w0 M cs w) [hp : PickL A cs k c e 4 n (arcs.flatMap arcCells) f] : RA All w A arcs := ⟨_, h.rv (f := f), reps_arcs w arcs⟩
variable {P : Program} {ops : Array Oper} {Q : Exit → Act → World → Prop} {a : Act} {ds : List (Chunk w0 M)} {rest : List Oper} {d : Option Tmp} {tt ty t e : TypeId} {pos : String} {af : Array Edge} {gd : Option (Nat × Bool)} {x y : Operand}
/-- append of one message -/
theorem st_appA {bytes c c1 g n : Nat} {ys : List Arc} {us : List Value} (z : Arc) {L1 : Option Addr} [hT : ElemC P t e 4 bytes] (hS : St w0 M cs w) (hw : Region.wanted ⟨d, .call { callee := .builtin .append, args := #[x, y], argTypes := #[t, t] }, tt, pos, af, gd⟩ (yielded ops a.tmps) = true)
    (hx' : oval a x = some (.slice L1 n c1)) (hy' : oval a y = some (.slice (some ⟨g, 0, none⟩) 1 c)) {t' : TypeId} [hd : DropB g cs us t' ds] (hu : us = arcCells z) [hp : PickR (.slice L1 n c1) ds e 4 n (ys.flatMap arcCells) f] (hb : (n + 1) * bytes ≤ 140737488355328)
    (k : ∀ L c' w', n + 1 ≤ c' → c' ≤ 9223372036854775807 → St w0 M (f (row (.slice L (n + 1) c') e 4 (n + 1) ((ys ++ [z]).flatMap arcCells))) w' → wpList P ops Q rest (a.put d (.slice L (n + 1) c')) w') :
    wpList P ops Q (⟨d, .call { callee := .builtin .append, args := #[x, y], argTypes := #[t, t] }, tt, pos, af, gd⟩ :: rest) a w := by
  subst hu
  refine st_app hS hw hx' hy' rfl (arcCells_one z) hb ?_
  intro L c' w' h1 h2 h3
  have := k L c' w' h1 h2
  rw [List.flatMap_append] at this
  simp only [List.flatMap_cons, List.flatMap_nil, List.append_nil] at this
  exact this h3
/-- two new rows of different kinds -/
theorem St.addRow2 {w' : World} {v1 v2 : Value} {e1 e2 : TypeId} {s1 s2 n1 n2 : Nat} {vs1 vs2 : List Value} (h : St w0 M cs w) (ho1 : w'.ownsRow w.heap.size e1 s1 v1 n1 vs1) (ho2 : w'.ownsRow w.heap.size e2 s2 v2 n2 vs2) (hne : e1 ≠ e2) (hx : Ext w w') : St w0 M (row v1 e1 s1 n1 vs1 :: row v2 e2 s2 n2 vs2 :: cs) w' := by
  refine (h.add (c := pair (row v1 e1 s1 n1 vs1) (row v2 e2 s2 n2 vs2)) hx ⟨own_base ho1 (Nat.zero_le _), own_base ho2 (Nat.zero_le _), fun k hk1 hk2 => ?_⟩ (fun k hk => hk.elim (fun hk => own_block ho1 k hk) (fun hk => own_block ho2 k hk))).split
  rcases ho1.2 with ⟨rfl, _⟩ | ⟨g, cap, cur, rfl, _, hh, _⟩
  · cases hk1
  · have hg : g = k := by injection hk1
    subst hg
    exact own_ne ho2 hh hne.symm hk2
/-- the row at L is forgotten -/
class DropL {w0 : World} {M : Nat → Prop} (L : Option Addr) (cs : List (Chunk w0 M)) (ds : outParam (List (Chunk w0 M))) : Prop where
  sub : ds.Sublist cs
instance {w0 : World} {M : Nat → Prop} (L : Option Addr) (k c : Nat) (e : TypeId) (sz n : Nat) (vs : List Value) (r : List (Chunk w0 M)) : DropL L (row (.slice L k c) e sz n vs :: r) r := ⟨List.sublist_cons_self _ _⟩
instance (priority := low) {w0 : World} {M : Nat → Prop} (L : Option Addr) (d : Chunk w0 M) (r s : List (Chunk w0 M)) [h : DropL L r s] : DropL L (d :: r) (d :: s) := ⟨h.sub.cons_cons d⟩
theorem St.dropL (h : St w0 M cs w) (L : Option Addr) [hd : DropL L cs ds] : St w0 M ds w := h.sub hd.sub
end
/-- own blocks of a piece beside the choices are new -/
theorem St.newC {g0 : Nat} {κ : CK} {r : List Int} {w0 w : World} {cs : List (Chunk w0 (fun k => k = g0))} {f : Chunk w0 (fun k => k = g0) → List (Chunk w0 (fun k => k = g0))} (c : Chunk w0 (fun k => k = g0)) (h : St w0 (fun k => k = g0) cs w) [hp : PickK c cs f] [hq : MemC (cds g0 κ r) (f nop)] : ∀ k, c.own k → w0.heap.size ≤ k := by
  intro k hk
  have h' : St w0 (fun k' => k' = g0) (f c) w := hp.eq ▸ h
  obtain ⟨s, h1, h2⟩ := gap_perm hp.gap c
  have hm : cds g0 κ r ∈ s := by
    rcases List.mem_cons.1 ((h2 nop).mem_iff.2 hq.h) with h3 | h3
    · have := congrArg (fun c => c.own g0) h3
      simp [cds, nop] at this
    · exact h3
  have h3 := h'.perm h1
  rcases h3.new c (by simp) k hk with h4 | h4
  · exact h4
  · exact absurd rfl ((List.pairwise_cons.1 h3.apart).1 _ hm g0 (h4 ▸ hk))
theorem RowOk.length_le {l : List Int} {m : Int} (h : RowOk l m) : (l.length : Int) ≤ m + 1 := by
  have key : ∀ (l : List Int) (a : Int), l.Pairwise (· < ·) → (∀ x ∈ l, a ≤ x) → (∀ x ∈ l, x ≤ m) → l ≠ [] → a + l.length ≤ m + 1 := by
    intro l
    induction l with
    | nil => intro a _ _ _ h; exact absurd rfl h
    | cons b l ih =>
      intro a hp hlo hhi _
      by_cases hl : l = []
      · subst hl; have := hlo b (by simp); have := hhi b (by simp); simp; omega
      · have := ih (b + 1) (List.pairwise_cons.1 hp).2 (fun x hx => by have := (List.pairwise_cons.1 hp).1 x hx; omega) (fun x hx => hhi x (by simp [hx])) hl
        have := hlo b (by simp)
        simp; omega
  obtain ⟨r, hr⟩ := h.head
  have := key l 0 h.asc (h.nonneg) h.le (by rw [hr]; simp)
  omega
theorem Good.rowLen {p : Pat} (h : Good p) {q : Nat} (hq : q < p.len.length) : (rowOf p.ck q).length ≤ 65 := by
  have := (h.row q hq).length_le
  have := h.hi q hq
  omega
theorem Pat.mark_same {p : Pat} {q : Nat} (h : nth p.len q ∈ rowOf p.ck q) : p.mark q = p := by simp [Pat.mark, h]
theorem Pat.mark_new {p : Pat} {q : Nat} (h : ¬ nth p.len q ∈ rowOf p.ck q) : p.mark q = { p with ck := p.ck.set q (rowOf p.ck q ++ [nth p.len q]) } := by simp [Pat.mark, h]
/-- a pattern with one more event -/
def RetWith (w : World) (p' : Pat) (A2 : Option Addr) (c2 n1 n2 n3 : Nat) (e : Ending) (w' : World) : Prop := ∃ L1 k1 L3 k3, e = .returned (.agg #[.slice L1 n1 k1, .slice A2 n2 c2, .slice L3 n3 k3]) ∧ w'.ownsRow w.heap.size 3 1 (.slice L1 n1 k1) n1 (ints p'.len) ∧ w'.ownsRow w.heap.size 62 4 (.slice L3 n3 k3) n3 (p'.arcs.flatMap arcCells) ∧ Ext w w'
end Go.Proofs.Ytkaofbjppibdkaa
