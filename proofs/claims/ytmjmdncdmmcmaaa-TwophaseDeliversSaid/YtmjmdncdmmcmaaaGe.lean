/- Rows of messages and rows of lists, as pieces of memory. No condition. -/
import Derived.Test.YtmjmdncdmmcmaaaGc
import Derived.Test.YtmjmdncdmmcmaaaGd
import Derived.Test.YtmjmdncdmmcmaaaGb
import Derived.Test.YtmjmdncdmmcmaaaRows
import Derived.Test.YtmjmdncdmmcmaaaGa
import Derived.ProofKit
import Derived.OpenShut
import Derived.Carry
import Derived.ChangeCalls
namespace Go.Proofs.Ytmjmdncdmmcmaaa
open Go.RowKit
set_option linter.unusedVariables false
set_option linter.unusedSimpArgs false
set_option linter.unusedSectionVars false

theorem reps_arcs (w : World) : ∀ (arcs : List Arc), Reps (repArc w) 4 (arcs.flatMap arcCells) arcs
  | [] => rfl
  | a :: l => ⟨arcCells a, l.flatMap arcCells, by simp, rfl, rfl, reps_arcs w l⟩
theorem reps_arcs_eq {w : World} : ∀ {vs : List Value} {arcs : List Arc}, Reps (repArc w) 4 vs arcs → vs = arcs.flatMap arcCells
  | vs, [], h => h
  | vs, a :: l, h => by
    obtain ⟨cs, r, rfl, _, h1, h2⟩ := h
    rw [reps_arcs_eq h2, show cs = arcCells a from h1]; simp
section
variable {w0 w : World} {M : Nat → Prop} {cs : List (Chunk w0 M)} {f : Chunk w0 M → List (Chunk w0 M)}
theorem St.ra {A : Option Addr} {k c n : Nat} {e : TypeId} {arcs : List Arc} (h : St w0 M cs w) [hp : PickL A cs k c e 4 n (arcs.flatMap arcCells) f] : RA All w A arcs := ⟨_, h.rv (f := f), reps_arcs w arcs⟩
variable {P : Program} {ops : Array Oper} {Q : Exit → Act → World → Prop} {a : Act} {ds : List (Chunk w0 M)} {rest : List Oper} {d : Option Tmp} {tt ty t e : TypeId} {pos : String} {af : Array Edge} {gd : Option (Nat × Bool)} {x y : Operand}
/-- append of one message -/
theorem st_appA {bytes c c1 g n : Nat} {ys : List Arc} {us : List Value} (z : Arc) {L1 : Option Addr} [hT : ElemC P t e 4 bytes] (hS : St w0 M cs w) (hw : Region.wanted ⟨d, .call { callee := .builtin .append, args := #[x, y], argTypes := #[t, t] }, tt, pos, af, gd⟩ (yielded ops a.tmps) = true)
    (hx' : oval a x = some (.slice L1 n c1)) (hy' : oval a y = some (.slice (some ⟨g, 0, none⟩) 1 c)) {t' : TypeId} [hd : DropB g cs us t' ds] (hu : us = arcCells z) [hp : PickR (.slice L1 n c1) ds e 4 n (ys.flatMap arcCells) f] (hb : (n + 1) * bytes ≤ 140737488355328)
    (k : ∀ L c' w', n + 1 ≤ c' → c' ≤ 9223372036854775807 → St w0 M (f (row (.slice L (n + 1) c') e 4 (n + 1) ((ys ++ [z]).flatMap arcCells))) w' → wpList P ops Q rest (a.put d (.slice L (n + 1) c')) w') :
    wpList P ops Q (⟨d, .call { callee := .builtin .append, args := #[x, y], argTypes := #[t, t] }, tt, pos, af, gd⟩ :: rest) a w := by
  subst hu
  refine st_app hS hw hx' hy' rfl (arcCells_one z) hb ?_
  intro L c' w' h1 h2 h3
  have := k L c' w' h1 h2
  rw [List.flatMap_append] at this
  simp only [List.flatMap_cons, List.flatMap_nil, List.append_nil] at this
  exact this h3
/-- two new rows of different kinds -/
theorem St.addRow2 {w' : World} {v1 v2 : Value} {e1 e2 : TypeId} {s1 s2 n1 n2 : Nat} {vs1 vs2 : List Value} (h : St w0 M cs w) (ho1 : w'.ownsRow w.heap.size e1 s1 v1 n1 vs1) (ho2 : w'.ownsRow w.heap.size e2 s2 v2 n2 vs2) (hne : e1 ≠ e2) (hx : Ext w w') : St w0 M (row v1 e1 s1 n1 vs1 :: row v2 e2 s2 n2 vs2 :: cs) w' := by
  refine (h.add (c := pair (row v1 e1 s1 n1 vs1) (row v2 e2 s2 n2 vs2)) hx ⟨own_base ho1 (Nat.zero_le _), own_base ho2 (Nat.zero_le _), fun k hk1 hk2 => ?_⟩ (fun k hk => hk.elim (fun hk => own_block ho1 k hk) (fun hk => own_block ho2 k hk))).split
  rcases ho1.2 with ⟨rfl, _⟩ | ⟨g, cap, cur, rfl, _, hh, _⟩
  · cases hk1
  · have hg : g = k := by injection hk1
    subst hg
    exact own_ne ho2 hh hne.symm hk2
/-- the row at L is forgotten -/
class DropL {w0 : World} {M : Nat → Prop} (L : Option Addr) (cs : List (Chunk w0 M)) (ds : outParam (List (Chunk w0 M))) : Prop where
  sub : ds.Sublist cs
instance {w0 : World} {M : Nat → Prop} (L : Option Addr) (k c : Nat) (e : TypeId) (sz n : Nat) (vs : List Value) (r : List (Chunk w0 M)) : DropL L (row (.slice L k c) e sz n vs :: r) r := ⟨List.sublist_cons_self _ _⟩
instance (priority := low) {w0 : World} {M : Nat → Prop} (L : Option Addr) (d : Chunk w0 M) (r s : List (Chunk w0 M)) [h : DropL L r s] : DropL L (d :: r) (d :: s) := ⟨h.sub.cons_cons d⟩
end
/-- own blocks of a piece beside the choices are new -/
theorem St.newC {g0 : Nat} {κ : CK} {r : List Int} {w0 w : World} {cs : List (Chunk w0 (fun k => k = g0))} {f : Chunk w0 (fun k => k = g0) → List (Chunk w0 (fun k => k = g0))} (c : Chunk w0 (fun k => k = g0)) (h : St w0 (fun k => k = g0) cs w) [hp : PickK c cs f] [hq : MemC (cds g0 κ r) (f nop)] : ∀ k, c.own k → w0.heap.size ≤ k := by
  intro k hk
  have h' : St w0 (fun k' => k' = g0) (f c) w := hp.eq ▸ h
  obtain ⟨s, h1, h2⟩ := gap_perm hp.gap c
  have hm : cds g0 κ r ∈ s := by
    rcases List.mem_cons.1 ((h2 nop).mem_iff.2 hq.h) with h3 | h3
    · have := congrArg (fun c => c.own g0) h3
      simp [cds, nop] at this
    · exact h3
  have h3 := h'.perm h1
  rcases h3.new c (by simp) k hk with h4 | h4
  · exact h4
  · exact absurd rfl ((List.pairwise_cons.1 h3.apart).1 _ hm g0 (h4 ▸ hk))
theorem RowOk.length_le {l : List Int} {m : Int} (h : RowOk l m) : (l.length : Int) ≤ m + 1 := by
  have key : ∀ (l : List Int) (a : Int), l.Pairwise (· < ·) → (∀ x ∈ l, a ≤ x) → (∀ x ∈ l, x ≤ m) → l ≠ [] → a + l.length ≤ m + 1 := by
    intro l
    induction l with
    | nil => intro a _ _ _ h; exact absurd rfl h
    | cons b l ih =>
      intro a hp hlo hhi _
      by_cases hl : l = []
      · subst hl; have := hlo b (by simp); have := hhi b (by simp); simp; omega
      · have := ih (b + 1) (List.pairwise_cons.1 hp).2 (fun x hx => by have := (List.pairwise_cons.1 hp).1 x hx; omega) (fun x hx => hhi x (by simp [hx])) hl
        have := hlo b (by simp)
        simp; omega
  obtain ⟨r, hr⟩ := h.head
  have := key l 0 h.asc (h.nonneg) h.le (by rw [hr]; simp)
  omega
theorem Good.rowLen {p : Pat} (h : Good p) {q : Nat} (hq : q < p.len.length) : (rowOf p.ck q).length ≤ 65 := by
  have := (h.row q hq).length_le
  have := h.hi q hq
  omega
theorem Pat.mark_same {p : Pat} {q : Nat} (h : nth p.len q ∈ rowOf p.ck q) : p.mark q = p := by simp [Pat.mark, h]
theorem Pat.mark_new {p : Pat} {q : Nat} (h : ¬ nth p.len q ∈ rowOf p.ck q) : p.mark q = { p with ck := p.ck.set q (rowOf p.ck q ++ [nth p.len q]) } := by simp [Pat.mark, h]
/-- Mark of the reference on a good pattern -/
theorem rmark_good {S S1 : Nat → Prop} (A1 A2 A3 : Option Addr) (c1 c2 c3 : Nat) (p : Pat) (q : Nat) (w : World) (hS : ∀ k, w.heap.size ≤ k → S k) (h1 : RI S1 w A1 p.len) (h2 : RR S w A2 p.ck) (hl2 : p.ck.length ≤ c2) (hc2 : c2 ≤ 9223372036854775807) (hg : Good p) (hq : q < p.len.length) :
    Calls Try.prog 76 #[.agg #[.slice A1 p.len.length c1, .slice A2 p.ck.length c2, .slice A3 p.arcs.length c3], .int .i64 (q : Int)] w (MarkRes S w p A1 c1 A3 c3 (p.mark q).ck) := by
  by_cases hm : nth p.len q ∈ rowOf p.ck q
  · rw [Pat.mark_same hm]
    exact rmark_same A1 A2 A3 c1 c2 c3 p q w h1 h2 hl2 hc2 hg.n5 hg.ckl hq (hg.row q hq) hm
  · rw [Pat.mark_new hm]
    exact rmark_new A1 A2 A3 c1 c2 c3 p q w hS h1 h2 hl2 hc2 hg.n5 hg.ckl hq (hg.row q hq) (by have := hg.rowLen hq; omega) hm

theorem rmark_n {S S1 : Nat → Prop} {A1 A2 A3 : Option Addr} {c1 c2 c3 n1 n2 n3 : Nat} {z : Int} (p : Pat) (q : Nat) {w : World} (hz : z = q) (e1 : p.len.length = n1) (e2 : p.ck.length = n2) (e3 : p.arcs.length = n3) (hS : ∀ k, w.heap.size ≤ k → S k) (h1 : RI S1 w A1 p.len) (h2 : RR S w A2 p.ck) (hl2 : n2 ≤ c2) (hc2 : c2 ≤ 9223372036854775807) (hg : Good p) (hq : q < n1) :
    Calls Try.prog 76 #[.agg #[.slice A1 n1 c1, .slice A2 n2 c2, .slice A3 n3 c3], .int .i64 z] w fun e w' => ∃ L2 k2, e = .returned (.agg #[.slice A1 n1 c1, .slice L2 n2 k2, .slice A3 n3 c3]) ∧ RR S w' L2 (p.mark q).ck ∧ n2 ≤ k2 ∧ k2 ≤ 9223372036854775807 ∧ Ext w w' := by
  subst e1 e2 e3 hz
  have hl : (p.mark q).ck.length = p.ck.length := by unfold Pat.mark; split <;> simp
  refine (rmark_good A1 A2 A3 c1 c2 c3 p q w hS h1 h2 hl2 hc2 hg hq).mono ?_
  rintro e w' ⟨L2, k2, rfl, h, h3, h4, hx⟩
  rw [hl] at h3 ⊢
  exact ⟨L2, k2, rfl, h, h3, h4, hx⟩
/-- a pattern with one more event -/
def RetWith (w : World) (p' : Pat) (A2 : Option Addr) (c2 n1 n2 n3 : Nat) (e : Ending) (w' : World) : Prop := ∃ L1 k1 L3 k3, e = .returned (.agg #[.slice L1 n1 k1, .slice A2 n2 c2, .slice L3 n3 k3]) ∧ w'.ownsRow w.heap.size 3 1 (.slice L1 n1 k1) n1 (ints p'.len) ∧ w'.ownsRow w.heap.size 84 4 (.slice L3 n3 k3) n3 (p'.arcs.flatMap arcCells) ∧ Ext w w'
theorem with_event {S T : Nat → Prop} {A1 A2 A3 : Option Addr} {c1 c2 c3 n1 n2 n3 : Nat} {z : Int} (p : Pat) (q : Nat) {w : World} (hz : z = q) (e1 : p.len.length = n1) (e2 : p.ck.length = n2) (e3 : p.arcs.length = n3) (h1 : RI S w A1 p.len) (h3 : RA T w A3 p.arcs) (hg : Good p) (hq : q < n1) (hlt : nth p.len q < 64) :
    Calls Try.prog 85 #[.agg #[.slice A1 n1 c1, .slice A2 n2 c2, .slice A3 n3 c3], .int .i64 z, .int .i64 (-1), .int .i64 0] w (RetWith w (p.more q) A2 c2 n1 n2 n3) := by
  subst e1 e2 e3 hz
  have hl : (p.more q).len.length = p.len.length := p.more_length q
  refine (with_any A1 A2 A3 c1 c2 c3 p (p.more q) q (-1) 0 w (fun W hx => rappend_event A1 A2 A3 c1 c2 c3 p q W ((h1.ext hx).getN) ((h3.into (Into.ofExt hx)).into (Into.sub _ fun _ _ => trivial)) hg.n5 hg.few hq hlt (hg.lo q hq))).mono ?_
  rintro e w' ⟨L1, k1, L3, k3, vs, rfl, ho1, ho3, hr, hx⟩
  rw [hl] at ho1 ⊢
  rw [reps_arcs_eq hr] at ho3
  exact ⟨L1, k1, L3, k3, rfl, ho1, ho3, hx⟩
theorem with_recv {S T : Nat → Prop} {A1 A2 A3 : Option Addr} {c1 c2 c3 n1 n2 n3 : Nat} {z zs zk : Int} (p : Pat) (q s : Nat) (k : Int) {w : World} (hz : z = q) (hzs : zs = s) (hzk : zk = k) (e1 : p.len.length = n1) (e2 : p.ck.length = n2) (e3 : p.arcs.length = n3) (h1 : RI S w A1 p.len) (h3 : RA T w A3 p.arcs) (hg : Good p) (hq : q < n1) (hlt : nth p.len q < 64) (hs : s < n1) (hsq : s ≠ q) (hk0 : 0 ≤ k) (hks : k ≤ nth p.len s) (hf : n3 < 256) :
    Calls Try.prog 85 #[.agg #[.slice A1 n1 c1, .slice A2 n2 c2, .slice A3 n3 c3], .int .i64 z, .int .i64 zs, .int .i64 zk] w (RetWith w ((p.more q).send ⟨s, k, q, nth p.len q + 1⟩) A2 c2 n1 n2 (n3 + 1)) := by
  subst e1 e2 e3 hz hzs hzk
  have hl : ((p.more q).send ⟨s, zk, q, nth p.len q + 1⟩).len.length = p.len.length := p.more_length q
  have hl3 : ((p.more q).send ⟨s, zk, q, nth p.len q + 1⟩).arcs.length = p.arcs.length + 1 := by simp [Pat.send, Pat.more]
  have hhi := hg.hi s hs
  refine (with_any A1 A2 A3 c1 c2 c3 p ((p.more q).send ⟨s, zk, q, nth p.len q + 1⟩) q s zk w (fun W hx => rappend_recv A1 A2 A3 c1 c2 c3 p q W ((h1.ext hx).getN) ((h3.into (Into.ofExt hx)).into (Into.sub _ fun _ _ => trivial)) hg.n5 hg.few hq hlt (hg.lo q hq) s zk hs hsq hk0 hks (by omega) hf)).mono ?_
  rintro e w' ⟨L1, k1, L3, k3, vs, rfl, ho1, ho3, hr, hx⟩
  rw [hl] at ho1 ⊢
  rw [reps_arcs_eq hr] at ho3
  rw [hl3] at ho3 ⊢
  exact ⟨L1, k1, L3, k3, rfl, ho1, ho3, hx⟩
end Go.Proofs.Ytmjmdncdmmcmaaa

/- A pattern by choices (rollbacknetmake.Codes.Pattern): it is a good one. Conditions: the choices lie in memory; at most 50 steps. -/
namespace Go.Proofs.Ytmjmdncdmmcmaaa
open Go.RowKit
set_option linter.unusedVariables false
set_option linter.unusedSimpArgs false

/-- a good pattern of at most m steps -/
structure Small (p : Pat) (m : Nat) : Prop where
  good : Good p
  n4 : p.len.length ≤ 4
  ev : ∀ q, q < p.len.length → nth p.len q ≤ m
  few : p.arcs.length ≤ m
theorem Pat.mark_len (p : Pat) (q : Nat) : (p.mark q).len = p.len := by unfold Pat.mark; split <;> rfl
theorem Pat.mark_arcs (p : Pat) (q : Nat) : (p.mark q).arcs = p.arcs := by unfold Pat.mark; split <;> rfl
theorem Pat.mark_ckl (p : Pat) (q : Nat) : (p.mark q).ck.length = p.ck.length := by unfold Pat.mark; split <;> simp
theorem other_mod {q j k : Nat} (hq : q < k) (hj : j < k - 1) : (q + 1 + j) % k < k ∧ (q + 1 + j) % k ≠ q := by
  have hk : 0 < k := by omega
  refine ⟨Nat.mod_lt _ hk, ?_⟩
  by_cases h : q + 1 + j < k
  · rw [Nat.mod_eq_of_lt h]; omega
  · rw [Nat.mod_eq_sub_mod (by omega), Nat.mod_eq_of_lt (by omega)]; omega
theorem Small.mono {p : Pat} {m m' : Nat} (h : Small p m) (hm : m ≤ m') : Small p m' := ⟨h.good, h.n4, fun q hq => by have := h.ev q hq; omega, by have := h.few; omega⟩
theorem Small.mark {p : Pat} {m q : Nat} (h : Small p m) (hq : q < p.len.length) : Small (p.mark q) (m + 1) := by
  have e1 : (p.mark q).len = p.len := by unfold Pat.mark; split <;> rfl
  have e3 : (p.mark q).arcs = p.arcs := by unfold Pat.mark; split <;> rfl
  refine ⟨h.good.mark hq, by rw [e1]; exact h.n4, fun k hk => ?_, by rw [e3]; have := h.few; omega⟩
  rw [e1] at hk ⊢
  have := h.ev k hk; omega
theorem Small.more {p : Pat} {m q : Nat} (h : Small p m) (hq : q < p.len.length) (hm : m < 64) : Small (p.more q) (m + 1) := by
  have h1 := h.ev q hq
  refine ⟨h.good.more hq (by omega), by rw [p.more_length]; exact h.n4, fun k hk => ?_, by have := h.few; simp [Pat.more]; omega⟩
  rw [p.more_length] at hk
  rw [nth_more hq]
  have := h.ev k hk
  split <;> omega
theorem Small.send0 {p : Pat} {m s q : Nat} {k : Int} (h : Small p m) (hs : s < p.len.length) (hq : q < p.len.length) (hne : s ≠ q) (hk : 0 ≤ k) (hk' : k ≤ nth p.len s) (hm : m < 64) : Small (p.send ⟨s, k, q, 0⟩) (m + 1) := by
  have h1 := h.few
  exact ⟨h.good.send0 hs hq hne hk hk' (by omega), h.n4, fun q hq => by have := h.ev q hq; show nth p.len q ≤ _; omega, by simp [Pat.send]; omega⟩
theorem Small.recv {p : Pat} {m s q : Nat} {k : Int} (h : Small p m) (hs : s < p.len.length) (hq : q < p.len.length) (hne : s ≠ q) (hk : 0 ≤ k) (hk' : k ≤ nth p.len s) (hm : m < 64) : Small ((p.more q).send ⟨s, k, q, nth p.len q + 1⟩) (m + 1) := by
  have h1 := h.few
  have h2 := h.ev q hq
  have h3 := h.more hq hm
  exact ⟨h.good.recv hs hq hne hk hk' (by omega) (by omega), h3.n4, h3.ev, by simp [Pat.send, Pat.more]; omega⟩
/-- a new good pattern is returned; choices were used up -/
def RetMade (w : World) (g : Nat) (κ : CK) (m : Nat) (e : Ending) (w' : World) : Prop :=
  ∃ v p r', e = .returned (v.val p) ∧ Small p m ∧ PatAt (fun k => w.heap.size ≤ k) w' v p ∧ CdsAt w' g κ r' ∧ Keep (fun k => k ≠ g) w w'

set_option maxRecDepth 100000 in
set_option maxHeartbeats 3200000 in
theorem pattern_any (g0 : Nat) (κ : CK) (r : List Int) (m : Nat) (w0 : World) (hc : CdsAt w0 g0 κ r) (hm : m ≤ 50) :
    Calls Try.prog 52 #[.pointer (some ⟨g0, 0, none⟩), .int .i64 (m : Int)] w0 (RetMade w0 g0 κ m) := by
  have hS := St.startC hc
  clear hc
  have hnx := nxt_lt r (n := 3) (by omega)
  go_enter Try.func52, Try.ntmps52
  go_wp2_with (((((refine sN1 hS rfl ?_)); clear hS; (((fail_if_success guard_hyp g1); intro g1 w hS)))))
  refine (next_z 3 hS (by omega) (by omega) (by omega)).mono ?_
  rintro e w ⟨rfl, hS⟩
  obtain ⟨n, hn⟩ : ∃ n, n = 2 + nxt r 3 := ⟨_, rfl⟩
  have HN := Lib.hid hn
  have hn2 : 2 ≤ n := by omega
  have hn4 : n ≤ 4 := by omega
  have hni : (2 : Int) + (nxt r 3 : Int) = n := by omega
  clear hn hnx
  go_wp2_with (first | (refine oS ?_; (((refine sS4 hS rfl rfl rfl ?_)); clear hS; intro w hS)) | ((first | refine sN1 hS rfl ?_ | refine sM1 hS rfl rfl rfl ?_); clear hS; first | ((fail_if_success guard_hyp g2); intro g2 w hS) | ((fail_if_success guard_hyp g3); intro g3 w hS)))
  clear hni
  go_loopw [7] (fun s7 wr => ∃ (k c : Nat) (L : Option Addr) (vs : List Value) (T : Nat → Prop) (u : World), k ≤ n ∧ s7 = .int .i64 k ∧ Hid (Reps (repRow T u) 1 vs (List.replicate k [0])) ∧
    St w0 (fun k => k = g0) [froz T u, row (.slice L k c) 25 1 k vs, blk g3 [.slice (some ⟨g2, 0, none⟩) n n, .slice L k c, .slice none 0 0] 44, row (.slice (some ⟨g2, 0, none⟩) n n) 3 1 n (ints (List.replicate n 0)),
      blk g1 [.slice none 0 0, .slice none 0 0, .slice none 0 0] 44, cds g0 κ r.tail] wr) (fun s7 _ => n - (intOf s7).toNat)
  case atStart => exact ⟨0, 0, none, [], _, _, Nat.zero_le _, rfl, Lib.hid rfl, (hS.addNil _ _).frozNil⟩
  case round =>
    obtain ⟨k, c, L, vs, T, u, hk, rfl, HR, hS⟩ := hrel
    by_cases hlt : k < n
    · go_wp2_with (first | (refine oL ?_; ((refine sL1 hS rfl rfl rfl ?_))) | (refine oS ?_; (((refine sS1 hS rfl rfl rfl ?_)); clear hS; intro w hS)) | (refine oP ?_; (((refine sP2 hS rfl rfl rfl ?_)); clear hS; (((fail_if_success guard_hyp L1); intro L1 cl1 w hL1 hM1 hS)))) | ((((refine oC ?_; (refine sC1 hS rfl rfl ?_)))); clear hS; first | ((fail_if_success guard_hyp g4); intro g4 w hS) | ((fail_if_success guard_hyp g5); intro g5 w hS)))
      go_roundw
      case measure => simp [intOf]; omega
      have hb := hS.head
      have hI := hS.frozInto
      have hS2 := hS.freeze
      refine ⟨k + 1, _, _, _, _, _, by omega, by go_num, Lib.hid ?_, hS2⟩
      rw [List.replicate_succ']
      refine ((HR.out.mono (repRow.into (hI.widen (fun k hk => .inr hk)))).snoc rfl ?_)
      refine ⟨some ⟨g4, 0, none⟩, 1, rfl, by simp, by omega, ?_⟩
      intro j x hx
      refine ⟨g4, 0, rfl, .inl rfl, ?_⟩
      rw [Nat.zero_add]
      exact cell_of_heap hb (by simpa using hx)
    · have hkn : k = n := by omega
      subst hkn
      have hI := hS.frozInto
      have hvs := hS.rv (A := L)
      have hcf : k ≤ c ∧ c ≤ 9223372036854775807 := hS.rowForm L
      have hS2 := ((hS.perm (List.Perm.swap _ _ _)).freeze).addNil 84 4
      have HC := Lib.hid hcf
      have hRR : RR (fun k' => (row (w0 := w0) (M := fun k => k = g0) (.slice L k c) 25 1 k vs).own k' ∨ T k') wr L (List.replicate k [0]) := by
        refine ⟨vs, ?_, HR.out.mono (repRow.into (hI.widen (fun k hk => .inr hk)))⟩
        intro j x hx
        obtain ⟨b, o, e, _, hcell⟩ := hvs j x hx
        exact ⟨b, o, e, .inl (by rw [e]; rfl), hcell⟩
      have hsm : Small (Pat.none k) 0 := ⟨Good.none hn2 (by omega), by simp [Pat.none]; omega, fun q hq => by simp [Pat.none] at hq; simp [Pat.none, nth, List.getElem?_replicate, hq], by simp [Pat.none]⟩
      have hS3 := hS2.re (ds := [froz (fun k' => (row (w0 := w0) (M := fun k => k = g0) (.slice L k c) 25 1 k vs).own k' ∨ T k') wr, row (.slice (some ⟨g2, 0, none⟩) k k) 3 1 k (ints (List.replicate k 0)), row (.slice none 0 0) 84 4 0 [], blk g3 [.slice (some ⟨g2, 0, none⟩) k k, .slice L k c, .slice none 0 0] 44, blk g1 [.slice none 0 0, .slice none 0 0, .slice none 0 0] 44, cds g0 κ r.tail])
      clear hS hI hvs hcf HR hS2
      go_wp2_with (fail)
      go_loopw [8] (fun s8 wr => ∃ (i na k1 k2 k3 : Nat) (L1 L2 L3 : Option Addr) (p : Pat) (T : Nat → Prop) (u : World) (r' : List Int), i ≤ m ∧ s8 = .int .i64 i ∧ na ≤ 50 ∧ k ≤ k2 ∧ k2 ≤ 9223372036854775807 ∧ Hid (Small p i ∧ p.len.length = k ∧ p.arcs.length = na ∧ RR T u L2 p.ck) ∧
        St w0 (fun k => k = g0) [froz T u, row (.slice L1 k k1) 3 1 k (ints p.len), row (.slice L3 na k3) 84 4 na (p.arcs.flatMap arcCells), blk g3 [.slice L1 k k1, .slice L2 k k2, .slice L3 na k3] 44, blk g1 [.slice none 0 0, .slice none 0 0, .slice none 0 0] 44, cds g0 κ r'] wr) (fun s8 _ => m - (intOf s8).toNat)
      case atStart =>
        exact ⟨0, 0, k, c, 0, some ⟨g2, 0, none⟩, L, none, Pat.none k, _, _, r.tail, by omega, rfl, by omega, HC.out.1, HC.out.2, Lib.hid ⟨hsm, by simp [Pat.none], rfl, hRR⟩, hS3⟩
      case round =>
        obtain ⟨i, na, k1, k2, k3, L1, L2, L3, p, T2, u2, r', hi, rfl, hna, hk2, hk2', HP, hS⟩ := hrel
        have hret : ¬ (i < m ∧ r' ≠ []) → ∀ w, St w0 (fun k => k = g0) [froz T2 u2, row (.slice L1 k k1) 3 1 k (ints p.len), row (.slice L3 na k3) 84 4 na (p.arcs.flatMap arcCells), blk g3 [.slice L1 k k1, .slice L2 k k2, .slice L3 na k3] 44, blk g1 [.slice L1 k k1, .slice L2 k k2, .slice L3 na k3] 44, cds g0 κ r'] w →
            RetMade w0 g0 κ m (.returned (.agg #[.slice L1 k k1, .slice L2 k k2, .slice L3 na k3])) w := by
          intro _ w hS
          obtain ⟨hsm, e1, e3, hRR⟩ := HP.out
          have f1 := hS.rowForm L1
          have f3 := hS.rowForm L3
          have n1 := hS.newC (κ := κ) (r := r') (row (.slice L1 k k1) 3 1 k (ints p.len))
          have n2 := hS.newC (κ := κ) (r := r') (froz T2 u2)
          have n3 := hS.newC (κ := κ) (r := r') (row (.slice L3 na k3) 84 4 na (p.arcs.flatMap arcCells))
          have v1 := hS.rv (A := L1)
          have v3 := hS.rv (A := L3)
          refine ⟨⟨L1, k1, L2, k2, L3, k3⟩, p, r', ?_, hsm.mono hi, ⟨?_, ?_, ?_, by rw [e1]; exact f1.1, f1.2, by rw [hsm.good.ckl, e1]; exact hk2, hk2', by rw [e3]; exact f3.1, f3.2⟩, hS.codes, hS.keep⟩
          · rw [PV.val, hsm.good.ckl, e1, e3]
          · intro j x hx
            obtain ⟨b, o, e, _, hc⟩ := v1 j x hx
            exact ⟨b, o, e, n1 b (by rw [e]; rfl), hc⟩
          · exact hRR.into (hS.frozInto.widen n2)
          · refine ⟨_, ?_, reps_arcs w p.arcs⟩
            intro j x hx
            obtain ⟨b, o, e, _, hc⟩ := v3 j x hx
            exact ⟨b, o, e, n3 b (by rw [e]; rfl), hc⟩
        have HRET := Lib.hid hret
        clear hret
        by_cases him : i < m
        · have d1 : decide ((i : Int) < (m : Int)) = true := by simp; omega
          cases hr : r' with
          | nil =>
            subst hr
            go_wp2_with (first | (go_at_call 84; refine (left_st hS).mono ?_; rintro e w ⟨rfl, hS⟩; rw [List.isEmpty_nil]) | (refine oL ?_; ((refine sL2 hS rfl rfl rfl ?_))) | (refine oS ?_; (((refine sS4 hS rfl rfl rfl ?_)); clear hS; intro w hS)))
            exact st_retC hS rfl rfl rfl rfl (HRET.out (by simp) _ hS)
          | cons b rr =>
            have hqlt := nxt_lt r' (n := k) (by omega)
            have hklt := nxt_lt r'.tail (n := 8) (by omega)
            have hne : (!r'.isEmpty) = true := by rw [hr]; rfl
            clear hr
            go_wp2_with (((go_at_call 84; refine (left_st hS).mono ?_; rintro e w ⟨rfl, hS⟩; rw [hne])))
            refine (next_z k hS rfl (by omega) (by omega)).mono ?_
            rintro e w ⟨rfl, hS⟩
            generalize nxt r' k = q at *
            go_wp2_with (fail)
            refine (next_z 8 hS rfl (by omega) (by omega)).mono ?_
            rintro e w ⟨rfl, hS⟩
            generalize nxt r'.tail 8 = kk at *
            have HN := Lib.hid (And.intro HP.out.1 (And.intro HP.out.2.1 (And.intro HP.out.2.2.1 (HP.out.1.good.ckl.trans HP.out.2.1))))
            have hev := HP.out.1.ev q (by rw [HP.out.2.1]; exact hqlt)
            have hev0 := HP.out.1.good.lo q (by rw [HP.out.2.1]; exact hqlt)
            have hna' : na ≤ i := by have := HP.out.1.few; have := HP.out.2.2.1; omega
            by_cases hkk : kk < 2
            · go_wp2_with (((refine oL ?_; ((refine sL2 hS rfl rfl rfl ?_)))))
              have hRR : RR (fun k' => w.heap.size ≤ k' ∨ T2 k') w L2 p.ck := HP.out.2.2.2.into (hS.frozInto.widen (fun _ h => .inr h))
              refine (rmark_n (S := fun k' => w.heap.size ≤ k' ∨ T2 k') p q rfl HN.out.2.1 HN.out.2.2.2 HN.out.2.2.1 (fun _ h => .inl h) hS.ri hRR hk2 hk2' HN.out.1.good hqlt).mono ?_
              rintro e w' ⟨L2', k2', rfl, hRR', hl, hm', hx1⟩
              have hS := hS.frozGrow hx1
              have HR' := Lib.hid (hRR'.into (Into.subLt (S' := fun k' => (w.heap.size ≤ k' ∧ k' < w'.heap.size) ∨ T2 k') w' (fun k' hk' hlt' => hk'.imp (fun h => ⟨h, hlt'⟩) id)))
              clear hRR hRR'
              go_wp2_with (((refine oS ?_; (((refine sS4 hS rfl rfl rfl ?_)); clear hS; intro w hS))))
              go_roundw
              case measure => simp [intOf]; omega
              refine ⟨i + 1, na, k1, k2', k3, L1, L2', L3, p.mark q, _, _, r'.tail.tail, by omega, by go_num, hna, hl, hm', Lib.hid ⟨HN.out.1.mark (by rw [HN.out.2.1]; exact hqlt), by rw [Pat.mark_len]; exact HN.out.2.1, by rw [Pat.mark_arcs]; exact HN.out.2.2.1, HR'.out⟩, ?_⟩
              rw [Pat.mark_len, Pat.mark_arcs]
              exact hS
            by_cases hk2e : kk = 2
            · subst hk2e
              go_wp2_with (((refine oL ?_; ((refine sL2 hS rfl rfl rfl ?_)))))
              refine (with_event p q rfl HN.out.2.1 HN.out.2.2.2 HN.out.2.2.1 hS.ri hS.ra HN.out.1.good hqlt (by omega)).mono ?_
              rintro e w' ⟨L1', k1', L3', k3', rfl, ho1, ho3, hx1⟩
              have hS := hS.addRow2 ho1 ho3 (by decide) hx1
              go_wp2_with (((refine oS ?_; (((refine sS4 hS rfl rfl rfl ?_)); clear hS; intro w hS))))
              go_roundw
              case measure => simp [intOf]; omega
              exact ⟨i + 1, na, k1', k2, k3', L1', L2, L3', p.more q, _, _, r'.tail.tail, by omega, by go_num, hna, hk2, hk2', Lib.hid ⟨HN.out.1.more (by rw [HN.out.2.1]; exact hqlt) (by omega), by rw [Pat.more_length]; exact HN.out.2.1, HN.out.2.2.1, HP.out.2.2.2⟩, hS.re⟩
            have hjlt := nxt_lt r'.tail.tail (n := k - 1) (by omega)
            have hkz : ((k : Int) - 1) = ((k - 1 : Nat) : Int) := by omega
            have hoth := other_mod (q := q) (k := k) hqlt hjlt
            generalize hjj : nxt r'.tail.tail (k - 1) = j at *
            have HJ := Lib.hid hjj
            have hse : ((q : Int) + 1 + (j : Int)) % (k : Int) = (((q + 1 + j) % k : Nat) : Int) := by simp [Int.natCast_emod]
            clear hjj hklt
            generalize (q + 1 + j) % k = s at *
            have hs0 := HP.out.1.good.lo s (by rw [HP.out.2.1]; exact hoth.1)
            have hs1 := HP.out.1.ev s (by rw [HP.out.2.1]; exact hoth.1)
            have hsl : (ints p.len)[s]? = some (.int .i64 (nth p.len s)) := by rw [nth_eq (by rw [HP.out.2.1]; exact hoth.1)]; exact ints_get _
            have HK := Lib.hid (show nth p.len s = nth p.len s from rfl)
            generalize hns : nth p.len s = ns at *
            obtain ⟨n0, rfl⟩ := Int.eq_ofNat_of_zero_le hs0
            have HNS := Lib.hid hns
            obtain ⟨gl, rfl⟩ := hS.rowSome L1 (by omega)
            clear hns
            by_cases hk3e : kk = 3
            · subst hk3e
              go_wp2_with (fail)
              refine (next_z (k - 1) hS rfl (by omega) (by omega)).mono ?_
              rintro e w ⟨rfl, hS⟩
              rw [HJ.out]
              have hxlt := nxt_lt r'.tail.tail.tail (n := n0 + 1) (by omega)
              generalize hxx : nxt r'.tail.tail.tail (n0 + 1) = xi at *
              have HX := Lib.hid hxx
              clear hxx
              go_wp2_with (fail)
              refine dr_start2 [16] 2 4 hS (by kernel_rfl) rfl ?_; clear hS; intro w hS
              refine dP hS 0 rfl rfl ?_
              (try simp only [Act.put, nA, nB, nC])
              (refine dL1 hS 1 rfl rfl rfl rfl ?_)
              (try simp only [Act.put, nA, nB, nC])
              refine dM hS 2 rfl rfl rfl ?_
              (try simp only [Act.put, nA, nB, nC])
              refine dM hS 3 rfl rfl rfl ?_
              (try simp only [Act.put, nA, nB, nC])
              refine dP hS 4 rfl rfl ?_
              (try simp only [Act.put, nA, nB, nC])
              (refine dL1 hS 5 rfl rfl rfl rfl ?_)
              (try simp only [Act.put, nA, nB, nC])
              refine dM hS 6 rfl rfl rfl ?_
              (try simp only [Act.put, nA, nB, nC])
              refine dP hS 7 rfl rfl ?_
              (try simp only [Act.put, nA, nB, nC])
              (refine dL5 hS 8 rfl rfl rfl ?_)
              (try simp only [Act.put, nA, nB, nC])
              refine dP hS 9 rfl rfl ?_
              (try simp only [Act.put, nA, nB, nC])
              refine dM hS 11 rfl rfl rfl ?_
              (try simp only [Act.put, nA, nB, nC])
              refine dr_one 10 (by kernel_rfl) rfl ?_
              (refine st_call rfl (by kernel_rfl) rfl ?_; go_at_call 46; refine (next_z (n0 + 1) hS (by omega) (by omega) (by omega)).mono ?_; rintro e w ⟨rfl, hS⟩; rw [HX.out])
              (try simp only [Act.put, nA, nB, nC])
              refine dr_end hS ?_
              refine dP hS 12 rfl rfl ?_
              (try simp only [Act.put, nA, nB, nC])
              refine dr_one 13 (by kernel_rfl) rfl ?_
              first | (refine st_appA ⟨s, xi, q, 0⟩ hS rfl rfl rfl rfl (by omega) ?_; clear hS; intro L3' k3' w hL hM hS) | ((first | refine sC0 hS rfl ?_ | refine sC1 hS rfl rfl ?_ | refine sC2 hS rfl rfl ?_ | refine sC3 hS rfl rfl rfl ?_ | refine sC4 hS rfl rfl rfl ?_); clear hS; first | ((fail_if_success guard_hyp g1); intro g1 w hS) | ((fail_if_success guard_hyp g2); intro g2 w hS) | ((fail_if_success guard_hyp g3); intro g3 w hS) | ((fail_if_success guard_hyp g4); intro g4 w hS) | ((fail_if_success guard_hyp g5); intro g5 w hS) | ((fail_if_success guard_hyp g6); intro g6 w hS) | ((fail_if_success guard_hyp g7); intro g7 w hS) | fail) | fail
              (try simp only [Act.put, nA, nB, nC])
              refine dr_end hS ?_
              refine dr_one 14 (by kernel_rfl) rfl ?_
              first | (refine st_appA ⟨s, xi, q, 0⟩ hS rfl rfl rfl rfl (by omega) ?_; clear hS; intro L3' k3' w hL hM hS) | ((first | refine sP1 hS rfl rfl rfl ?_ | refine sP2 hS rfl rfl rfl ?_ | refine sP3 hS rfl rfl rfl ?_); clear hS; first | ((fail_if_success guard_hyp L1); intro L1 cl1 w hL1 hM1 hS) | ((fail_if_success guard_hyp L2); intro L2 cl2 w hL2 hM2 hS) | ((fail_if_success guard_hyp L3); intro L3 cl3 w hL3 hM3 hS) | fail) | fail
              (try simp only [Act.put, nA, nB, nC])
              refine dr_end hS ?_
              refine dP hS 15 rfl rfl ?_
              (try simp only [Act.put, nA, nB, nC])
              refine dr_one 16 (by kernel_rfl) rfl ?_
              first | (refine st_appA ⟨s, xi, q, 0⟩ hS rfl rfl rfl rfl (by omega) ?_; clear hS; intro L3' k3' w hL hM hS) | ((first | refine sS1 hS rfl rfl rfl ?_ | refine sS2 hS rfl rfl rfl ?_ | refine sS3 hS rfl rfl rfl ?_ | refine sS4 hS rfl rfl rfl ?_ | refine sS5 hS rfl rfl rfl ?_); clear hS; intro w hS) | fail
              (try simp only [Act.put, nA, nB, nC])
              refine dr_late (by kernel_rfl) ?_
              refine dr_done (by kernel_rfl) ?_
              go_wp2_with (fail)
              go_roundw
              case measure => simp [intOf]; omega
              refine ⟨i + 1, na + 1, k1, k2, k3', some ⟨gl, 0, none⟩, L2, L3', p.send ⟨s, xi, q, 0⟩, _, _, _, by omega, by go_num, by omega, hk2, hk2', Lib.hid ⟨HN.out.1.send0 (by rw [HN.out.2.1]; exact hoth.1) (by rw [HN.out.2.1]; exact hqlt) hoth.2 (by omega) (by rw [HNS.out]; omega) (by omega), HN.out.2.1, by simp [Pat.send, HN.out.2.2.1], HP.out.2.2.2⟩, hS⟩
            · have hkk2 : ¬ (kk : Int) < 2 := by omega
              have b2 : ((kk : Int) == 2) = false := by simp; omega
              have b3 : ((kk : Int) == 3) = false := by simp; omega
              go_wp2_with (fail)
              refine (next_z (k - 1) hS rfl (by omega) (by omega)).mono ?_
              rintro e w ⟨rfl, hS⟩
              rw [HJ.out]
              obtain ⟨mm, hmm⟩ : ∃ mm, mm = min 3 (n0 + 1) := ⟨_, rfl⟩
              have hmin : (if (n0 : Int) + 1 < 3 then (n0 : Int) + 1 else 3) = (mm : Int) := by split <;> omega
              have hmm1 : 1 ≤ mm := by omega
              have hmm2 : mm ≤ n0 + 1 := by omega
              have hxlt := nxt_lt r'.tail.tail.tail (n := mm) (by omega)
              generalize hxx : nxt r'.tail.tail.tail mm = xi at *
              have HX := Lib.hid hxx
              clear hxx hmm
              have hxn : (n0 : Int) - (xi : Int) = ((n0 - xi : Nat) : Int) := by omega
              go_wp2_with (fail)
              refine dr_start1 [19] 5 hS (by kernel_rfl) rfl ?_; clear hS; intro w hS
              (refine dL2 hS 0 rfl rfl rfl rfl ?_)
              (try simp only [Act.put, nA, nB, nC])
              refine dM hS 1 rfl rfl rfl ?_
              (try simp only [Act.put, nA, nB, nC])
              refine dM hS 2 rfl rfl rfl ?_
              (try simp only [Act.put, nA, nB, nC])
              refine dP hS 3 rfl rfl ?_
              (try simp only [Act.put, nA, nB, nC])
              (refine dL1 hS 4 rfl rfl rfl rfl ?_)
              (try simp only [Act.put, nA, nB, nC])
              refine dM hS 5 rfl rfl rfl ?_
              (try simp only [Act.put, nA, nB, nC])
              refine dP hS 6 rfl rfl ?_
              (try simp only [Act.put, nA, nB, nC])
              (refine dL5 hS 7 rfl rfl rfl ?_)
              (try simp only [Act.put, nA, nB, nC])
              refine dM hS 8 rfl rfl rfl ?_
              (try simp only [Act.put, nA, nB, nC])
              refine dP hS 9 rfl rfl ?_
              (try simp only [Act.put, nA, nB, nC])
              (refine dL1 hS 10 rfl rfl rfl rfl ?_)
              (try simp only [Act.put, nA, nB, nC])
              refine dM hS 11 rfl rfl rfl ?_
              (try simp only [Act.put, nA, nB, nC])
              refine dP hS 12 rfl rfl ?_
              (try simp only [Act.put, nA, nB, nC])
              (refine dL5 hS 13 rfl rfl rfl ?_)
              (try simp only [Act.put, nA, nB, nC])
              refine dP hS 14 rfl rfl ?_
              (try simp only [Act.put, nA, nB, nC])
              refine dP hS 15 rfl rfl ?_
              (try simp only [Act.put, nA, nB, nC])
              refine dr_one 16 (by kernel_rfl) rfl ?_
              (refine st_call rfl (by kernel_rfl) rfl ?_; go_at_call 46; refine (next_z mm hS (by (rfl)) (by omega) (by omega)).mono ?_; rintro e w ⟨rfl, hS⟩; rw [HX.out])
              (try simp only [Act.put, nA, nB, nC])
              refine dr_end hS ?_
              refine dP hS 17 rfl rfl ?_
              (try simp only [Act.put, nA, nB, nC])
              refine dr_one 18 (by kernel_rfl) rfl ?_
              (refine st_call rfl (by kernel_rfl) rfl ?_; go_at_call 85; refine (with_recv p q s ((n0 - xi : Nat) : Int) rfl (by (exact hse)) (by (rfl)) HN.out.2.1 HN.out.2.2.2 HN.out.2.2.1 hS.ri hS.ra HN.out.1.good hqlt (by omega) hoth.1 hoth.2 (by omega) (by rw [HNS.out]; omega) (by omega)).mono ?_; rintro e w' ⟨L1', k1', L3', k3', rfl, ho1, ho3, hx1⟩; have hS := hS.addRow2 ho1 ho3 (by decide) hx1)
              (try simp only [Act.put, nA, nB, nC])
              refine dr_end hS ?_
              refine dr_one 19 (by kernel_rfl) rfl ?_
              (((refine sS4 hS rfl rfl rfl ?_)); clear hS; intro w hS)
              (try simp only [Act.put, nA, nB, nC])
              refine dr_late (by kernel_rfl) ?_
              refine dr_done (by kernel_rfl) ?_
              go_wp2_with (fail)
              go_roundw
              case measure => simp [intOf]; omega
              exact ⟨i + 1, na + 1, k1', k2, k3', L1', L2, L3', (p.more q).send ⟨s, ((n0 - xi : Nat) : Int), q, nth p.len q + 1⟩, _, _, r'.tail.tail.tail.tail, by omega, by go_num, by omega, hk2, hk2', Lib.hid ⟨HN.out.1.recv (by rw [HN.out.2.1]; exact hoth.1) (by rw [HN.out.2.1]; exact hqlt) hoth.2 (by omega) (by rw [HNS.out]; omega) (by omega), (p.more_length q).trans HN.out.2.1, by simp [Pat.send, Pat.more, HN.out.2.2.1], HP.out.2.2.2⟩, hS.re⟩
        · have d1 : decide ((i : Int) < (m : Int)) = false := by simp; omega
          go_wp2_with (first | (refine oL ?_; ((refine sL2 hS rfl rfl rfl ?_))) | (refine oS ?_; (((refine sS4 hS rfl rfl rfl ?_)); clear hS; intro w hS)))
          exact st_retC hS rfl rfl rfl rfl (HRET.out (by omega) _ hS)
end Go.Proofs.Ytmjmdncdmmcmaaa

/- What small functions over slices of numbers return: SameInts, Mod, Count, page, slices.Equal. Conditions: lengths that fit an int. -/
namespace Go.Proofs.Ytmjmdncdmmcmaaa
open Go.RowKit
set_option linter.unusedVariables false

end Go.Proofs.Ytmjmdncdmmcmaaa

/- From a walk of a law (it returns true, old memory is as it was) to the given statement; how arguments that are slices of numbers read. No condition. -/
namespace Go.Proofs.Ytmjmdncdmmcmaaa
open Go.ChangeShapes Go.WideShapes Go.ChangeAt Go.RowKit
set_option linter.unusedVariables false

section
variable {H : Type} {enc : TypeId × Value → H} {P : Program}

theorem trodAll_below (hlaid : laidOutB P = true) {W W' : World} (hb : Below W.heap.size W W') : ∀ {ts : List TypeId} {vs : List Value} {ds : List (DataW H)} {ps : List MemPlace},
    (∀ t ∈ ts, P.readableRec t = true ∧ t < P.types.size) → DataW.TrodAll enc P W 0 (fun _ => true) true ts vs ds ps → (∀ x ∈ ps, x.block < W.heap.size) →
    DataW.TrodAll enc P W' 0 (fun b => decide (b < W.heap.size)) true ts vs ds ps
  | [], vs, ds, ps, _, h, _ => by
    obtain ⟨rfl, rfl, rfl⟩ := trodAll_nil h
    exact trodAll_mk0
  | t :: ts, vs, ds, ps, hr, h, hlt => by
    obtain ⟨v0, vs0, d0, ds0, p0, q0, rfl, rfl, rfl, h0, r0⟩ := trodAll_cons h
    have ht := hr t (by simp)
    exact trodAll_cons_mk (Below.trod hlaid ht.1 ht.2 h0 hb (fun x hx => hlt x (by simp [hx]))) (trodAll_below hlaid hb (fun t h => hr t (by simp [h])) r0 (fun x hx => hlt x (by simp [hx])))

theorem law_post (hlaid : laidOutB P = true) {f : Func} {s : ChangeSpec} {tb : TypeId} {W W' : World} {args : Array Value} {ds gs : List (DataW H)} {before : List MemPlace}
    (hW : DataW.Whole enc P f.params.toList s.vars false W args.toList ds gs before) (hvs : s.vars = []) (hrt : f.resultTypes = #[tb]) (hub : P.underlying tb = some .bool)
    (hread : ∀ t ∈ f.params.toList, P.readableRec t = true ∧ t < P.types.size)
    (hres : (s.fn H (ds ++ [])).results = [.lit (.bool true)]) (hargs : (s.fn H (ds ++ [])).args = ds) (hvars : (s.fn H (ds ++ [])).vars = []) (hb : Below W.heap.size W W') :
    s.post enc P f false true false false W args (.bool true) W' := by
  have hlt : ∀ p ∈ before, p.block < W.heap.size := fun p hp => hW.lt p hp
  have hW' := hW
  obtain ⟨p, q, hA, hV, rfl, hfz, hnd⟩ := hW
  rw [hvs] at hV
  obtain ⟨rfl, rfl⟩ := trodVars_none hV
  refine ⟨ds, [], p ++ [], [], p, [], hW', ?_, ?_, ?_, World.keptBut_mono (fun x hx => ⟨hx, ?_⟩) (hb.frame (· ∈ p ++ [])), fun h => by cases h⟩
  · rw [hres, hrt]; exact trodAll_cons_mk (shut_bool hub _) trodAll_mk0
  · rw [hargs]; exact trodAll_below hlaid hb hread hA (fun x hx => hlt x (by simp [hx]))
  · rw [hvars, hvs]; rfl
  · simpa using hx

theorem law_lifted {C : Checked} {os : Os} {fid : FuncId} {fn : Func} {s : ChangeSpec} {tb : TypeId} (own : ownKnob C.prog.godebug = none) (started : os.Started) (hin : C.prog.inits.idxOf? fid = none) (hfn : C.prog.funcs[fid]? = some fn)
    (hwit : ∃ (w : World) (tape : Nat → Question → Nat) (i : Input), w.os = os ∧ World.Shaped C.prog (w.forCall tape i) ∧ i.vars = [] ∧ Input.okWide C.prog (w.forCall tape i) Reach.any w.heap.size fid i ∧ ChangeSpec.pre6 enc C.prog fn s [] false (w.forCall tape i).memory i.args ∧
      ({} : Assume).holds C.prog (lone (Frame.enter C.prog fid i.args CallKind.normal) [] (w.forCall tape i)))
    (hlaid : laidOutB C.prog = true) (hvs : s.vars = []) (hrt : fn.resultTypes = #[tb]) (hub : C.prog.underlying tb = some .bool) (hread : ∀ t ∈ fn.params.toList, C.prog.readableRec t = true ∧ t < C.prog.types.size)
    (hspec : ∀ ds : List (DataW H), ds.length = fn.params.size → (s.fn H (ds ++ [])).results = [.lit (.bool true)] ∧ (s.fn H (ds ++ [])).args = ds ∧ (s.fn H (ds ++ [])).vars = [])
    (hwalk : ∀ (W : World) (base : Nat) (args : Array Value) (ds : List (DataW H)) (p : List MemPlace), (∀ (j : Nat) t v, fn.params[j]? = some t → args[j]? = some v → Value.okWide C.prog W .any base t v) →
      DataW.TrodAll enc C.prog W 0 (fun _ => true) true fn.params.toList args.toList ds p → Calls C.prog fid args W fun e W' => e = .returned (.bool true) ∧ Ext W W') :
    ReturnsInHanded {} C os fid .any (s.pre6 enc C.prog fn [] false) (s.post enc C.prog fn false true false false) := by
  refine returnsInHanded_of_change own started hin hfn hwit ?_
  intro W base args ds gs before hval hW _ _
  have hW' := hW
  obtain ⟨p, q, hA, hV, rfl, hfz, hnd⟩ := hW
  have hlen : ds.length = fn.params.size := by have := (trodAll_length hA).2; simpa using this
  obtain ⟨h1, h2, h3⟩ := hspec ds hlen
  refine (hwalk W base args ds p hval hA).mono fun e W' h => ?_
  obtain ⟨rfl, hb⟩ := h
  rw [hvs] at hV
  obtain ⟨rfl, rfl⟩ := trodVars_none hV
  exact ⟨_, rfl, law_post hlaid hW' hvs hrt hub hread h1 h2 h3 hb⟩

/-- a value that is a slice of numbers of one kind -/
theorem open_nums_cs {W : World} {t e : TypeId} {k : IntKind} {v : Value} {fuel : Nat} {x : DataW H × List MemPlace} (ht : P.underlying t = some (.slice e)) (he : P.underlying e = some (.int k)) (hc : P.cellsOf e = 1)
    (hf : DataW.trod enc P W 0 (fun _ => true) true fuel t [v] = some x) :
    ∃ A c, ∃ xs : List Int, v = .slice A xs.length c ∧ RV (fun b => b < W.heap.size) W A (xs.map (Value.int k)) ∧ xs.length ≤ c ∧ c ≤ 9223372036854775807 ∧ ∀ x ∈ xs, (Lit.int k x).wf = true := by
  rcases open_ints ht he hc hf with ⟨h1, _⟩ | ⟨a, len, cap, zs, h1, _, h3, h4, h5, _, h7, h8⟩
  · injection h1 with h1
    exact ⟨none, 0, [], h1, RV.nil_ _ _ _, by simp, by omega, by simp⟩
  · injection h1 with h1
    rw [if_pos rfl] at h5
    have hl : (zs.take len).length = len := by rw [List.length_take]; omega
    refine ⟨some a, cap, zs.take len, by rw [hl]; exact h1, ?_, by omega, by unfold maxLen at h4; omega, fun x hx => h8 x (List.mem_of_mem_take hx)⟩
    intro j u hu
    rw [List.getElem?_map] at hu
    cases hz : (zs.take len)[j]? with
    | none => rw [hz] at hu; cases hu
    | some x =>
      rw [hz] at hu
      injection hu with hu
      obtain ⟨hj, hx⟩ := List.getElem?_eq_some_iff.1 hz
      have hj' : j < zs.length := by rw [hl] at hj; omega
      have hcell := h7 j hj'
      have hget : zs.getD j 0 = x := by
        rw [← hx, List.getElem_take, List.getD_eq_getElem?_getD, List.getElem?_eq_getElem hj']; rfl
      rw [hget] at hcell
      have h0 := spot_of_cell (h7 0 (by omega))
      obtain ⟨b, o, sp⟩ := a
      have hsp : sp = none := by
        have := congrArg Addr.spot h0
        simpa [Addr.add] using this
      subst hsp
      rw [add_mk] at hcell
      exact ⟨b, o, rfl, lt_of_cell hcell, by rw [hcell, ← hu]⟩
/-- an argument that is a slice of numbers of one kind -/
theorem open_nums {W : World} {t e : TypeId} {k : IntKind} {v : Value} {d : DataW H} {p : List MemPlace} (ht : P.underlying t = some (.slice e)) (he : P.underlying e = some (.int k)) (hc : P.cellsOf e = 1)
    {r : Reach} {b0 : Nat} (hok : Value.okWide P W r b0 t v) (h : DataW.Trod enc P W 0 (fun _ => true) true t v d p) :
    ∃ A c, ∃ xs : List Int, v = .slice A xs.length c ∧ RV (fun b => b < W.heap.size) W A (xs.map (Value.int k)) ∧ xs.length ≤ c ∧ c ≤ 9223372036854775807 ∧ ∀ x ∈ xs, (Lit.int k x).wf = true := by
  have hv : v.cells = #[v] := by obtain ⟨a, l, c, rfl⟩ := okWide_slice ht hok; rfl
  obtain ⟨fuel, hf⟩ := h
  rw [hv] at hf
  exact open_nums_cs ht he hc hf
end
theorem read_of {P : Program} {ts : List TypeId} (h : ts.all (fun t => P.readableRec t && decide (t < P.types.size)) = true) : ∀ t ∈ ts, P.readableRec t = true ∧ t < P.types.size := fun t ht => by
  have h1 := List.all_eq_true.1 h t ht
  rw [Bool.and_eq_true] at h1
  exact ⟨h1.1, of_decide_eq_true h1.2⟩
theorem i64_bd {n : Int} (h : (Lit.int .i64 n).wf = true) : -9223372036854775808 ≤ n ∧ n ≤ 9223372036854775807 := by
  simpa [Lit.wf, IntKind.min, IntKind.max, IntKind.signed, IntKind.bits] using h
theorem u8_bd {n : Int} (h : (Lit.int .u8 n).wf = true) : 0 ≤ n ∧ n ≤ 255 := by
  simpa [Lit.wf, IntKind.min, IntKind.max, IntKind.signed, IntKind.bits] using h
end Go.Proofs.Ytmjmdncdmmcmaaa

/- How a law begins: choices, a pattern, a cut; small facts. No condition. -/
namespace Go.Proofs.Ytmjmdncdmmcmaaa
open Go.RowKit
set_option linter.unusedVariables false
set_option linter.unusedSimpArgs false
set_option linter.unusedSectionVars false

section
variable {w0 w : World} {M : Nat → Prop} {cs : List (Chunk w0 M)} {f : Chunk w0 M → List (Chunk w0 M)}
theorem pattern_st {g m : Nat} {z : Int} {κ : CK} {r : List Int} (h : St w0 M cs w) [hp : PickC g cs κ r f] (hz : z = m) (hm : m ≤ 50) :
    Calls Try.prog 52 #[.pointer (some ⟨g, 0, none⟩), .int .i64 z] w fun e w' => ∃ v p r' T, e = .returned (v.val p) ∧ Small p m ∧ PatAt T w' v p ∧ St w0 M (froz T w' :: f (cds g κ r')) w' := by
  subst hz
  refine (pattern_any g κ r m w (h.codes (g := g) (κ := κ) (r := r) (f := f)) hm).mono ?_
  rintro e w' ⟨v, p, r', rfl, hs, hpa, hc, hk⟩
  exact ⟨v, p, r', fun k => w.heap.size ≤ k ∧ k < w'.heap.size, rfl, hs, hpa.into (Into.subLt w' (fun k hk hl => ⟨hk, hl⟩)), h.usedAdd (r := r) hc hk (d := froz (fun k => w.heap.size ≤ k ∧ k < w'.heap.size) w') (fun k hk => ⟨hk.2, rfl⟩) (fun k hk => hk.1)⟩
end
section
variable {S T : Nat → Prop} {A1 A2 A3 X Y : Option Addr} {c1 c2 c3 c d n1 n2 n3 n m : Nat} {p : Pat} {xs ys len : List Int} {w : World}
end
end Go.Proofs.Ytmjmdncdmmcmaaa

/- Consistent cuts: fixed points, ends, greatest and least, closed under min and max. No condition. -/
namespace Go.Proofs.Ytmjmdncdmmcmaaa
set_option linter.unusedVariables false
set_option linter.unusedSimpArgs false

section
variable {p : Pat} (hg : Good p)
theorem nth_rep (n k : Nat) : nth (List.replicate n 0) k = 0 := by
  simp [nth, List.getD, List.getElem?_replicate]
  split <;> rfl
theorem valid_zero (hg : Good p) : validB p.len (List.replicate p.len.length 0) = true := valid_iff.2 ⟨by simp, fun k hk => by rw [nth_rep]; exact ⟨Int.le_refl _, hg.lo k hk⟩⟩
end
/-- x is at most y -/
def Le (n : Nat) (x y : List Int) : Prop := ∀ k, k < n → nth x k ≤ nth y k
section
variable {p : Pat} {x y z : List Int}
end
end Go.Proofs.Ytmjmdncdmmcmaaa

/- The cells of a pattern that lies in data. No condition. -/
namespace Go.Proofs.Ytmjmdncdmmcmaaa
open Go.RowKit
set_option linter.unusedVariables false
section
variable {T : Nat → Prop} {u : World} {A : Option Addr}
theorem RR.fc {ls : List (List Int)} (h : RR T u A ls) {k : Nat} (hk : k < ls.length) : ∃ b o B c, A = some ⟨b, o, none⟩ ∧ FC T u b (o + k) (.slice B (rowOf ls k).length c) ∧ RI T u B (rowOf ls k) ∧ (rowOf ls k).length ≤ c ∧ c ≤ 9223372036854775807 := by
  obtain ⟨vs, hv, hr⟩ := h
  obtain ⟨cs, hcl, ⟨B, c, rfl, hc1, hc2, hri⟩, hcs⟩ := hr.at_ hk
  have h0 := hcs 0 (by omega)
  simp only [List.getElem?_cons_zero, Nat.mul_one, Nat.add_zero] at h0
  obtain ⟨b, o, e, ht, hc⟩ := hv k _ h0
  rw [rowOf_eq hk]
  exact ⟨b, o, B, c, e, ⟨ht, hc⟩, hri, hc1, hc2⟩
end
end Go.Proofs.Ytmjmdncdmmcmaaa

/- append onto a slice without spare room: a new row. No condition. -/
namespace Go.Proofs.Ytmjmdncdmmcmaaa
open Go.RowKit
set_option linter.unusedVariables false
set_option linter.unusedSectionVars false

theorem run_app_full {P : Program} {t e : TypeId} {size bytes : Nat} (hT : ElemTy P t e size bytes) (w : World) (ty : TypeId) {S S' : Nat → Prop} (A : Option Addr) (n : Nat) (xs : List Value) (hlx : xs.length = n * size) (hx : RV S w A xs)
    (a : Addr) (m c : Nat) (news : List Value) (hl : news.length = m * size) (hr : RV S' w (some a) news) (hm : 0 < m) (hb : (n + m) * bytes ≤ 140737488355328) (hA : A = none → n = 0) :
    ∃ L c' w', (Builtin.append_ #[t, t] ty #[.slice A n n, .slice (some a) m c]).run P w = .ok (.slice L (n + m) c') w' ∧ w'.ownsRow w.heap.size e size (.slice L (n + m) c') (n + m) (xs ++ news) ∧ Ext w w' := by
  obtain ⟨i, z, hi, hz, hs, hby, hzs⟩ := hT.hi
  have h63 : n + m ≤ maxLen := by
    have : n + m ≤ (n + m) * bytes := Nat.le_mul_of_pos_right _ hT.hby
    unfold maxLen; omega
  have hsmall : n + m ≤ 9223372036854775807 := by simp only [maxLen] at h63; omega
  have hc : ∀ {B : Addr} {S : Nat → Prop} {us : List Value}, RV S w (some B) us → ∀ j u, us[j]? = some u → w.cell? (B.add j) = some u := fun h j u hu => by
    obtain ⟨b, o, e, _, hc⟩ := h j u hu
    injection e with e; subst e; rw [add_mk]; exact hc
  subst hs
  subst hby
  have hlen : (xs ++ news).length = (n + m) * i.size := by rw [List.length_append, hlx, hl, Nat.add_mul]
  have grown : ∀ (old : Nat), old < n + m →
      (w.drew.alloc (.cells (xs.toArray ++ news.toArray ++ Builtin.zeroCells z.cells (grownCap w (n + m) old e - (n + m))) e)).ownsRow w.heap.size e i.size
        (.slice (some ⟨w.heap.size, 0, none⟩) (n + m) (grownCap w (n + m) old e)) (n + m) (xs ++ news) ∧
      Ext w (w.drew.alloc (.cells (xs.toArray ++ news.toArray ++ Builtin.zeroCells z.cells (grownCap w (n + m) old e - (n + m))) e)) := by
    intro old ho
    have hge := grownCap_ge w (n + m) old e
    have hcm : grownCap w (n + m) old e ≤ maxLen := grownCap_le_maxLen w (n + m) old e h63
    refine ⟨⟨hlen, .inr ⟨w.heap.size, _, _, rfl, Nat.le_refl _, heap_new w.drew _, hge, hcm, ?_, ?_⟩⟩, (Ext.refl' w).drew'.alloc' _⟩
    · simp only [Array.size_append, List.size_toArray, size_zeroCells, hzs, hlx, hl, ← Nat.add_mul]
      congr 1
      omega
    · simp only [Array.toList_append, List.append_assoc]
      rw [← List.append_assoc, ← hlen]
      exact List.take_left
  cases A with
  | none =>
    have h0 := hA rfl
    subst h0
    have hx0 : xs = [] := List.eq_nil_of_length_eq_zero (by simpa using hlx)
    subst hx0
    have hr' := run_append_nil (P := P) w t ty e i z hT.ht hi hz a m c news hl (hc hr) hm (by omega) (by simp only [Nat.zero_add] at hb; omega)
    have hgr := grown 0 (by omega)
    simp only [Nat.zero_add, List.nil_append, Array.empty_append] at hgr ⊢
    exact ⟨_, _, _, hr', hgr.1, hgr.2⟩
  | some b =>
    have hr' := run_append_grow (P := P) w t ty e i z hT.ht hi hz b n n xs hlx (hc hx) a m c news hl (hc hr) (by omega) (by omega) (growslice_fits (by omega) hb)
    have hgr := grown n (by omega)
    exact ⟨_, _, _, hr', hgr.1, hgr.2⟩
section
variable {P : Program} {ops : Array Oper} {Q : Exit → Act → World → Prop} {a : Act} {w w0 : World} {M : Nat → Prop} {cs ds : List (Chunk w0 M)} {f : Chunk w0 M → List (Chunk w0 M)} {rest : List Oper} {d : Option Tmp} {tt ty t e : TypeId} {pos : String} {af : Array Edge} {gd : Option (Nat × Bool)} {x y : Operand}
/-- append of what was just laid out onto a full slice -/
theorem st_appF {sz bytes n m c g : Nat} {A : Option Addr} [hT : ElemC P t e sz bytes] (hS : St w0 M cs w) (hw : Region.wanted ⟨d, .call { callee := .builtin .append, args := #[x, y], argTypes := #[t, t] }, tt, pos, af, gd⟩ (yielded ops a.tmps) = true)
    (hx' : oval a x = some (.slice A n n)) (hy' : oval a y = some (.slice (some ⟨g, 0, none⟩) m c)) {news xs : List Value} {t' : TypeId} {S : Nat → Prop} [hd : DropB g cs news t' ds] (hr : RV S w A xs) (hlx : xs.length = n * sz) (hl : news.length = m * sz) (hm : 0 < m) (hA : A = none → n = 0) (hb : (n + m) * bytes ≤ 140737488355328)
    (k : ∀ L c' w', n + m ≤ c' → c' ≤ 9223372036854775807 → St w0 M (row (.slice L (n + m) c') e sz (n + m) (xs ++ news) :: ds) w' → wpList P ops Q rest (a.put d (.slice L (n + m) c')) w') :
    wpList P ops Q (⟨d, .call { callee := .builtin .append, args := #[x, y], argTypes := #[t, t] }, tt, pos, af, gd⟩ :: rest) a w := by
  obtain ⟨L, c', w', hrun, ho, hE⟩ := run_app_full hT.h w tt A n xs hlx hr ⟨g, 0, none⟩ m c news hl (RV.ofBlk (hS.all _ hd.mem : w.heap[g]? = _)) hm hb hA
  obtain ⟨L', c'', hv, hc1, hc2⟩ := own_form ho
  injection hv with _ _ hv
  subst hv
  refine st_run hw (v := .slice L (n + m) c') (w' := w') ?_ (k L c' w' hc1 hc2 ((hS.sub hd.sub).addRow ho hE))
  simp only [execOp, resolve, invoke, builtin, Sem.run_bind, Sem.run_pure, Result.andThen_ok, List.map_toArray, List.map_cons, List.map_nil, oval_eval hx', oval_eval hy', hrun]
/-- one number onto a full slice of numbers -/
theorem st_appFI {bytes n c g : Nat} {A : Option Addr} {xs : List Int} {z : Int} [hT : ElemC P t e 1 bytes] (hS : St w0 M cs w) (hw : Region.wanted ⟨d, .call { callee := .builtin .append, args := #[x, y], argTypes := #[t, t] }, tt, pos, af, gd⟩ (yielded ops a.tmps) = true)
    (hx' : oval a x = some (.slice A n n)) (hy' : oval a y = some (.slice (some ⟨g, 0, none⟩) 1 c)) {t' : TypeId} {S : Nat → Prop} [hd : DropB g cs [.int .i64 z] t' ds] (hr : RI S w A xs) (hlx : xs.length = n) (hA : A = none → n = 0) (hb : (n + 1) * bytes ≤ 140737488355328)
    (k : ∀ L c' w', n + 1 ≤ c' → c' ≤ 9223372036854775807 → St w0 M (irow e L c' (xs ++ [z]) :: ds) w' → wpList P ops Q rest (a.put d (.slice L (xs ++ [z]).length c')) w') :
    wpList P ops Q (⟨d, .call { callee := .builtin .append, args := #[x, y], argTypes := #[t, t] }, tt, pos, af, gd⟩ :: rest) a w := by
  subst hlx
  refine st_appF hS hw hx' hy' hr (by simp) (by simp) (by omega) hA hb ?_
  intro L c' w' h1 h2 h3
  have := k L c' w' h1 h2
  rw [List.length_append] at this
  rw [row_snoc] at h3
  exact this h3
end
theorem RV.none_len {S : Nat → Prop} {w : World} {vs : List Value} (h : RV S w none vs) : vs = [] := by
  cases vs with
  | nil => rfl
  | cons u r => obtain ⟨b, o, e, _⟩ := h 0 u rfl; cases e
set_option maxHeartbeats 800000 in
theorem clipI_any (A : Option Addr) (n c : Nat) (w0 : World) (hc : n ≤ c) (hc' : c ≤ 9223372036854775807) (hA : A = none → n = 0) :
    Calls Try.prog 102 #[.slice A n c] w0 fun e w' => e = .returned (.slice A n n) ∧ Ext w0 w' := by
  have hS := St.start w0 NoM
  cases A with
  | none =>
    have h0 := hA rfl
    subst h0
    go_enter Try.func102, Try.ntmps102
    go_wp2_with (fail)
    go_ret
    exact ⟨rfl, hS.toExt⟩
  | some a =>
    clear hA
    go_enter Try.func102, Try.ntmps102
    go_wp2_with (fail)
    go_ret
    exact ⟨by simp, hS.toExt⟩
end Go.Proofs.Ytmjmdncdmmcmaaa

/- pattern.Append, of the program and of the reference: what it adds, or that it refuses. Conditions: the pattern is good and lies in memory. -/
namespace Go.Proofs.Ytmjmdncdmmcmaaa
open Go.RowKit
set_option linter.unusedVariables false
set_option linter.unusedSimpArgs false

def RetP (S : Nat → Prop) (w : World) (p : Pat) (e : Ending) (w' : World) : Prop :=
  ∃ v : PV, e = .returned (v.val p) ∧ PatAt (fun k => S k ∨ w.heap.size ≤ k) w' v p ∧ Ext w w'
section
variable {S : Nat → Prop} {w w' : World} {p : Pat} {A1 A2 A3 : Option Addr} {c1 c2 c3 n1 n2 n3 : Nat}
theorem PatAt.mk' (e1 : p.len.length = n1) (e2 : p.ck.length = n2) (e3 : p.arcs.length = n3) (r1 : RI S w' A1 p.len) (r2 : RR S w' A2 p.ck) (r3 : RA S w' A3 p.arcs) (b1 : capOk n1 c1) (b2 : capOk n2 c2) (b3 : capOk n3 c3) : PatAt S w' ⟨A1, c1, A2, c2, A3, c3⟩ p := by
  subst e1 e2 e3; exact ⟨r1, r2, r3, b1.1, b1.2, b2.1, b2.2, b3.1, b3.2⟩
theorem RetP.mk (e1 : p.len.length = n1) (e2 : p.ck.length = n2) (e3 : p.arcs.length = n3) (r1 : RI (Orn S w) w' A1 p.len) (r2 : RR (Orn S w) w' A2 p.ck) (r3 : RA (Orn S w) w' A3 p.arcs) (b1 : capOk n1 c1) (b2 : capOk n2 c2) (b3 : capOk n3 c3) (h : Ext w w') :
    RetP S w p (.returned (.agg #[.slice A1 n1 c1, .slice A2 n2 c2, .slice A3 n3 c3])) w' := by
  have := PatAt.mk' e1 e2 e3 r1 r2 r3 b1 b2 b3
  subst e1 e2 e3; exact ⟨⟨A1, c1, A2, c2, A3, c3⟩, rfl, this, h⟩
end
end Go.Proofs.Ytmjmdncdmmcmaaa

/- Rows of a call as data. No condition. -/
namespace Go.Proofs.Ytmjmdncdmmcmaaa
open Go.RowKit
set_option linter.unusedVariables false
set_option linter.unusedSimpArgs false
set_option linter.unusedSectionVars false

section
variable {w0 w u : World} {M T : Nat → Prop} {cs : List (Chunk w0 M)} {f : Chunk w0 M → List (Chunk w0 M)}
end
section
variable {w0 w u u' : World} {M T N : Nat → Prop} {cs : List (Chunk w0 M)} {f1 f2 : Chunk w0 M → List (Chunk w0 M)}
end
end Go.Proofs.Ytmjmdncdmmcmaaa

