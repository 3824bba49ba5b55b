/- pattern.Append, of the program and of the reference: what it adds, or that it refuses. Conditions: the pattern is good and lies in memory. -/
import Derived.Test.YtkflmichekpfbaaAppF
import Derived.Test.YtkflmichekpfbaaFrozPat
import Derived.Test.YtkflmichekpfbaaCutC
namespace Go.Proofs.Ytkflmichekpfbaa
open Go.RowKit
set_option linter.unusedVariables false
set_option linter.unusedSimpArgs false

/-- may an event be added -/
abbrev appOk (p : Pat) (q fr se : Int) : Prop := (0 ≤ q ∧ q < p.len.length) ∧ nth p.len q.toNat < 64 ∧ (fr = -1 ∨ ((0 ≤ fr ∧ fr < p.len.length) ∧ fr ≠ q ∧ 0 ≤ se ∧ se ≤ nth p.len fr.toNat ∧ p.arcs.length < 256))
def appPat (p : Pat) (q fr se : Int) : Pat := if fr = -1 then p.more q.toNat else (p.more q.toNat).send ⟨fr.toNat, se, q.toNat, nth p.len q.toNat + 1⟩
/-- a pattern, old data beside new one, and a truth value -/
def RetPB (S : Nat → Prop) (w : World) (p : Pat) (b : Bool) (e : Ending) (w' : World) : Prop :=
  ∃ v : PV, e = .returned (.tuple #[v.val p, .bool b]) ∧ PatAt (fun k => S k ∨ w.heap.size ≤ k) w' v p ∧ Ext w w'
def RetP (S : Nat → Prop) (w : World) (p : Pat) (e : Ending) (w' : World) : Prop :=
  ∃ v : PV, e = .returned (v.val p) ∧ PatAt (fun k => S k ∨ w.heap.size ≤ k) w' v p ∧ Ext w w'
def noPat : Pat := ⟨[], [], []⟩
theorem noPat_at (S : Nat → Prop) (w : World) : PatAt S w ⟨none, 0, none, 0, none, 0⟩ noPat :=
  ⟨RI.nil_ _ _ _, RL.nil_ _ _ _ _ _, RL.nil_ _ _ _ _ _, by simp [noPat], by simp, by simp [noPat], by simp, by simp [noPat], by simp⟩
theorem RetPB.no {S : Nat → Prop} {w w' : World} (h : Ext w w') : RetPB S w noPat false (.returned (.tuple #[.agg #[.slice none 0 0, .slice none 0 0, .slice none 0 0], .bool false])) w' :=
  ⟨⟨none, 0, none, 0, none, 0⟩, rfl, noPat_at _ _, h⟩
theorem Into.orNew {S : Nat → Prop} {w w' : World} (h : Ext w w') : Into S (fun k => S k ∨ w.heap.size ≤ k) w w' := fun k hs hk => ⟨.inl hs, h.block k hk⟩
abbrev Orn (S : Nat → Prop) (w : World) : Nat → Prop := fun k => S k ∨ w.heap.size ≤ k
abbrev capOk (n c : Nat) : Prop := n ≤ c ∧ c ≤ 9223372036854775807
section
variable {S : Nat → Prop} {w w' : World} {p : Pat} {A1 A2 A3 : Option Addr} {c1 c2 c3 n1 n2 n3 : Nat}
theorem PatAt.mk' (e1 : p.len.length = n1) (e2 : p.ck.length = n2) (e3 : p.arcs.length = n3) (r1 : RI S w' A1 p.len) (r2 : RR S w' A2 p.ck) (r3 : RA S w' A3 p.arcs) (b1 : capOk n1 c1) (b2 : capOk n2 c2) (b3 : capOk n3 c3) : PatAt S w' ⟨A1, c1, A2, c2, A3, c3⟩ p := by
  subst e1 e2 e3; exact ⟨r1, r2, r3, b1.1, b1.2, b2.1, b2.2, b3.1, b3.2⟩
theorem RetPB.mk (e1 : p.len.length = n1) (e2 : p.ck.length = n2) (e3 : p.arcs.length = n3) (r1 : RI (Orn S w) w' A1 p.len) (r2 : RR (Orn S w) w' A2 p.ck) (r3 : RA (Orn S w) w' A3 p.arcs) (b1 : capOk n1 c1) (b2 : capOk n2 c2) (b3 : capOk n3 c3) (h : Ext w w') :
    RetPB S w p true (.returned (.tuple #[.agg #[.slice A1 n1 c1, .slice A2 n2 c2, .slice A3 n3 c3], .bool true])) w' := by
  have := PatAt.mk' e1 e2 e3 r1 r2 r3 b1 b2 b3
  subst e1 e2 e3; exact ⟨⟨A1, c1, A2, c2, A3, c3⟩, rfl, this, h⟩
theorem RetP.mk (e1 : p.len.length = n1) (e2 : p.ck.length = n2) (e3 : p.arcs.length = n3) (r1 : RI (Orn S w) w' A1 p.len) (r2 : RR (Orn S w) w' A2 p.ck) (r3 : RA (Orn S w) w' A3 p.arcs) (b1 : capOk n1 c1) (b2 : capOk n2 c2) (b3 : capOk n3 c3) (h : Ext w w') :
    RetP S w p (.returned (.agg #[.slice A1 n1 c1, .slice A2 n2 c2, .slice A3 n3 c3])) w' := by
  have := PatAt.mk' e1 e2 e3 r1 r2 r3 b1 b2 b3
  subst e1 e2 e3; exact ⟨⟨A1, c1, A2, c2, A3, c3⟩, rfl, this, h⟩
end
theorem PatAt.b2 {S : Nat → Prop} {w : World} {v : PV} {p : Pat} (h : PatAt S w v p) : capOk p.ck.length v.c2 := ⟨h.l2, h.m2⟩
/-- what Append returns -/
def appRes (p : Pat) (q fr se : Int) : Pat × Bool := if appOk p q fr se then (appPat p q fr se, true) else (noPat, false)
theorem appRes_no {p : Pat} {q fr se : Int} (h : ¬ appOk p q fr se) : appRes p q fr se = (noPat, false) := if_neg h
theorem appRes_ok {p : Pat} {q fr se : Int} (h : appOk p q fr se) : appRes p q fr se = (appPat p q fr se, true) := if_pos h
theorem St.rvNew {w0 w : World} {cs : List (Chunk w0 NoM)} {f : Chunk w0 NoM → List (Chunk w0 NoM)} {e : TypeId} {A : Option Addr} {k c n sz : Nat} {vs : List Value} {S : Nat → Prop} (h : St w0 NoM cs w) [hp : PickL A cs k c e sz n vs f] : RV (Orn S w0) w A vs := by
  have h' : St w0 NoM (f (row (.slice A k c) e sz n vs)) w := hp.eq ▸ h
  obtain ⟨l, r, he⟩ := hp.gap.ex
  rw [he] at h'
  have ho := own_rebase (base := w0.heap.size) h'.mem (fun k' hk => (h'.new (row (.slice A k c) e sz n vs) (by simp) k' hk).resolve_right id)
  obtain ⟨A', c', hv, _⟩ := own_form ho
  injection hv with h1 h2 h3
  subst h2
  exact (RV.ofOwn ho).sub (fun b hb => .inr hb)
theorem St.riNew {w0 w : World} {cs : List (Chunk w0 NoM)} {f : Chunk w0 NoM → List (Chunk w0 NoM)} {e : TypeId} {A : Option Addr} {k c n : Nat} {xs : List Int} {S : Nat → Prop} (h : St w0 NoM cs w) [hp : PickL A cs k c e 1 n (ints xs) f] : RI (Orn S w0) w A xs := h.rvNew (hp := hp)
theorem St.raNew {w0 w : World} {cs : List (Chunk w0 NoM)} {f : Chunk w0 NoM → List (Chunk w0 NoM)} {e : TypeId} {A : Option Addr} {k c n : Nat} {az : List Arc} {S : Nat → Prop} (h : St w0 NoM cs w) [hp : PickL A cs k c e 4 n (az.flatMap arcCells) f] : RA (Orn S w0) w A az := ⟨_, h.rvNew (hp := hp), reps_arcs w az⟩

end Go.Proofs.Ytkflmichekpfbaa
