/- pattern.Append, of the program and of the reference: what it adds, or that it refuses. Conditions: the pattern is good and lies in memory. -/
import Derived.Test.YtjclgbkfnliiaaaAppF
import Derived.Test.YtjclgbkfnliiaaaFrozPat
import Derived.Test.YtjclgbkfnliiaaaCutC
namespace Go.Proofs.Ytjclgbkfnliiaaa
open Go.RowKit
set_option linter.unusedVariables false
set_option linter.unusedSimpArgs false

/-- may an event be added -/
abbrev appOk (p : Pat) (q fr se : Int) : Prop := (0 ≤ q ∧ q < p.len.length) ∧ nth p.len q.toNat < 64 ∧ (fr = -1 ∨ ((0 ≤ fr ∧ fr < p.len.length) ∧ fr ≠ q ∧ 0 ≤ se ∧ se ≤ nth p.len fr.toNat ∧ p.arcs.length < 256))
def appPat (p : Pat) (q fr se : Int) : Pat := if fr = -1 then p.more q.toNat else (p.more q.toNat).send ⟨fr.toNat, se, q.toNat, nth p.len q.toNat + 1⟩
/-- a pattern, old data beside new one, and a truth value -/
def RetPB (S : Nat → Prop) (w : World) (p : Pat) (b : Bool) (e : Ending) (w' : World) : Prop :=
  ∃ v : PV, e = .returned (.tuple #[v.val p, .bool b]) ∧ PatAt (fun k => S k ∨ w.heap.size ≤ k) w' v p ∧ Ext w w'
def RetP (S : Nat → Prop) (w : World) (p : Pat) (e : Ending) (w' : World) : Prop :=
  ∃ v : PV, e = .returned (v.val p) ∧ PatAt (fun k => S k ∨ w.heap.size ≤ k) w' v p ∧ Ext w w'
def noPat : Pat := ⟨[], [], []⟩
theorem noPat_at (S : Nat → Prop) (w : World) : PatAt S w ⟨none, 0, none, 0, none, 0⟩ noPat :=
  ⟨RI.nil_ _ _ _, RL.nil_ _ _ _ _ _, RL.nil_ _ _ _ _ _, by simp [noPat], by simp, by simp [noPat], by simp, by simp [noPat], by simp⟩
theorem RetPB.no {S : Nat → Prop} {w w' : World} (h : Ext w w') : RetPB S w noPat false (.returned (.tuple #[.agg #[.slice none 0 0, .slice none 0 0, .slice none 0 0], .bool false])) w' :=
  ⟨⟨none, 0, none, 0, none, 0⟩, rfl, noPat_at _ _, h⟩
theorem Into.orNew {S : Nat → Prop} {w w' : World} (h : Ext w w') : Into S (fun k => S k ∨ w.heap.size ≤ k) w w' := fun k hs hk => ⟨.inl hs, h.block k hk⟩
abbrev Orn (S : Nat → Prop) (w : World) : Nat → Prop := fun k => S k ∨ w.heap.size ≤ k
abbrev capOk (n c : Nat) : Prop := n ≤ c ∧ c ≤ 9223372036854775807
section
variable {S : Nat → Prop} {w w' : World} {p : Pat} {A1 A2 A3 : Option Addr} {c1 c2 c3 n1 n2 n3 : Nat}
theorem PatAt.mk' (e1 : p.len.length = n1) (e2 : p.ck.length = n2) (e3 : p.arcs.length = n3) (r1 : RI S w' A1 p.len) (r2 : RR S w' A2 p.ck) (r3 : RA S w' A3 p.arcs) (b1 : capOk n1 c1) (b2 : capOk n2 c2) (b3 : capOk n3 c3) : PatAt S w' ⟨A1, c1, A2, c2, A3, c3⟩ p := by
  subst e1 e2 e3; exact ⟨r1, r2, r3, b1.1, b1.2, b2.1, b2.2, b3.1, b3.2⟩
theorem RetPB.mk (e1 : p.len.length = n1) (e2 : p.ck.length = n2) (e3 : p.arcs.length = n3) (r1 : RI (Orn S w) w' A1 p.len) (r2 : RR (Orn S w) w' A2 p.ck) (r3 : RA (Orn S w) w' A3 p.arcs) (b1 : capOk n1 c1) (b2 : capOk n2 c2) (b3 : capOk n3 c3) (h : Ext w w') :
    RetPB S w p true (.returned (.tuple #[.agg #[.slice A1 n1 c1, .slice A2 n2 c2, .slice A3 n3 c3], .bool true])) w' := by
  have := PatAt.mk' e1 e2 e3 r1 r2 r3 b1 b2 b3
  subst e1 e2 e3; exact ⟨⟨A1, c1, A2, c2, A3, c3⟩, rfl, this, h⟩
theorem RetP.mk (e1 : p.len.length = n1) (e2 : p.ck.length = n2) (e3 : p.arcs.length = n3) (r1 : RI (Orn S w) w' A1 p.len) (r2 : RR (Orn S w) w' A2 p.ck) (r3 : RA (Orn S w) w' A3 p.arcs) (b1 : capOk n1 c1) (b2 : capOk n2 c2) (b3 : capOk n3 c3) (h : Ext w w') :
    RetP S w p (.returned (.agg #[.slice A1 n1 c1, .slice A2 n2 c2, .slice A3 n3 c3])) w' := by
  have := PatAt.mk' e1 e2 e3 r1 r2 r3 b1 b2 b3
  subst e1 e2 e3; exact ⟨⟨A1, c1, A2, c2, A3, c3⟩, rfl, this, h⟩
end
theorem PatAt.b2 {S : Nat → Prop} {w : World} {v : PV} {p : Pat} (h : PatAt S w v p) : capOk p.ck.length v.c2 := ⟨h.l2, h.m2⟩
/-- what Append returns -/
def appRes (p : Pat) (q fr se : Int) : Pat × Bool := if appOk p q fr se then (appPat p q fr se, true) else (noPat, false)
theorem appRes_no {p : Pat} {q fr se : Int} (h : ¬ appOk p q fr se) : appRes p q fr se = (noPat, false) := if_neg h
theorem appRes_ok {p : Pat} {q fr se : Int} (h : appOk p q fr se) : appRes p q fr se = (appPat p q fr se, true) := if_pos h
theorem St.rvNew {w0 w : World} {cs : List (Chunk w0 NoM)} {f : Chunk w0 NoM → List (Chunk w0 NoM)} {e : TypeId} {A : Option Addr} {k c n sz : Nat} {vs : List Value} {S : Nat → Prop} (h : St w0 NoM cs w) [hp : PickL A cs k c e sz n vs f] : RV (Orn S w0) w A vs := by
  have h' : St w0 NoM (f (row (.slice A k c) e sz n vs)) w := hp.eq ▸ h
  obtain ⟨l, r, he⟩ := hp.gap.ex
  rw [he] at h'
  have ho := own_rebase (base := w0.heap.size) h'.mem (fun k' hk => (h'.new (row (.slice A k c) e sz n vs) (by simp) k' hk).resolve_right id)
  obtain ⟨A', c', hv, _⟩ := own_form ho
  injection hv with h1 h2 h3
  subst h2
  exact (RV.ofOwn ho).sub (fun b hb => .inr hb)
theorem St.riNew {w0 w : World} {cs : List (Chunk w0 NoM)} {f : Chunk w0 NoM → List (Chunk w0 NoM)} {e : TypeId} {A : Option Addr} {k c n : Nat} {xs : List Int} {S : Nat → Prop} (h : St w0 NoM cs w) [hp : PickL A cs k c e 1 n (ints xs) f] : RI (Orn S w0) w A xs := h.rvNew (hp := hp)
theorem St.raNew {w0 w : World} {cs : List (Chunk w0 NoM)} {f : Chunk w0 NoM → List (Chunk w0 NoM)} {e : TypeId} {A : Option Addr} {k c n : Nat} {az : List Arc} {S : Nat → Prop} (h : St w0 NoM cs w) [hp : PickL A cs k c e 4 n (az.flatMap arcCells) f] : RA (Orn S w0) w A az := ⟨_, h.rvNew (hp := hp), reps_arcs w az⟩

set_option maxRecDepth 100000 in
set_option maxHeartbeats 1600000 in
theorem append_any {S : Nat → Prop} (v : PV) (p : Pat) (q fr se : Int) (w0 : World) (hp : PatAt S w0 v p) (hg : Good p) :
    Calls Try.prog 20 #[v.val p, .int .i64 q, .int .i64 fr, .int .i64 se] w0 (RetPB S w0 (appRes p q fr se).1 (appRes p q fr se).2) := by
  have hS := St.start w0 NoM
  have hn5 := hg.n5
  have hfew := hg.few
  have HP := Lib.hid (And.intro hp hg)
  have h1 := hp.len
  have h3 := hp.arcs
  have hl3 := hp.l3
  have hm3 := hp.m3
  have hl1 := hp.l1
  have hm1 := hp.m1
  clear hp hg
  obtain ⟨A1, c1, A2, c2, A3, c3⟩ := v
  simp only [PV.val] at *
  by_cases hq : 0 ≤ q ∧ q < p.len.length
  rotate_left
  · rw [appRes_no (fun h => hq h.1)]
    have dq : decide (0 ≤ q ∧ q < (p.len.length : Int)) = false := decide_eq_false hq
    go_enter Try.func20, Try.ntmps20
    go_wp2_with (first | (go_at_call 57; refine (process_any _ _ _ _ _ _ _ _ _ _ _).mono ?_; rintro e w ⟨rfl, hx1⟩; replace hS := hS.ext hx1; first | rw [dq] | rw [df]) | (refine oL ?_; (first | refine sL1 hS rfl rfl rfl ?_ | refine sL2 hS rfl rfl rfl ?_ | refine sL3 hS rfl rfl ?_ | refine sL4 hS rfl rfl ?_ | refine sL5 hS rfl rfl ?_ | refine sL6 hS rfl rfl ?_ | refine sL7 hS rfl rfl ?_)) | (refine oS ?_; ((first | refine sS1 hS rfl rfl rfl ?_ | refine sS2 hS rfl rfl rfl ?_ | refine sS3 hS rfl rfl rfl ?_ | refine sS4 hS rfl rfl rfl ?_ | refine sS5 hS rfl rfl rfl ?_); clear hS; intro w hS)) | ((first | (refine oB ?_; first | refine sB1 hS rfl rfl ?_ | refine sB2 hS rfl rfl ?_) | refine sN1 hS rfl ?_); clear hS; first | ((fail_if_success guard_hyp g1); intro g1 w hS) | ((fail_if_success guard_hyp g2); intro g2 w hS) | ((fail_if_success guard_hyp g3); intro g3 w hS) | ((fail_if_success guard_hyp g4); intro g4 w hS) | ((fail_if_success guard_hyp g5); intro g5 w hS) | fail) | fail)
    exact st_retCT hS rfl rfl rfl rfl rfl (RetPB.no hS.toExt)
  obtain ⟨k, rfl⟩ : ∃ k : Nat, q = k := ⟨q.toNat, by omega⟩
  have dq : decide (0 ≤ (k : Int) ∧ (k : Int) < (p.len.length : Int)) = true := decide_eq_true hq
  have hk : k < p.len.length := by omega
  have hk' : (k : Int) < p.len.length := by omega
  obtain ⟨b1, o1, rfl, _, hca⟩ := h1.atNS hk
  have HQ := Lib.hid hq
  clear hq
  have hlo := HP.out.2.lo k hk
  have hhi := HP.out.2.hi k hk
  by_cases h64 : nth p.len k < 64
  rotate_left
  · rw [appRes_no (fun h => h64 h.2.1)]
    generalize hx : nth p.len k = x at *
    go_enter Try.func20, Try.ntmps20
    go_wp2_with (first | (go_at_call 57; refine (process_any _ _ _ _ _ _ _ _ _ _ _).mono ?_; rintro e w ⟨rfl, hx1⟩; replace hS := hS.ext hx1; first | rw [dq] | rw [df]) | (refine oL ?_; (first | refine sL1 hS rfl rfl rfl ?_ | refine sL2 hS rfl rfl rfl ?_ | refine sL3 hS rfl rfl ?_ | refine sL4 hS rfl rfl ?_ | refine sL5 hS rfl rfl ?_ | refine sL6 hS rfl rfl ?_ | refine sL7 hS rfl rfl ?_)) | (refine oS ?_; ((first | refine sS1 hS rfl rfl rfl ?_ | refine sS2 hS rfl rfl rfl ?_ | refine sS3 hS rfl rfl rfl ?_ | refine sS4 hS rfl rfl rfl ?_ | refine sS5 hS rfl rfl rfl ?_); clear hS; intro w hS)) | ((first | (refine oB ?_; first | refine sB1 hS rfl rfl ?_ | refine sB2 hS rfl rfl ?_) | refine sN1 hS rfl ?_); clear hS; first | ((fail_if_success guard_hyp g1); intro g1 w hS) | ((fail_if_success guard_hyp g2); intro g2 w hS) | ((fail_if_success guard_hyp g3); intro g3 w hS) | ((fail_if_success guard_hyp g4); intro g4 w hS) | ((fail_if_success guard_hyp g5); intro g5 w hS) | fail) | fail)
    exact st_retCT hS rfl rfl rfl rfl rfl (RetPB.no hS.toExt)
  by_cases hfr : fr = -1
  · subst hfr
    rw [appRes_ok ⟨HQ.out, h64, .inl rfl⟩]
    have HPP := Lib.hid (show appPat p (k : Int) (-1) se = p.more k by simp [appPat])
    generalize appPat p (k : Int) (-1) se = p' at *
    have HM := Lib.hid (show p.len.set k (nth p.len k + 1) = (p.more k).len from rfl)
    have hcell : (ints p.len)[k]? = some (.int .i64 (nth p.len k)) := by rw [ints_get hk, nth_eq hk]
    generalize hx : nth p.len k = x at *
    go_enter Try.func20, Try.ntmps20
    go_wp2_with (first | (go_at_call 57; refine (process_any _ _ _ _ _ _ _ _ _ _ _).mono ?_; rintro e w ⟨rfl, hx1⟩; replace hS := hS.ext hx1; first | rw [dq] | rw [df]) | (go_at_call 58; refine (clone_any _ _ p.len _ (h1.ext hS.toExt) (by omega)).mono ?_; rintro e w ⟨L, cl, rfl, ho, hx1⟩; replace hS := hS.addRow ho hx1; have hrf := hS.rowForm L; obtain ⟨g, rfl⟩ := hS.rowSome L (by omega)) | (refine oL ?_; (first | refine sL1 hS rfl rfl rfl ?_ | refine sL2 hS rfl rfl rfl ?_ | refine sL3 hS rfl rfl ?_ | refine sL4 hS rfl rfl ?_ | refine sL5 hS rfl rfl ?_ | refine sL6 hS rfl rfl ?_ | refine sL7 hS rfl rfl ?_)) | (refine oS ?_; ((first | refine sS1 hS rfl rfl rfl ?_ | refine sS2 hS rfl rfl rfl ?_ | refine sS3 hS rfl rfl rfl ?_ | refine sS4 hS rfl rfl rfl ?_ | refine sS5 hS rfl rfl rfl ?_); clear hS; intro w hS)) | ((first | (refine oB ?_; first | refine sB1 hS rfl rfl ?_ | refine sB2 hS rfl rfl ?_) | refine sN1 hS rfl ?_); clear hS; first | ((fail_if_success guard_hyp g1); intro g1 w hS) | ((fail_if_success guard_hyp g2); intro g2 w hS) | ((fail_if_success guard_hyp g3); intro g3 w hS) | ((fail_if_success guard_hyp g4); intro g4 w hS) | ((fail_if_success guard_hyp g5); intro g5 w hS) | fail) | fail)
    refine st_retCT hS rfl rfl rfl rfl rfl ?_
    refine RetPB.mk (p := p') (by rw [HPP.out]; simp [Pat.more]) (by rw [HPP.out]; rfl) (by rw [HPP.out]; rfl) ?_ ?_ ?_ (by omega) HP.out.1.b2 ⟨hl3, hm3⟩ hS.toExt
    · rw [HPP.out, ← HM.out]; exact hS.riNew
    · rw [HPP.out]; exact HP.out.1.ck.into (Into.orNew hS.toExt)
    · rw [HPP.out]; exact h3.into (Into.orNew hS.toExt)
  have HF := Lib.hid hfr
  have hfr' : (fr != -1) = true := by simpa using hfr
  clear hfr
  by_cases hf : 0 ≤ fr ∧ fr < p.len.length
  rotate_left
  · rw [appRes_no (fun h => h.2.2.elim HF.out (fun h => hf h.1))]
    have df : decide (0 ≤ fr ∧ fr < (p.len.length : Int)) = false := decide_eq_false hf
    generalize hx : nth p.len k = x at *
    go_enter Try.func20, Try.ntmps20
    go_wp2_with (first | (go_at_call 57; refine (process_any _ _ _ _ _ _ _ _ _ _ _).mono ?_; rintro e w ⟨rfl, hx1⟩; replace hS := hS.ext hx1; first | rw [dq] | rw [df]) | (refine oL ?_; (first | refine sL1 hS rfl rfl rfl ?_ | refine sL2 hS rfl rfl rfl ?_ | refine sL3 hS rfl rfl ?_ | refine sL4 hS rfl rfl ?_ | refine sL5 hS rfl rfl ?_ | refine sL6 hS rfl rfl ?_ | refine sL7 hS rfl rfl ?_)) | (refine oS ?_; ((first | refine sS1 hS rfl rfl rfl ?_ | refine sS2 hS rfl rfl rfl ?_ | refine sS3 hS rfl rfl rfl ?_ | refine sS4 hS rfl rfl rfl ?_ | refine sS5 hS rfl rfl rfl ?_); clear hS; intro w hS)) | ((first | (refine oB ?_; first | refine sB1 hS rfl rfl ?_ | refine sB2 hS rfl rfl ?_) | refine sN1 hS rfl ?_); clear hS; first | ((fail_if_success guard_hyp g1); intro g1 w hS) | ((fail_if_success guard_hyp g2); intro g2 w hS) | ((fail_if_success guard_hyp g3); intro g3 w hS) | ((fail_if_success guard_hyp g4); intro g4 w hS) | ((fail_if_success guard_hyp g5); intro g5 w hS) | fail) | fail)
    exact st_retCT hS rfl rfl rfl rfl rfl (RetPB.no hS.toExt)
  obtain ⟨j, rfl⟩ : ∃ j : Nat, fr = j := ⟨fr.toNat, by omega⟩
  have df : decide (0 ≤ (j : Int) ∧ (j : Int) < (p.len.length : Int)) = true := decide_eq_true hf
  have hj : j < p.len.length := by omega
  have hj' : (j : Int) < p.len.length := by omega
  by_cases hjk : j = k
  · rw [appRes_no (fun h => h.2.2.elim HF.out (fun h => h.2.1 (by omega)))]
    have djk : ((j : Int) == (k : Int)) = true := by simp [hjk]
    generalize hx : nth p.len k = x at *
    go_enter Try.func20, Try.ntmps20
    go_wp2_with (first | (go_at_call 57; refine (process_any _ _ _ _ _ _ _ _ _ _ _).mono ?_; rintro e w ⟨rfl, hx1⟩; replace hS := hS.ext hx1; first | rw [dq] | rw [df]) | (refine oL ?_; (first | refine sL1 hS rfl rfl rfl ?_ | refine sL2 hS rfl rfl rfl ?_ | refine sL3 hS rfl rfl ?_ | refine sL4 hS rfl rfl ?_ | refine sL5 hS rfl rfl ?_ | refine sL6 hS rfl rfl ?_ | refine sL7 hS rfl rfl ?_)) | (refine oS ?_; ((first | refine sS1 hS rfl rfl rfl ?_ | refine sS2 hS rfl rfl rfl ?_ | refine sS3 hS rfl rfl rfl ?_ | refine sS4 hS rfl rfl rfl ?_ | refine sS5 hS rfl rfl rfl ?_); clear hS; intro w hS)) | ((first | (refine oB ?_; first | refine sB1 hS rfl rfl ?_ | refine sB2 hS rfl rfl ?_) | refine sN1 hS rfl ?_); clear hS; first | ((fail_if_success guard_hyp g1); intro g1 w hS) | ((fail_if_success guard_hyp g2); intro g2 w hS) | ((fail_if_success guard_hyp g3); intro g3 w hS) | ((fail_if_success guard_hyp g4); intro g4 w hS) | ((fail_if_success guard_hyp g5); intro g5 w hS) | fail) | fail)
    exact st_retCT hS rfl rfl rfl rfl rfl (RetPB.no hS.toExt)
  have djk : ((j : Int) == (k : Int)) = false := by simp; omega
  by_cases hse : se < 0
  · rw [appRes_no (fun h => h.2.2.elim HF.out (fun h => absurd h.2.2.1 (by omega)))]
    generalize hx : nth p.len k = x at *
    go_enter Try.func20, Try.ntmps20
    go_wp2_with (first | (go_at_call 57; refine (process_any _ _ _ _ _ _ _ _ _ _ _).mono ?_; rintro e w ⟨rfl, hx1⟩; replace hS := hS.ext hx1; first | rw [dq] | rw [df]) | (refine oL ?_; (first | refine sL1 hS rfl rfl rfl ?_ | refine sL2 hS rfl rfl rfl ?_ | refine sL3 hS rfl rfl ?_ | refine sL4 hS rfl rfl ?_ | refine sL5 hS rfl rfl ?_ | refine sL6 hS rfl rfl ?_ | refine sL7 hS rfl rfl ?_)) | (refine oS ?_; ((first | refine sS1 hS rfl rfl rfl ?_ | refine sS2 hS rfl rfl rfl ?_ | refine sS3 hS rfl rfl rfl ?_ | refine sS4 hS rfl rfl rfl ?_ | refine sS5 hS rfl rfl rfl ?_); clear hS; intro w hS)) | ((first | (refine oB ?_; first | refine sB1 hS rfl rfl ?_ | refine sB2 hS rfl rfl ?_) | refine sN1 hS rfl ?_); clear hS; first | ((fail_if_success guard_hyp g1); intro g1 w hS) | ((fail_if_success guard_hyp g2); intro g2 w hS) | ((fail_if_success guard_hyp g3); intro g3 w hS) | ((fail_if_success guard_hyp g4); intro g4 w hS) | ((fail_if_success guard_hyp g5); intro g5 w hS) | fail) | fail)
    exact st_retCT hS rfl rfl rfl rfl rfl (RetPB.no hS.toExt)
  have dse : decide (se < 0) = false := by simp; omega
  obtain ⟨_, _, e9, _, hcj⟩ := h1.atNS hj
  injection e9 with e9; injection e9 with e9 e10; subst e9; subst e10
  by_cases hle : nth p.len j < se
  · rw [appRes_no (fun h => h.2.2.elim HF.out (fun h => absurd h.2.2.2.1 (by simpa using hle)))]
    generalize hx : nth p.len k = x at *
    generalize hy : nth p.len j = y at *
    go_enter Try.func20, Try.ntmps20
    go_wp2_with (first | (go_at_call 57; refine (process_any _ _ _ _ _ _ _ _ _ _ _).mono ?_; rintro e w ⟨rfl, hx1⟩; replace hS := hS.ext hx1; first | rw [dq] | rw [df]) | (refine oL ?_; (first | refine sL1 hS rfl rfl rfl ?_ | refine sL2 hS rfl rfl rfl ?_ | refine sL3 hS rfl rfl ?_ | refine sL4 hS rfl rfl ?_ | refine sL5 hS rfl rfl ?_ | refine sL6 hS rfl rfl ?_ | refine sL7 hS rfl rfl ?_)) | (refine oS ?_; ((first | refine sS1 hS rfl rfl rfl ?_ | refine sS2 hS rfl rfl rfl ?_ | refine sS3 hS rfl rfl rfl ?_ | refine sS4 hS rfl rfl rfl ?_ | refine sS5 hS rfl rfl rfl ?_); clear hS; intro w hS)) | ((first | (refine oB ?_; first | refine sB1 hS rfl rfl ?_ | refine sB2 hS rfl rfl ?_) | refine sN1 hS rfl ?_); clear hS; first | ((fail_if_success guard_hyp g1); intro g1 w hS) | ((fail_if_success guard_hyp g2); intro g2 w hS) | ((fail_if_success guard_hyp g3); intro g3 w hS) | ((fail_if_success guard_hyp g4); intro g4 w hS) | ((fail_if_success guard_hyp g5); intro g5 w hS) | fail) | fail)
    exact st_retCT hS rfl rfl rfl rfl rfl (RetPB.no hS.toExt)
  by_cases h256 : p.arcs.length < 256
  rotate_left
  · rw [appRes_no (fun h => h.2.2.elim HF.out (fun h => h256 h.2.2.2.2))]
    generalize hx : nth p.len k = x at *
    generalize hy : nth p.len j = y at *
    go_enter Try.func20, Try.ntmps20
    go_wp2_with (first | (go_at_call 57; refine (process_any _ _ _ _ _ _ _ _ _ _ _).mono ?_; rintro e w ⟨rfl, hx1⟩; replace hS := hS.ext hx1; first | rw [dq] | rw [df]) | (refine oL ?_; (first | refine sL1 hS rfl rfl rfl ?_ | refine sL2 hS rfl rfl rfl ?_ | refine sL3 hS rfl rfl ?_ | refine sL4 hS rfl rfl ?_ | refine sL5 hS rfl rfl ?_ | refine sL6 hS rfl rfl ?_ | refine sL7 hS rfl rfl ?_)) | (refine oS ?_; ((first | refine sS1 hS rfl rfl rfl ?_ | refine sS2 hS rfl rfl rfl ?_ | refine sS3 hS rfl rfl rfl ?_ | refine sS4 hS rfl rfl rfl ?_ | refine sS5 hS rfl rfl rfl ?_); clear hS; intro w hS)) | ((first | (refine oB ?_; first | refine sB1 hS rfl rfl ?_ | refine sB2 hS rfl rfl ?_) | refine sN1 hS rfl ?_); clear hS; first | ((fail_if_success guard_hyp g1); intro g1 w hS) | ((fail_if_success guard_hyp g2); intro g2 w hS) | ((fail_if_success guard_hyp g3); intro g3 w hS) | ((fail_if_success guard_hyp g4); intro g4 w hS) | ((fail_if_success guard_hyp g5); intro g5 w hS) | fail) | fail)
    exact st_retCT hS rfl rfl rfl rfl rfl (RetPB.no hS.toExt)
  rw [appRes_ok ⟨HQ.out, h64, .inr ⟨hf, by omega, by omega, by simpa using hle, h256⟩⟩]
  have HPP := Lib.hid (show appPat p (k : Int) (j : Int) se = (p.more k).send ⟨j, se, k, nth p.len k + 1⟩ by rw [appPat, if_neg HF.out]; rfl)
  generalize appPat p (k : Int) (j : Int) se = p' at *
  have HM := Lib.hid (show p.len.set k (nth p.len k + 1) = (p.more k).len from rfl)
  have hcell : (ints p.len)[k]? = some (.int .i64 (nth p.len k)) := by rw [ints_get hk, nth_eq hk]
  have hcell2 : (ints (p.len.set k (nth p.len k + 1)))[k]? = some (.int .i64 (nth p.len k + 1)) := by rw [ints_get (by simpa using hk)]; simp
  have h3n : A3 = none → p.arcs.length = 0 := fun h => by subst h; have := h3.rv.none_len; have h4 := flat_length p.arcs; rw [this] at h4; simp at h4; omega
  generalize hx : nth p.len k = x at *
  generalize hy : nth p.len j = y at *
  clear hf
  go_enter Try.func20, Try.ntmps20
  go_wp2_with (first | (go_at_call 57; refine (process_any _ _ _ _ _ _ _ _ _ _ _).mono ?_; rintro e w ⟨rfl, hx1⟩; replace hS := hS.ext hx1; first | rw [dq] | rw [df]) | (go_at_call 58; refine (clone_any _ _ p.len _ (h1.ext hS.toExt) (by omega)).mono ?_; rintro e w ⟨L, cl, rfl, ho, hx1⟩; replace hS := hS.addRow ho hx1; have hrf := hS.rowForm L; obtain ⟨g, rfl⟩ := hS.rowSome L (by omega)) | (refine oL ?_; (first | refine sL1 hS rfl rfl rfl ?_ | refine sL2 hS rfl rfl rfl ?_ | refine sL3 hS rfl rfl ?_ | refine sL4 hS rfl rfl ?_ | refine sL5 hS rfl rfl ?_ | refine sL6 hS rfl rfl ?_ | refine sL7 hS rfl rfl ?_)) | (refine oS ?_; ((first | refine sS1 hS rfl rfl rfl ?_ | refine sS2 hS rfl rfl rfl ?_ | refine sS3 hS rfl rfl rfl ?_ | refine sS4 hS rfl rfl rfl ?_ | refine sS5 hS rfl rfl rfl ?_); clear hS; intro w hS)) | ((first | (refine oB ?_; first | refine sB1 hS rfl rfl ?_ | refine sB2 hS rfl rfl ?_) | refine sN1 hS rfl ?_); clear hS; first | ((fail_if_success guard_hyp g1); intro g1 w hS) | ((fail_if_success guard_hyp g2); intro g2 w hS) | ((fail_if_success guard_hyp g3); intro g3 w hS) | ((fail_if_success guard_hyp g4); intro g4 w hS) | ((fail_if_success guard_hyp g5); intro g5 w hS) | fail) | fail)
  simp only [List.set_cons_zero, List.set_cons_succ] at hS
  refine dr_start0 [7]  hS (by kernel_rfl) rfl ?_; clear hS; intro w hS
  refine dP hS 0 rfl rfl ?_
  (try simp only [Act.put, nA, nB, nC])
  first | refine dL1 hS 1 rfl rfl rfl rfl ?_ | refine dL2 hS 1 rfl rfl rfl rfl ?_ | refine dL3 hS 1 rfl rfl rfl ?_ | refine dL4 hS 1 rfl rfl rfl ?_ | refine dL5 hS 1 rfl rfl rfl ?_ | refine dL6 hS 1 rfl rfl rfl ?_ | refine dL7 hS 1 rfl rfl rfl ?_
  (try simp only [Act.put, nA, nB, nC])
  first | refine dL1 hS 3 rfl rfl rfl rfl ?_ | refine dL2 hS 3 rfl rfl rfl rfl ?_ | refine dL3 hS 3 rfl rfl rfl ?_ | refine dL4 hS 3 rfl rfl rfl ?_ | refine dL5 hS 3 rfl rfl rfl ?_ | refine dL6 hS 3 rfl rfl rfl ?_ | refine dL7 hS 3 rfl rfl rfl ?_
  (try simp only [Act.put, nA, nB, nC])
  refine dr_two 2 4 (by kernel_rfl) rfl rfl ?_ ?_
  (refine st_call rfl (by kernel_rfl) rfl ?_; go_at_call 59; refine (clipA_any _ _ _ _ hl3 hm3 h3n).mono ?_; rintro e w ⟨rfl, hx1⟩; replace hS := hS.ext hx1)
  (try simp only [Act.put, nA, nB, nC])
  refine dr_end hS ?_
  refine dr_one 4 (by kernel_rfl) rfl ?_
  first | (refine st_appFA ⟨j, se, k, x + 1⟩ hS rfl rfl rfl (h3.into (Into.ofExt hS.toExt)) rfl (by rfl) h3n (by omega) ?_; clear hS; intro L3 cl3 w hL3 hM3 hS) | ((first | refine sC0 hS rfl ?_ | refine sC1 hS rfl rfl ?_ | refine sC2 hS rfl rfl ?_ | refine sC3 hS rfl rfl rfl ?_ | refine sC4 hS rfl rfl rfl ?_); clear hS; first | ((fail_if_success guard_hyp g1); intro g1 w hS) | ((fail_if_success guard_hyp g2); intro g2 w hS) | ((fail_if_success guard_hyp g3); intro g3 w hS) | ((fail_if_success guard_hyp g4); intro g4 w hS) | ((fail_if_success guard_hyp g5); intro g5 w hS) | fail) | fail
  (try simp only [Act.put, nA, nB, nC])
  refine dr_end hS ?_
  refine dr_one 5 (by kernel_rfl) rfl ?_
  first | (refine st_appFA ⟨j, se, k, x + 1⟩ hS rfl rfl rfl (h3.into (Into.ofExt hS.toExt)) rfl (by rfl) h3n (by omega) ?_; clear hS; intro L3 cl3 w hL3 hM3 hS) | ((first | refine sP1 hS rfl rfl rfl ?_ | refine sP2 hS rfl rfl rfl ?_ | refine sP3 hS rfl rfl rfl ?_); clear hS; first | ((fail_if_success guard_hyp L1); intro L1 cl1 w hL1 hM1 hS) | ((fail_if_success guard_hyp L2); intro L2 cl2 w hL2 hM2 hS) | fail) | fail
  (try simp only [Act.put, nA, nB, nC])
  refine dr_end hS ?_
  refine dP hS 6 rfl rfl ?_
  (try simp only [Act.put, nA, nB, nC])
  refine dr_one 7 (by kernel_rfl) rfl ?_
  first | (refine st_appFA ⟨j, se, k, x + 1⟩ hS rfl rfl rfl (h3.into (Into.ofExt hS.toExt)) rfl (by rfl) h3n (by omega) ?_; clear hS; intro L3 cl3 w hL3 hM3 hS) | ((first | refine sS1 hS rfl rfl rfl ?_ | refine sS2 hS rfl rfl rfl ?_ | refine sS3 hS rfl rfl rfl ?_ | refine sS4 hS rfl rfl rfl ?_ | refine sS5 hS rfl rfl rfl ?_); clear hS; intro w hS) | fail
  (try simp only [Act.put, nA, nB, nC])
  refine dr_late (by kernel_rfl) ?_
  refine dr_done (by kernel_rfl) ?_
  rotate_left
  first | (refine st_appFA ⟨j, se, k, x + 1⟩ hS rfl rfl rfl (h3.into (Into.ofExt hS.toExt)) rfl (by rfl) h3n (by omega) ?_; clear hS; intro L3 cl3 w hL3 hM3 hS) | ((first | refine sC0 hS rfl ?_ | refine sC1 hS rfl rfl ?_ | refine sC2 hS rfl rfl ?_ | refine sC3 hS rfl rfl rfl ?_ | refine sC4 hS rfl rfl rfl ?_); clear hS; first | ((fail_if_success guard_hyp g1); intro g1 w hS) | ((fail_if_success guard_hyp g2); intro g2 w hS) | ((fail_if_success guard_hyp g3); intro g3 w hS) | ((fail_if_success guard_hyp g4); intro g4 w hS) | ((fail_if_success guard_hyp g5); intro g5 w hS) | fail) | fail
  (try simp only [Act.put, nA, nB, nC])
  refine dr_end hS ?_
  refine dr_one 2 (by kernel_rfl) rfl ?_
  (refine st_call rfl (by kernel_rfl) rfl ?_; go_at_call 59; refine (clipA_any _ _ _ _ hl3 hm3 h3n).mono ?_; rintro e w ⟨rfl, hx1⟩; replace hS := hS.ext hx1)
  (try simp only [Act.put, nA, nB, nC])
  refine dr_end hS ?_
  refine dr_one 5 (by kernel_rfl) rfl ?_
  first | (refine st_appFA ⟨j, se, k, x + 1⟩ hS rfl rfl rfl (h3.into (Into.ofExt hS.toExt)) rfl (by rfl) h3n (by omega) ?_; clear hS; intro L3 cl3 w hL3 hM3 hS) | ((first | refine sP1 hS rfl rfl rfl ?_ | refine sP2 hS rfl rfl rfl ?_ | refine sP3 hS rfl rfl rfl ?_); clear hS; first | ((fail_if_success guard_hyp L1); intro L1 cl1 w hL1 hM1 hS) | ((fail_if_success guard_hyp L2); intro L2 cl2 w hL2 hM2 hS) | fail) | fail
  (try simp only [Act.put, nA, nB, nC])
  refine dr_end hS ?_
  refine dP hS 6 rfl rfl ?_
  (try simp only [Act.put, nA, nB, nC])
  refine dr_one 7 (by kernel_rfl) rfl ?_
  first | (refine st_appFA ⟨j, se, k, x + 1⟩ hS rfl rfl rfl (h3.into (Into.ofExt hS.toExt)) rfl (by rfl) h3n (by omega) ?_; clear hS; intro L3 cl3 w hL3 hM3 hS) | ((first | refine sS1 hS rfl rfl rfl ?_ | refine sS2 hS rfl rfl rfl ?_ | refine sS3 hS rfl rfl rfl ?_ | refine sS4 hS rfl rfl rfl ?_ | refine sS5 hS rfl rfl rfl ?_); clear hS; intro w hS) | fail
  (try simp only [Act.put, nA, nB, nC])
  refine dr_late (by kernel_rfl) ?_
  refine dr_done (by kernel_rfl) ?_
  rotate_left
  all_goals
    go_wp2_with (first | (refine oL ?_; (first | refine sL1 hS rfl rfl rfl ?_ | refine sL2 hS rfl rfl rfl ?_ | refine sL3 hS rfl rfl ?_ | refine sL4 hS rfl rfl ?_ | refine sL5 hS rfl rfl ?_ | refine sL6 hS rfl rfl ?_ | refine sL7 hS rfl rfl ?_)) | (refine oS ?_; ((first | refine sS1 hS rfl rfl rfl ?_ | refine sS2 hS rfl rfl rfl ?_ | refine sS3 hS rfl rfl rfl ?_ | refine sS4 hS rfl rfl rfl ?_ | refine sS5 hS rfl rfl rfl ?_); clear hS; intro w hS)) | ((first | (refine oB ?_; first | refine sB1 hS rfl rfl ?_ | refine sB2 hS rfl rfl ?_) | refine sN1 hS rfl ?_); clear hS; first | ((fail_if_success guard_hyp g1); intro g1 w hS) | ((fail_if_success guard_hyp g2); intro g2 w hS) | ((fail_if_success guard_hyp g3); intro g3 w hS) | ((fail_if_success guard_hyp g4); intro g4 w hS) | ((fail_if_success guard_hyp g5); intro g5 w hS) | fail) | fail)
    refine st_retCT hS rfl rfl rfl rfl rfl ?_
    refine RetPB.mk (p := p') (by rw [HPP.out]; simp [Pat.more, Pat.send]) (by rw [HPP.out]; rfl) (by rw [HPP.out]; simp [Pat.more, Pat.send]) ?_ ?_ ?_ (by omega) HP.out.1.b2 ⟨hL3, hM3⟩ hS.toExt
    · rw [HPP.out]; show RI _ _ _ (p.more k).len; rw [← HM.out]; exact hS.riNew
    · rw [HPP.out]; exact HP.out.1.ck.into (Into.orNew hS.toExt)
    · rw [HPP.out]; exact hS.raNew
end Go.Proofs.Ytjclgbkfnliiaaa
