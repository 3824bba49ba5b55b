/- Deliveries, one by one, by the program and by the reference. Conditions: the pattern is a good one and lies in memory. -/
import Derived.Test.YtmjmdncdmmcmaaaRTwB
import Derived.Test.YtmjmdncdmmcmaaaGj
import Derived.Test.YtmjmdncdmmcmaaaGk
import Derived.Test.YtmjmdncdmmcmaaaTwY
namespace Go.Proofs.Ytmjmdncdmmcmaaa
open Go.RowKit Tph
set_option linter.unusedVariables false
set_option linter.unusedSimpArgs false
set_option linter.unusedSectionVars false

theorem RunI.unq {p : Pat} {n r i : Nat} {us : List Int} {t : TS} (h : RunI p n r us t i) : ∀ q, q < n → (nth t.par q < 0 → nth t.par q = -1) ∧ (nth t.par q = -1 → chR t.ch q = [] ∧ nth t.aw q = 0) := fun q hq => by
  have e : nth t.par q = parN t.par q := parN_nth (by rw [h.inv.l.p]; exact hq)
  rw [e]
  refine ⟨fun h0 => Classical.byContradiction fun h1 => ?_, fun h0 => ?_⟩
  · obtain ⟨_, z, hz, _⟩ := h.inv.i.pv q h1
    have hz : parN t.par q = (z : Int) := hz
    omega
  · have h1 := h.inv.i.un q h0
    exact ⟨h1.1, h1.2.1⟩
theorem RunI.sm {p : Pat} {n r i : Nat} {us : List Int} {t : TS} (h : RunI p n r us t i) (h5 : n ≤ 5) : ∀ l ∈ t.ch, l.length ≤ 1000 := fun l hl2 => by
  obtain ⟨q, hq, rfl⟩ := List.getElem_of_mem hl2
  have hc : chR t.ch q = t.ch[q] := by simp [chR, hq]
  have h1 : (chR t.ch q).length ≤ n := nodup_lt_len n _ (h.inv.i.cd q) (fun x hx => h.inv.e.lt q x (h.inv.i.cl q x hx))
  rw [← hc]
  omega
theorem okR {r : Nat} {us : List Int} {p : Pat} {t : TS} {i k n nf : Nat} {T : Nat → Prop} {w : World} {x : TX} (h : RunI p n r us t i) (ht : TpAt T w x p t) (hn5 : n ≤ 5) (hg : Good p) (hn : p.len.length = n) (hnf : t.fl.length = nf) (hk : k < nf) :
    Calls Try.prog 35 #[x.val p r n nf, .int .i64 (k : Int)] w fun e w' => ∃ x2 : TX, e = .returned (.tuple #[x2.val p r n (t.step (srcL p) k).fl.length, .int .i64 0]) ∧ TpAt (Orn T w) w' x2 p (t.step (srcL p) k) ∧ Ext w w' := by
  have hd := rdeliver_any x p t n k w ht h.inv.l hg hn (by omega) (h.dlv hn5 (by omega)) h.unq
  rw [h.rt, hnf] at hd
  refine hd.mono ?_
  rintro e w' ⟨x2, rfl, h1, h2⟩
  exact ⟨x2, by rw [(h.step (by omega)).rt], h1, h2⟩
theorem okB2 {r : Nat} {us : List Int} {p : Pat} {t t2 : TS} {i k n nf n2 : Nat} {T : Nat → Prop} {w : World} {x : TX} (h : RunI p n r us t i) (ht : TpAt T w x p t) (hn5 : n ≤ 5) (hg : Good p) (hn : p.len.length = n) (hnf : t.fl.length = nf) (hk : k < nf) (e2 : t.step (srcL p) k = t2) (en : t2.fl.length = n2) :
    Calls Try.prog 34 #[x.val p r n nf, .int .i64 (k : Int)] w fun e w' => ∃ x2 : TX, e = .returned (.tuple #[x2.val p r n n2, .int .i64 0]) ∧ TpAt (Orn T w) w' x2 p t2 ∧ Ext w w' := by subst e2 en; exact okB h ht hn5 hg hn hnf hk
theorem okR2 {r : Nat} {us : List Int} {p : Pat} {t t2 : TS} {i k n nf n2 : Nat} {T : Nat → Prop} {w : World} {x : TX} (h : RunI p n r us t i) (ht : TpAt T w x p t) (hn5 : n ≤ 5) (hg : Good p) (hn : p.len.length = n) (hnf : t.fl.length = nf) (hk : k < nf) (e2 : t.step (srcL p) k = t2) (en : t2.fl.length = n2) :
    Calls Try.prog 35 #[x.val p r n nf, .int .i64 (k : Int)] w fun e w' => ∃ x2 : TX, e = .returned (.tuple #[x2.val p r n n2, .int .i64 0]) ∧ TpAt (Orn T w) w' x2 p t2 ∧ Ext w w' := by subst e2 en; exact okR h ht hn5 hg hn hnf hk
theorem okS {r : Nat} {us : List Int} {p : Pat} {t : TS} {i n nf : Nat} {S T : Nat → Prop} {w : World} {x y : TX} (h : RunI p n r us t i) (hx : TpAt S w x p t) (hy : TpAt T w y p t) (hn5 : n ≤ 5) (hg : Good p) (hnf : t.fl.length = nf) :
    Calls Try.prog 36 #[x.val p r n nf, y.val p r n nf] w fun e w' => e = .returned (.bool true) ∧ Ext w w' := by
  have hd := rsameT x y p t n nf w hx hy h.inv.l hn5 hnf (by have := h.len; omega) (h.sm hn5) hg.short
  rw [h.rt] at hd
  exact hd
/-- the zero machine -/
def tz : TS := ⟨0, [], [], [], [], [], [], [], []⟩
def xz : TX := ⟨none, 0, none, 0, none, 0, none, 0, none, 0, none, 0, none, 0, none, 0, none, 0, none, 0, none, 0⟩
theorem pz_at (S : Nat → Prop) (w : World) : PatAt S w ⟨none, 0, none, 0, none, 0⟩ pat0 := ⟨RV.nil_ _ _ _, ⟨[], RV.nil_ _ _ _, rfl⟩, ⟨[], RV.nil_ _ _ _, rfl⟩, Nat.le_refl _, by simp, Nat.le_refl _, by simp, Nat.le_refl _, by simp⟩
theorem tz_at (S : Nat → Prop) (w : World) : TpAt S w xz pat0 tz := ⟨pz_at S w, RV.nil_ _ _ _, RV.nil_ _ _ _, RV.nil_ _ _ _, RV.nil_ _ _ _, RV.nil_ _ _ _, ⟨[], RV.nil_ _ _ _, Rw2.rep 0 (ReV.nil S w)⟩, RV.nil_ _ _ _, RV.nil_ _ _ _, ⟨fun _ => ⟨rfl, rfl⟩, (fun a h => by cases h), Nat.le_refl _, by simp [xz]⟩⟩
theorem rsame0 (w : World) : Calls Try.prog 36 #[.agg tp0.toArray, .agg tp0.toArray] w fun e w' => e = .returned (.bool true) ∧ Ext w w' :=
  rsameT xz xz pat0 tz 0 0 w (tz_at All w) (tz_at All w) ⟨rfl, rfl, rfl, rfl, rfl, rfl, rfl⟩ (by omega) rfl (by omega) (by simp [tz]) pat0_short
theorem psame0 (w : World) : Calls Try.prog 39 #[.agg #[.slice none 0 0, .slice none 0 0, .slice none 0 0], .agg #[.slice none 0 0, .slice none 0 0, .slice none 0 0]] w fun e w' => e = .returned (.bool true) ∧ Ext w w' :=
  same_eq none none none none none none 0 0 0 0 0 0 pat0 w (pz_at All w).len (pz_at All w).ck (pz_at All w).arcs (pz_at All w).len (pz_at All w).ck (pz_at All w).arcs pat0_short.l pat0_short.c pat0_short.r pat0_short.a
theorem FC.intoT {T T' : Nat → Prop} {u u' : World} {b j : Nat} {v : Value} (h : FC T u b j v) (hi : Into T T' u u') : FC T' u' b j v :=
  ⟨(hi b h.t (lt_of_cell (p := ⟨b, j, none⟩) h.c)).1, (World.cell?_of_block (a := ⟨b, j, none⟩) (hi b h.t (lt_of_cell (p := ⟨b, j, none⟩) h.c)).2).trans h.c⟩
/-- what is kept between the rounds -/
def DlvH (w0 : World) (p : Pat) (r : Nat) (us : List Int) (t : TS) (T : Nat → Prop) (u : World) (x y : TX) : Prop := (∃ j, RunI p p.len.length r us t j) ∧ TpAt T u x p t ∧ TpAt T u y p t ∧ Into (fun k => True ∧ k < w0.heap.size) T w0 u
end Go.Proofs.Ytmjmdncdmmcmaaa
