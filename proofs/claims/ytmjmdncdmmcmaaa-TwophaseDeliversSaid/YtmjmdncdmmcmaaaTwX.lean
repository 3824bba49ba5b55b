/- The run of two-phase checkpointing, in plain words. No condition. -/
import Derived.Test.YtmjmdncdmmcmaaaTwV
namespace Go.Proofs.Ytmjmdncdmmcmaaa
open Go.RowKit Tph
set_option linter.unusedVariables false
set_option linter.unusedSimpArgs false
set_option linter.unusedSectionVars false

/-- who is asked: the root, and the sources of those that are asked and are willing -/
inductive WR (p : Pat) (u : List Bool) (r : Nat) : Nat → Prop where
  | here : WR p u r r
  | step {x y : Nat} : WR p u r x → opOf u x = false → y ∈ srcL p x → WR p u r y
structure RunI (p : Pat) (n r : Nat) (us : List Int) (t : TS) (i : Nat) : Prop where
  inv : TwI n (srcL p) (WR p (unwOf n us) r) t
  rt : t.root = r
  un : t.unw = unwOf n us
  mu : t.abs.mu (t.env n (srcL p)) + i ≤ 199
section
variable {p : Pat} {n r i k : Nat} {us : List Int} {t : TS}
theorem parN_nth {l : List Int} {q : Nat} (h : q < l.length) : nth l q = parN l q := by
  unfold parN nth
  rw [List.getD_eq_getElem?_getD, List.getD_eq_getElem?_getD, List.getElem?_eq_getElem h]
  rfl
theorem src_lt (hg : Good p) : ∀ q s, s ∈ srcL p q → s < p.len.length ∧ s ≠ q := fun q s h => ⟨(isSrc_lt hg (srcL_mem.1 h).2).1, (isSrc_lt hg (srcL_mem.1 h).2).2.2⟩
theorem src_nd (p : Pat) (q : Nat) : (srcL p q).Nodup := (srcL_asc p q).imp (fun h => Nat.ne_of_lt h)
theorem RunI.begin (hg : Good p) (hr : r < p.len.length) : RunI p p.len.length r us (begT p r us) 0 := by
  have hu := unwOf_len p.len.length us
  have h1 := mu_new (root := r) (unw := unwOf p.len.length us) hu hr (src_lt hg) (src_nd p)
  have he : (begT p r us).env p.len.length (srcL p) = (TS.new p.len.length r (unwOf p.len.length us)).env p.len.length (srcL p) := by
    simp only [TS.env, begT]; rw [ask_root.1, ask_root.2]
  refine ⟨TwI.begin hu hr (src_lt hg) (src_nd p) .here (fun q hq hw z hz => hq.step hw hz), ask_root.1, ask_root.2, ?_⟩
  rw [he]
  have h5 := hg.n5
  have : 3 * p.len.length * p.len.length ≤ 3 * 5 * 5 := Nat.mul_le_mul (Nat.mul_le_mul_left 3 h5) h5
  have h2 : (begT p r us).abs.mu ((TS.new p.len.length r (unwOf p.len.length us)).env p.len.length (srcL p)) ≤ 3 * p.len.length * p.len.length + 2 * p.len.length + 2 := h1
  omega
theorem RunI.step (h : RunI p n r us t i) (hk : k < t.fl.length) : RunI p n r us (t.step (srcL p) k) (i + 1) := by
  have h1 := h.inv.mu hk
  refine ⟨h.inv.step hk, dlv_root.1.trans h.rt, dlv_root.2.trans h.un, ?_⟩
  rw [step_env]
  have := h.mu
  omega
theorem len_wts (l : List Nt) : l.length ≤ wts l := by
  induction l with
  | nil => simp
  | cons x l ih =>
    rw [List.length_cons, wts]
    have : 1 ≤ wt x := by unfold wt; split <;> omega
    omega
theorem RunI.len (h : RunI p n r us t i) : t.fl.length + i ≤ 199 := by
  have h1 := len_wts t.fl
  have h2 : wts t.fl ≤ t.abs.mu (t.env n (srcL p)) := Nat.le_add_left _ _
  have := h.mu
  omega
theorem RunI.dlv (h : RunI p n r us t i) (h5 : n ≤ 5) (hk : k < t.fl.length) : DlvOk n t k := by
  have hl := h.len
  have hm : t.fl.getD k ⟨0, 0, 0⟩ ∈ t.fl := by simp [hk]
  obtain ⟨hto, hfr⟩ := h.inv.i.nt _ hm
  have hto : (t.fl.getD k ⟨0, 0, 0⟩).to < n := hto
  refine ⟨h.inv.i.nk _ hm, h.inv.i.lt hfr, hto, fun h1 => ?_, ?_, ?_, by omega⟩
  · obtain ⟨_, z, hz, _⟩ := h.inv.i.pv _ (h.inv.i.n0 _ hm h1)
    refine ⟨z, ?_⟩
    have h2 : parN t.par (t.fl.getD k ⟨0, 0, 0⟩).to = (z : Int) := hz
    rw [← h2]
    have hb : (t.fl.getD k ⟨0, 0, 0⟩).to < t.par.length := by rw [h.inv.l.p]; exact hto
    exact parN_nth hb
  · have h0 := h.inv.i.aw0 (t.fl.getD k ⟨0, 0, 0⟩).to
    have h1 := h.inv.i.cnt _ hto
    have h2 : nth t.aw (t.fl.getD k ⟨0, 0, 0⟩).to = ((t.abs.count (t.env n (srcL p)) n (t.fl.getD k ⟨0, 0, 0⟩).to : Nat) : Int) := h1
    have h3 : t.abs.count (t.env n (srcL p)) n (t.fl.getD k ⟨0, 0, 0⟩).to ≤ t.fl.length + t.fl.length + n := by
      unfold AS.count
      have a1 := List.countP_le_length (p := isReq (t.fl.getD k ⟨0, 0, 0⟩).to) (l := t.fl)
      have a2 := List.countP_le_length (p := isAns (t.fl.getD k ⟨0, 0, 0⟩).to) (l := t.fl)
      have a3 := List.countP_le_length (p := t.abs.kid (t.env n (srcL p)) n (t.fl.getD k ⟨0, 0, 0⟩).to) (l := List.range n)
      rw [List.length_range] at a3
      exact Nat.add_le_add (Nat.add_le_add a1 a2) a3
    rw [h2]
    omega
  · intro l hl2
    obtain ⟨q, hq, rfl⟩ := List.getElem_of_mem hl2
    have hc : chR t.ch q = t.ch[q] := by simp [chR, hq]
    have h1 : (chR t.ch q).length ≤ n := nodup_lt_len n _ (h.inv.i.cd q) (fun x hx => h.inv.e.lt q x (h.inv.i.cl q x hx))
    rw [← hc]
    omega
/-- what a run ends with -/
structure RunE (p : Pat) (n r : Nat) (us : List Int) (t : TS) : Prop where
  l : TsL n t
  asked : ∀ q, parN t.par q ≠ -1 ↔ WR p (unwOf n us) r q
  tent : ∀ q, opOf t.tent q = false
  un : ∀ q, ¬ WR p (unwOf n us) r q → nth t.dec q = 0
  res : ((∀ q, WR p (unwOf n us) r q → nth t.dec q = 1) ∧ ∀ q, WR p (unwOf n us) r q → opOf (unwOf n us) q = false) ∨ ((∀ q, WR p (unwOf n us) r q → nth t.dec q = 2) ∧ ∃ q, WR p (unwOf n us) r q ∧ opOf (unwOf n us) q = true)
end
end Go.Proofs.Ytmjmdncdmmcmaaa
