/- The machine of two-phase checkpointing as lists, and that it is the plain machine. No condition. -/
import Derived.Test.YtmjmdncdmmcmaaaTwP
import Derived.Test.YtmjmdncdmmcmaaaSnPure
namespace Go.Proofs.Ytmjmdncdmmcmaaa
set_option linter.unusedVariables false
set_option linter.unusedSimpArgs false
set_option maxRecDepth 100000
open Tph

structure TS where
  root : Nat
  unw : List Bool
  par : List Int
  tent : List Bool
  aw : List Int
  ref : List Bool
  ch : List (List Nat)
  dec : List Int
  fl : List Nt
def chR (l : List (List Nat)) (q : Nat) : List Nat := l.getD q []
def parN (l : List Int) (q : Nat) : Int := l.getD q (-1)
def TS.post (t : TS) (x : Nt) : TS := { t with fl := t.fl ++ [x] }
def TS.dcd (t : TS) (q : Nat) (d : Int) : TS := { t with dec := t.dec.set q d, tent := t.tent.set q false, fl := t.fl ++ (chR t.ch q).map (fun r => ⟨if d = 2 then 5 else 4, q, r⟩) }
def TS.ans (t : TS) (q : Nat) : TS := if q = t.root then (if opOf t.ref q then t.dcd q 2 else t.dcd q 1) else if opOf t.ref q then (t.post ⟨3, q, (parN t.par q).toNat⟩).dcd q 2 else t.post ⟨2, q, (parN t.par q).toNat⟩
/-- the sources of a process but the one that asks -/
def csOf (src : Nat → List Nat) (q r : Nat) : List Nat := (src q).filter (fun x => x != r)
def TS.askN (t : TS) (q r : Nat) : TS := { t with par := t.par.set q r, ref := t.ref.set q true }
def TS.askY (t : TS) (src : Nat → List Nat) (q r : Nat) : TS := { t with par := t.par.set q r, tent := t.tent.set q true, ch := t.ch.set q (csOf src q r), aw := t.aw.set q ((csOf src q r).length : Int), fl := t.fl ++ (csOf src q r).map (fun x => ⟨1, q, x⟩) }
def TS.ask (t : TS) (src : Nat → List Nat) (q r : Nat) : TS :=
  if opOf t.unw q then (t.askN q r).ans q else if csOf src q r = [] then (t.askY src q r).ans q else t.askY src q r
def TS.got (t : TS) (x : Nt) : TS := if x.kd = 3 then { t with aw := t.aw.set x.to (nth t.aw x.to - 1), ch := t.ch.set x.to ((chR t.ch x.to).filter (fun y => y != x.fr)), ref := t.ref.set x.to true } else { t with aw := t.aw.set x.to (nth t.aw x.to - 1) }
def TS.dlv (t : TS) (src : Nat → List Nat) (x : Nt) : TS :=
  if x.kd = 1 then (if parN t.par x.to = -1 then t.ask src x.to x.fr else if opOf t.ref x.to then t.post ⟨3, x.to, x.fr⟩ else t.post ⟨2, x.to, x.fr⟩)
  else if x.kd = 2 ∨ x.kd = 3 then (if nth (t.got x).aw x.to = 0 then (t.got x).ans x.to else t.got x)
  else if x.kd = 4 then (if opOf t.tent x.to then t.dcd x.to 1 else t)
  else if opOf t.tent x.to then (if nth t.aw x.to = 0 then t.dcd x.to 2 else { t with ref := t.ref.set x.to true }) else t
/-- the note at a place arrives -/
def TS.step (t : TS) (src : Nat → List Nat) (k : Nat) : TS := ({ t with fl := t.fl.take k ++ t.fl.drop (k + 1) } : TS).dlv src (t.fl.getD k ⟨0, 0, 0⟩)
def TS.new (n root : Nat) (unw : List Bool) : TS := ⟨root, unw, List.replicate n (-1), List.replicate n false, List.replicate n 0, List.replicate n false, List.replicate n [], List.replicate n 0, []⟩
/-- the lists have one element for each process -/
structure TsL (n : Nat) (t : TS) : Prop where
  u : t.unw.length = n
  p : t.par.length = n
  te : t.tent.length = n
  a : t.aw.length = n
  r : t.ref.length = n
  c : t.ch.length = n
  d : t.dec.length = n
def TS.abs (t : TS) : AS := ⟨parN t.par, opOf t.tent, nth t.aw, opOf t.ref, chR t.ch, nth t.dec, t.fl⟩
def TS.env (t : TS) (n : Nat) (src : Nat → List Nat) : Tw := ⟨n, t.root, opOf t.unw, src⟩
theorem getD_setF {α : Type} (l : List α) {q : Nat} (h : q < l.length) (v d : α) (z : Nat) : (l.set q v).getD z d = if z = q then v else l.getD z d := by
  rw [List.getD_eq_getElem?_getD, List.getD_eq_getElem?_getD, List.getElem?_set]
  by_cases e : z = q
  · subst e; rw [if_pos rfl, if_pos h, if_pos rfl]; rfl
  · rw [if_neg (fun h => e h.symm), if_neg e]
theorem parN_set {l : List Int} {q : Nat} (h : q < l.length) (v : Int) : parN (l.set q v) = up (parN l) q v := funext fun z => getD_setF l h v (-1) z
theorem chR_set {l : List (List Nat)} {q : Nat} (h : q < l.length) (v : List Nat) : chR (l.set q v) = up (chR l) q v := funext fun z => getD_setF l h v [] z
theorem nthF_set {l : List Int} {q : Nat} (h : q < l.length) (v : Int) : nth (l.set q v) = up (nth l) q v := funext fun z => getD_setF l h v 0 z
theorem opF_set {l : List Bool} {q : Nat} (h : q < l.length) (v : Bool) : opOf (l.set q v) = up (opOf l) q v := funext fun z => getD_setF l h v false z
section
variable {n q r : Nat} {t : TS} {src : Nat → List Nat} {x : Nt} {d : Int}
theorem TsL.post (h : TsL n t) : TsL n (t.post x) := ⟨h.u, h.p, h.te, h.a, h.r, h.c, h.d⟩
theorem TsL.dcd (h : TsL n t) : TsL n (t.dcd q d) := ⟨h.u, h.p, by simp [TS.dcd, h.te], h.a, h.r, h.c, by simp [TS.dcd, h.d]⟩
theorem TsL.ans (h : TsL n t) : TsL n (t.ans q) := by
  unfold TS.ans; split
  · split <;> exact h.dcd
  · split
    · exact h.post.dcd
    · exact h.post
theorem TsL.askN (h : TsL n t) : TsL n (t.askN q r) := ⟨h.u, by simp [TS.askN, h.p], h.te, h.a, by simp [TS.askN, h.r], h.c, h.d⟩
theorem TsL.askY (h : TsL n t) : TsL n (t.askY src q r) := ⟨h.u, by simp [TS.askY, h.p], by simp [TS.askY, h.te], by simp [TS.askY, h.a], h.r, by simp [TS.askY, h.c], h.d⟩
theorem TsL.ask (h : TsL n t) : TsL n (t.ask src q r) := by
  unfold TS.ask; split
  · exact h.askN.ans
  · split
    · exact h.askY.ans
    · exact h.askY
theorem TsL.got (h : TsL n t) : TsL n (t.got x) := by
  unfold TS.got; split
  · exact ⟨h.u, h.p, h.te, by simp [h.a], by simp [h.r], by simp [h.c], h.d⟩
  · exact ⟨h.u, h.p, h.te, by simp [h.a], h.r, h.c, h.d⟩
theorem TsL.pop (h : TsL n t) (l : List Nt) : TsL n { t with fl := l } := ⟨h.u, h.p, h.te, h.a, h.r, h.c, h.d⟩
theorem TsL.dlv (h : TsL n t) : TsL n (t.dlv src x) := by
  unfold TS.dlv
  repeat' split
  all_goals first
    | exact h.ask | exact h.post | exact h.got.ans | exact h.got | exact h.dcd | exact h | exact ⟨h.u, h.p, h.te, h.a, by simp [h.r], h.c, h.d⟩
theorem TsL.step (h : TsL n t) (k : Nat) : TsL n (t.step src k) := (h.pop _).dlv
theorem TsL.new (root : Nat) {unw : List Bool} (hu : unw.length = n) : TsL n (TS.new n root unw) := ⟨hu, by simp [TS.new], by simp [TS.new], by simp [TS.new], by simp [TS.new], by simp [TS.new], by simp [TS.new]⟩
theorem ans_root : (t.ans q).root = t.root ∧ (t.ans q).unw = t.unw := by
  unfold TS.ans
  by_cases h1 : q = t.root
  · rw [if_pos h1]
    by_cases h2 : opOf t.ref q = true
    · rw [if_pos h2]; exact ⟨rfl, rfl⟩
    · rw [if_neg h2]; exact ⟨rfl, rfl⟩
  · rw [if_neg h1]
    by_cases h2 : opOf t.ref q = true
    · rw [if_pos h2]; exact ⟨rfl, rfl⟩
    · rw [if_neg h2]; exact ⟨rfl, rfl⟩
theorem ask_root : (t.ask src q r).root = t.root ∧ (t.ask src q r).unw = t.unw := by
  unfold TS.ask; split
  · exact ans_root
  · split
    · exact ans_root
    · exact ⟨rfl, rfl⟩
theorem got_root : (t.got x).root = t.root ∧ (t.got x).unw = t.unw := by unfold TS.got; split <;> exact ⟨rfl, rfl⟩
theorem dlv_root : (t.dlv src x).root = t.root ∧ (t.dlv src x).unw = t.unw := by
  unfold TS.dlv
  repeat' split
  all_goals first
    | exact ask_root | exact ⟨rfl, rfl⟩ | exact ⟨ans_root.1.trans got_root.1, ans_root.2.trans got_root.2⟩ | exact got_root
theorem step_env (k : Nat) : (t.step src k).env n src = t.env n src := by
  have h := dlv_root (t := { t with fl := t.fl.take k ++ t.fl.drop (k + 1) }) (src := src) (x := t.fl.getD k ⟨0, 0, 0⟩)
  simp only [TS.env]
  rw [show (t.step src k).root = t.root from h.1, show (t.step src k).unw = t.unw from h.2]
theorem abs_dcd (h : TsL n t) (hq : q < n) : (t.dcd q d).abs = t.abs.dcd q d := by
  simp only [TS.abs, TS.dcd, AS.dcd]
  rw [nthF_set (by rw [h.d]; exact hq), opF_set (by rw [h.te]; exact hq)]
theorem abs_ans (h : TsL n t) (hq : q < n) : (t.ans q).abs = t.abs.ans (t.env n src) q := by
  unfold TS.ans AS.ans
  by_cases e : q = t.root
  · rw [if_pos e, if_pos (show q = (t.env n src).root from e)]
    show _ = if opOf t.ref q = true then _ else _
    split <;> exact abs_dcd h hq
  · rw [if_neg e, if_neg (show ¬ q = (t.env n src).root from e)]
    show _ = if opOf t.ref q = true then _ else _
    split
    · exact abs_dcd h.post hq
    · rfl
theorem abs_ask (h : TsL n t) (hq : q < n) : (t.ask src q r).abs = t.abs.ask (t.env n src) q r := by
  unfold TS.ask AS.ask
  have h1 : (t.askN q r).abs = t.abs.askN (t.env n src) q r := by
    simp only [TS.abs, TS.askN, AS.askN]
    rw [parN_set (by rw [h.p]; exact hq), opF_set (by rw [h.r]; exact hq)]
  have h2 : (t.askY src q r).abs = t.abs.askY (t.env n src) q r := by
    simp only [TS.abs, TS.askY, AS.askY]
    rw [parN_set (by rw [h.p]; exact hq), opF_set (by rw [h.te]; exact hq), chR_set (by rw [h.c]; exact hq), nthF_set (by rw [h.a]; exact hq)]
    rfl
  by_cases e : opOf t.unw q = true
  · rw [if_pos e, if_pos (show (t.env n src).unw q = true from e), abs_ans (src := src) h.askN hq, h1]; rfl
  · rw [if_neg e, if_neg (show ¬ (t.env n src).unw q = true from e)]
    by_cases e2 : csOf src q r = []
    · rw [if_pos e2, if_pos (show (t.env n src).cs q r = [] from e2), abs_ans (src := src) h.askY hq, h2]; rfl
    · rw [if_neg e2, if_neg (show ¬ (t.env n src).cs q r = [] from e2), h2]
theorem abs_got (h : TsL n t) (hq : x.to < n) : (t.got x).abs = t.abs.got x := by
  unfold TS.got AS.got
  split
  · simp only [TS.abs]
    rw [nthF_set (by rw [h.a]; exact hq), opF_set (by rw [h.r]; exact hq), chR_set (by rw [h.c]; exact hq)]
  · simp only [TS.abs]
    rw [nthF_set (by rw [h.a]; exact hq)]
theorem abs_dlv (h : TsL n t) (hq : x.to < n) : (t.dlv src x).abs = t.abs.dlv (t.env n src) x := by
  unfold TS.dlv AS.dlv
  by_cases k1 : x.kd = 1
  · rw [if_pos k1, if_pos k1]
    show _ = if parN t.par x.to = -1 then _ else if opOf t.ref x.to = true then _ else _
    split
    · exact abs_ask h hq
    · split <;> rfl
  rw [if_neg k1, if_neg k1]
  by_cases k2 : x.kd = 2 ∨ x.kd = 3
  · rw [if_pos k2, if_pos k2, ← abs_got h hq]
    show _ = if nth (t.got x).aw x.to = 0 then _ else _
    split
    · rw [abs_ans (src := src) h.got hq]
      have : (t.got x).env n src = t.env n src := by simp only [TS.env]; rw [got_root.1, got_root.2]
      rw [this]
    · rfl
  rw [if_neg k2, if_neg k2]
  by_cases k4 : x.kd = 4
  · rw [if_pos k4, if_pos k4]
    show _ = if opOf t.tent x.to = true then _ else _
    split
    · exact abs_dcd h hq
    · rfl
  rw [if_neg k4, if_neg k4]
  show _ = if opOf t.tent x.to = true then (if nth t.aw x.to = 0 then _ else _) else _
  split
  · split
    · exact abs_dcd h hq
    · simp only [TS.abs]
      rw [opF_set (by rw [h.r]; exact hq)]
  · rfl
variable {A : Nat → Prop}
/-- what is kept -/
structure TwI (n : Nat) (src : Nat → List Nat) (A : Nat → Prop) (t : TS) : Prop where
  l : TsL n t
  e : (t.env n src).Ok
  cl : ∀ q, A q → opOf t.unw q = false → ∀ z ∈ src q, A z
  i : Inv (t.env n src) A n n t.abs
theorem fl_split (h : TwI n src A t) {k : Nat} (hk : k < t.fl.length) : t.fl = t.fl.take k ++ t.fl.getD k ⟨0, 0, 0⟩ :: t.fl.drop (k + 1) := by
  have : t.fl.getD k ⟨0, 0, 0⟩ = t.fl[k] := by simp [hk]
  rw [this, List.getElem_cons_drop, List.take_append_drop]
theorem TwI.to_lt (h : TwI n src A t) {k : Nat} (hk : k < t.fl.length) : (t.fl.getD k ⟨0, 0, 0⟩).to < n := by
  have : t.fl.getD k ⟨0, 0, 0⟩ ∈ t.fl := by simp [hk]
  exact (h.i.nt _ this).1
theorem TwI.step (h : TwI n src A t) {k : Nat} (hk : k < t.fl.length) : TwI n src A (t.step src k) := by
  have hs := fl_split h hk
  refine ⟨h.l.step k, by rw [step_env]; exact h.e, ?_, ?_⟩
  · have : (t.step src k).unw = t.unw := dlv_root.2
    rw [this]; exact h.cl
  · have h2 := h.i.dlv h.e h.cl (l1 := t.fl.take k) (l2 := t.fl.drop (k + 1)) (x := t.fl.getD k ⟨0, 0, 0⟩) hs
    rw [step_env]
    have h3 := abs_dlv (src := src) (x := t.fl.getD k ⟨0, 0, 0⟩) (h.l.pop (t.fl.take k ++ t.fl.drop (k + 1))) (h.to_lt hk)
    rw [TS.step, h3]
    exact h2
theorem TwI.mu (h : TwI n src A t) {k : Nat} (hk : k < t.fl.length) : (t.step src k).abs.mu (t.env n src) < t.abs.mu (t.env n src) := by
  have hs := fl_split h hk
  have h2 := h.i.mu_dlv h.e (l1 := t.fl.take k) (l2 := t.fl.drop (k + 1)) (x := t.fl.getD k ⟨0, 0, 0⟩) hs
  have h3 := abs_dlv (src := src) (x := t.fl.getD k ⟨0, 0, 0⟩) (h.l.pop (t.fl.take k ++ t.fl.drop (k + 1))) (h.to_lt hk)
  rw [TS.step, h3]
  exact h2
theorem abs_new (root : Nat) (unw : List Bool) : (TS.new n root unw).abs = AS.zero := by
  simp only [TS.abs, TS.new, AS.zero]
  congr 1
  all_goals
    funext z
    simp only [parN, opOf, nth, chR, List.getD_eq_getElem?_getD, List.getElem?_replicate]
    split <;> rfl
theorem TwI.begin {root : Nat} {unw : List Bool} (hu : unw.length = n) (hr : root < n) (hE : ∀ q s, s ∈ src q → s < n ∧ s ≠ q) (hnd : ∀ q, (src q).Nodup) (hA : A root) (hcl : ∀ q, A q → opOf unw q = false → ∀ z ∈ src q, A z) : TwI n src A ((TS.new n root unw).ask src root root) := by
  have hl : TsL n (TS.new n root unw) := TsL.new root hu
  have hok : ((TS.new n root unw).env n src).Ok := ⟨hr, fun q s h => (hE q s h).1, fun q s h => (hE q s h).2, hnd⟩
  have he : ((TS.new n root unw).ask src root root).env n src = (TS.new n root unw).env n src := by
    simp only [TS.env]; rw [ask_root.1, ask_root.2]
  refine ⟨hl.ask, by rw [he]; exact hok, by rw [ask_root.2]; exact hcl, ?_⟩
  rw [he, abs_ask hl hr, abs_new]
  exact Inv.begin hok hA
theorem mu_new {root : Nat} {unw : List Bool} (hu : unw.length = n) (hr : root < n) (hE : ∀ q s, s ∈ src q → s < n ∧ s ≠ q) (hnd : ∀ q, (src q).Nodup) : ((TS.new n root unw).ask src root root).abs.mu ((TS.new n root unw).env n src) ≤ 3 * n * n + 2 * n + 2 := by
  have hl : TsL n (TS.new n root unw) := TsL.new root hu
  have hok : ((TS.new n root unw).env n src).Ok := ⟨hr, fun q s h => (hE q s h).1, fun q s h => (hE q s h).2, hnd⟩
  rw [abs_ask hl hr, abs_new]
  exact mu_begin hok
end
end Go.Proofs.Ytmjmdncdmmcmaaa
