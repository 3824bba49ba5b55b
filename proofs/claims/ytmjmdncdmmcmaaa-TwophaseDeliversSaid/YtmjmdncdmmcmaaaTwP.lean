/- Two-phase checkpointing as a plain machine: what is kept by every delivery, in any order, how it ends, and that it ends. No condition. -/
import Derived.Test.YtmjmdncdmmcmaaaRows
namespace Go.Proofs.Ytmjmdncdmmcmaaa
set_option linter.unusedVariables false
set_option linter.unusedSimpArgs false

namespace Tph
/-- a note -/
structure Nt where
  kd : Int
  fr : Nat
  to : Nat
/-- the state of the machine, as functions of processes -/
structure AS where
  par : Nat → Int
  tent : Nat → Bool
  aw : Nat → Int
  ref : Nat → Bool
  ch : Nat → List Nat
  dec : Nat → Int
  fl : List Nt
def up {α : Type} (f : Nat → α) (q : Nat) (v : α) : Nat → α := fun x => if x = q then v else f x
theorem up_same {α : Type} (f : Nat → α) (q : Nat) (v : α) : up f q v q = v := by simp [up]
theorem up_of {α : Type} (f : Nat → α) (q x : Nat) (v : α) : up f q v x = if x = q then v else f x := rfl
/-- what does not change -/
structure Tw where
  n : Nat
  root : Nat
  unw : Nat → Bool
  src : Nat → List Nat
structure Tw.Ok (E : Tw) : Prop where
  rt : E.root < E.n
  lt : ∀ q s, s ∈ E.src q → s < E.n
  ne : ∀ q s, s ∈ E.src q → s ≠ q
  nd : ∀ q, (E.src q).Nodup
def AS.post (s : AS) (x : Nt) : AS := { s with fl := s.fl ++ [x] }
def AS.dcd (s : AS) (q : Nat) (d : Int) : AS := { s with dec := up s.dec q d, tent := up s.tent q false, fl := s.fl ++ (s.ch q).map (fun r => ⟨if d = 2 then 5 else 4, q, r⟩) }
def AS.ans (E : Tw) (s : AS) (q : Nat) : AS := if q = E.root then (if s.ref q then s.dcd q 2 else s.dcd q 1) else if s.ref q then (s.post ⟨3, q, (s.par q).toNat⟩).dcd q 2 else s.post ⟨2, q, (s.par q).toNat⟩
/-- the sources of a process but the one that asks -/
def Tw.cs (E : Tw) (q r : Nat) : List Nat := (E.src q).filter (fun x => x != r)
def AS.askN (E : Tw) (s : AS) (q r : Nat) : AS := { s with par := up s.par q r, ref := up s.ref q true }
def AS.askY (E : Tw) (s : AS) (q r : Nat) : AS := { s with par := up s.par q r, tent := up s.tent q true, ch := up s.ch q (E.cs q r), aw := up s.aw q ((E.cs q r).length : Int), fl := s.fl ++ (E.cs q r).map (fun x => ⟨1, q, x⟩) }
def AS.ask (E : Tw) (s : AS) (q r : Nat) : AS :=
  if E.unw q then (s.askN E q r).ans E q else if E.cs q r = [] then (s.askY E q r).ans E q else s.askY E q r
def AS.got (s : AS) (x : Nt) : AS := if x.kd = 3 then { s with aw := up s.aw x.to (s.aw x.to - 1), ch := up s.ch x.to ((s.ch x.to).filter (fun y => y != x.fr)), ref := up s.ref x.to true } else { s with aw := up s.aw x.to (s.aw x.to - 1) }
/-- a note arrives; it has been taken out of the flight -/
def AS.dlv (E : Tw) (s : AS) (x : Nt) : AS :=
  if x.kd = 1 then (if s.par x.to = -1 then s.ask E x.to x.fr else if s.ref x.to then s.post ⟨3, x.to, x.fr⟩ else s.post ⟨2, x.to, x.fr⟩)
  else if x.kd = 2 ∨ x.kd = 3 then (if (s.got x).aw x.to = 0 then (s.got x).ans E x.to else s.got x)
  else if x.kd = 4 then (if s.tent x.to then s.dcd x.to 1 else s)
  else if s.tent x.to then (if s.aw x.to = 0 then s.dcd x.to 2 else { s with ref := up s.ref x.to true }) else s

def isReq (r : Nat) (x : Nt) : Bool := decide (x.kd = 1) && x.fr == r
def isAns (r : Nat) (x : Nt) : Bool := (decide (x.kd = 2) || decide (x.kd = 3)) && x.to == r
/-- has not answered yet; o: a process that is about to answer -/
def AS.pend (s : AS) (o q : Nat) : Bool := decide (0 < s.aw q) || q == o
def AS.kid (s : AS) (E : Tw) (o r q : Nat) : Bool := q != E.root && decide (s.par q = (r : Int)) && s.pend o q
def AS.count (s : AS) (E : Tw) (o r : Nat) : Nat := s.fl.countP (isReq r) + s.fl.countP (isAns r) + (List.range E.n).countP (s.kid E o r)

structure Inv (E : Tw) (A : Nat → Prop) (o o2 : Nat) (s : AS) : Prop where
  rt : s.par E.root = E.root
  pv : ∀ q, s.par q ≠ -1 → q < E.n ∧ ∃ r : Nat, s.par q = r ∧ s.par r ≠ -1
  rk : ∃ (f : Nat → Nat) (N : Nat), (∀ q, f q ≤ N) ∧ ∀ q r : Nat, q ≠ E.root → s.par q = r → f r < f q
  un : ∀ q, s.par q = -1 → s.ch q = [] ∧ s.aw q = 0 ∧ s.tent q = false ∧ s.ref q = false ∧ s.dec q = 0
  oa : o < E.n → s.par o ≠ -1
  aw0 : ∀ q, 0 ≤ s.aw q
  oz : s.aw o = 0
  nt : ∀ x ∈ s.fl, x.to < E.n ∧ s.par x.fr ≠ -1
  n1 : ∀ x ∈ s.fl, x.kd = 1 → x.to ∈ E.src x.fr ∧ E.unw x.fr = false ∧ (x.to ∈ s.ch x.fr ∨ s.ref x.to = true)
  n2 : ∀ x ∈ s.fl, x.kd = 2 ∨ x.kd = 3 → s.par x.to ≠ -1 ∧ (x.kd = 3 → s.ref x.fr = true)
  n0 : ∀ x ∈ s.fl, x.kd ≠ 1 → s.par x.to ≠ -1
  n4 : ∀ x ∈ s.fl, x.kd = 4 → s.dec x.fr = 1
  n5 : ∀ x ∈ s.fl, x.kd = 5 → s.dec x.fr = 2
  nk : ∀ x ∈ s.fl, x.kd = 1 ∨ x.kd = 2 ∨ x.kd = 3 ∨ x.kd = 4 ∨ x.kd = 5
  cnt : ∀ r, r < E.n → s.aw r = s.count E o r
  sr : ∀ q, s.par q ≠ -1 → E.unw q = false → ∀ x ∈ E.src q, s.par x ≠ -1 ∨ (⟨1, q, x⟩ : Nt) ∈ s.fl
  uw : ∀ q, s.par q ≠ -1 → E.unw q = true → s.ref q = true ∧ s.ch q = []
  chi : ∀ q r : Nat, q ≠ E.root → s.par q = r → q ∈ s.ch r ∨ s.ref q = true
  rf : ∀ q r : Nat, q ≠ E.root → s.par q = r → s.ref q = true → s.pend o q = true ∨ (⟨3, q, r⟩ : Nt) ∈ s.fl ∨ s.ref r = true
  d3 : ∀ q, s.dec q = 0 ∨ s.dec q = 1 ∨ s.dec q = 2
  d2 : ∀ q, s.dec q = 2 → ∃ z, s.ref z = true
  ru : ∀ z, s.ref z = true → ∃ y, s.par y ≠ -1 ∧ E.unw y = true
  p1 : ∀ q, s.dec q = 1 → s.dec E.root = 1
  pf : s.dec E.root = 1 → (∀ q, s.par q ≠ -1 → s.pend o q = false) ∧ (∀ q, s.ref q = false) ∧ ∀ x ∈ s.fl, x.kd = 4
  an : ∀ q, q ≠ o2 → s.par q ≠ -1 → s.pend o q = false → (q = E.root ∨ s.ref q = true) → s.dec q ≠ 0
  pd : ∀ q, s.par q ≠ -1 → s.pend o q = true → s.dec q = 0
  tn : ∀ q, s.par q ≠ -1 → (q = o ∨ q = o2 → E.unw q = false) → (s.tent q = true ↔ s.dec q = 0)
  c1 : ∀ q r : Nat, q ≠ E.root → s.par q = r → s.dec r = 1 → s.dec q = 1 ∨ (⟨4, r, q⟩ : Nt) ∈ s.fl
  c2 : ∀ q r : Nat, q ≠ E.root → s.par q = r → s.dec r = 2 → s.dec q ≠ 0 ∨ (⟨5, r, q⟩ : Nt) ∈ s.fl ∨ (s.ref q = true ∧ (s.pend o q = true ∨ q = o2))
  cl : ∀ q x, x ∈ s.ch q → x ∈ E.src q
  cd : ∀ q, (s.ch q).Nodup
  ina : ∀ q, s.par q ≠ -1 → A q
section
variable {E : Tw} {A : Nat → Prop} {o o2 q r : Nat} {s : AS} {x : Nt}
theorem Inv.ref_as (h : Inv E A o o2 s) (hr : s.ref q = true) : s.par q ≠ -1 := fun e => by
  have := (h.un q e).2.2.2.1; rw [hr] at this; cases this
theorem Inv.lt (h : Inv E A o o2 s) (hr : s.par q ≠ -1) : q < E.n := (h.pv q hr).1
/-- the tree: what holds of nobody's child .. -/
theorem Inv.tree (h : Inv E A o o2 s) {P : Nat → Prop} (h0 : P E.root) (hs : ∀ q r : Nat, q ≠ E.root → s.par q = r → P r → P q) : ∀ q, s.par q ≠ -1 → P q := by
  obtain ⟨f, N, hN, hf⟩ := h.rk
  have : ∀ k q, f q ≤ k → s.par q ≠ -1 → P q := by
    intro k
    induction k with
    | zero =>
      intro q hk hq
      by_cases e : q = E.root
      · exact e ▸ h0
      · obtain ⟨_, r, hr, _⟩ := h.pv q hq
        have := hf q r e hr
        omega
    | succ k ih =>
      intro q hk hq
      by_cases e : q = E.root
      · exact e ▸ h0
      · obtain ⟨_, r, hr, hr2⟩ := h.pv q hq
        have := hf q r e hr
        exact hs q r e hr (ih r (by omega) hr2)
  intro q hq
  exact this (f q) q (Nat.le_refl _) hq
end
section
variable {E : Tw} {A : Nat → Prop} {o o2 q r : Nat} {s : AS} {x : Nt}
theorem range_cp {n q : Nat} {p p' : Nat → Bool} (hq : q < n) (h : ∀ x, x < n → x ≠ q → p' x = p x) : (List.range n).countP p' + (p q).toNat = (List.range n).countP p + (p' q).toNat := by
  induction n with
  | zero => omega
  | succ n ih =>
    rw [List.range_succ, List.countP_append, List.countP_append, List.countP_singleton, List.countP_singleton]
    by_cases e : q = n
    · subst e
      have : (List.range q).countP p' = (List.range q).countP p := List.countP_congr fun x hx => by
        have := List.mem_range.1 hx
        rw [h x (by omega) (by omega)]
      rw [this]
      cases p q <;> cases p' q <;> simp
    · have := ih (by omega) (fun x hx => h x (by omega))
      rw [h n (by omega) (fun h => e h.symm)]
      omega
theorem range_cc {n : Nat} {p p' : Nat → Bool} (h : ∀ x, x < n → p' x = p x) : (List.range n).countP p' = (List.range n).countP p := List.countP_congr fun x hx => by rw [h x (List.mem_range.1 hx)]
theorem mem_rest {l1 l2 : List Nt} {x y : Nt} {l : List Nt} (h : l = l1 ++ x :: l2) (hy : y ∈ l1 ++ l2) : y ∈ l := by
  subst h; simp at hy ⊢; rcases hy with h | h <;> simp [h]
theorem mem_of {l1 l2 : List Nt} {x y : Nt} {l : List Nt} (h : l = l1 ++ x :: l2) (hy : y ∈ l) : y = x ∨ y ∈ l1 ++ l2 := by
  subst h; simp at hy ⊢; rcases hy with h | h | h <;> simp [h]
theorem cp_rest {l1 l2 : List Nt} {x : Nt} {l : List Nt} (h : l = l1 ++ x :: l2) (p : Nt → Bool) : l.countP p = (l1 ++ l2).countP p + (p x).toNat := by
  subst h; simp only [List.countP_append, List.countP_cons]
  cases p x <;> simp <;> omega
theorem cp_one (p : Nt → Bool) (y : Nt) : [y].countP p = (p y).toNat := by cases h : p y <;> simp [h]
/-- a request to a process that was asked already -/
theorem Inv.again (h : Inv E A E.n E.n s) {l1 l2 : List Nt} (hf : s.fl = l1 ++ x :: l2) (hk : x.kd = 1) (hp : s.par x.to ≠ -1) {y : Nt} (hy : y.fr = x.to ∧ y.to = x.fr) (hy2 : (y.kd = 2) ∨ (y.kd = 3 ∧ s.ref x.to = true)) :
    Inv E A E.n E.n { s with fl := l1 ++ l2 ++ [y] } := by
  have hx : x ∈ s.fl := by rw [hf]; simp
  have hin : ∀ z, z ∈ l1 ++ l2 ++ [y] → z = y ∨ z ∈ s.fl := fun z hz => by
    rcases List.mem_append.1 hz with h | h
    · exact .inr (mem_rest hf h)
    · exact .inl (by simpa using h)
  have hin2 : ∀ z, z ∈ s.fl → z = x ∨ z ∈ l1 ++ l2 ++ [y] := fun z hz => by
    rcases mem_of hf hz with h | h
    · exact .inl h
    · exact .inr (by simp only [List.mem_append] at h ⊢; exact .inl h)
  have hnt := h.nt x hx
  obtain ⟨yk, yf, yt⟩ := y
  obtain ⟨rfl, rfl⟩ : yf = x.to ∧ yt = x.fr := hy
  simp only at hy2
  have hcp : ∀ p : Nt → Bool, (l1 ++ l2 ++ [(⟨yk, x.to, x.fr⟩ : Nt)]).countP p + (p x).toNat = s.fl.countP p + (p ⟨yk, x.to, x.fr⟩).toNat := fun p => by
    rw [List.countP_append, cp_one, cp_rest hf p]; omega
  have hpf : s.dec E.root = 1 → False := fun e => by have := (h.pf e).2.2 x hx; omega
  generalize hl : l1 ++ l2 ++ [⟨yk, x.to, x.fr⟩] = l at *
  have hyl : (⟨yk, x.to, x.fr⟩ : Nt) ∈ l := by rw [← hl]; simp
  clear hf hl
  constructor
  case rt => exact h.rt
  case pv => exact h.pv
  case rk => exact h.rk
  case un => exact h.un
  case oa => exact h.oa
  case aw0 => exact h.aw0
  case oz => exact h.oz
  case nt =>
    intro z hz
    rcases hin z hz with rfl | hz
    · exact ⟨h.lt hnt.2, hp⟩
    · exact h.nt z hz
  case n1 =>
    intro z hz h1
    rcases hin z hz with rfl | hz
    · simp only at h1; omega
    · exact h.n1 z hz h1
  case n2 =>
    intro z hz h1
    rcases hin z hz with rfl | hz
    · refine ⟨hnt.2, fun h2 => ?_⟩
      simp only at h2; rcases hy2 with h3 | h3
      · omega
      · exact h3.2
    · exact h.n2 z hz h1
  case n0 =>
    intro z hz h1
    rcases hin z hz with rfl | hz
    · exact hnt.2
    · exact h.n0 z hz h1
  case n4 =>
    intro z hz h1
    rcases hin z hz with rfl | hz
    · simp only at h1; omega
    · exact h.n4 z hz h1
  case n5 =>
    intro z hz h1
    rcases hin z hz with rfl | hz
    · simp only at h1; omega
    · exact h.n5 z hz h1
  case nk =>
    intro z hz
    rcases hin z hz with rfl | hz
    · simp only; omega
    · exact h.nk z hz
  case cnt =>
    intro r hr
    have h0 := h.cnt r hr
    have h1 := hcp (isReq r)
    have h2 := hcp (isAns r)
    have e1 : isReq r x = (x.fr == r) := by simp [isReq, hk]
    have e2 : isAns r x = false := by simp [isAns, hk]
    have e3 : isReq r ⟨yk, x.to, x.fr⟩ = false := by
      have : decide (yk = 1) = false := by simp; omega
      simp [isReq, this]
    have e4 : isAns r ⟨yk, x.to, x.fr⟩ = (x.fr == r) := by
      have : (decide (yk = 2) || decide (yk = 3)) = true := by simp; omega
      simp only [isAns, this, Bool.true_and]
    rw [e1, e3] at h1
    rw [e2, e4] at h2
    unfold AS.count at h0 ⊢
    simp only
    rw [h0]
    simp only [Bool.toNat_false] at h1 h2
    show _ = (((l.countP (isReq r) + l.countP (isAns r) + (List.range E.n).countP (s.kid E E.n r) : Nat)) : Int)
    omega
  case sr =>
    intro q hq hu z hz
    rcases h.sr q hq hu z hz with h1 | h1
    · exact .inl h1
    · rcases hin2 _ h1 with rfl | h2
      · exact .inl hp
      · exact .inr h2
  case uw => exact h.uw
  case chi => exact h.chi
  case rf =>
    intro q r h1 h2 h3
    rcases h.rf q r h1 h2 h3 with h4 | h4 | h4
    · exact .inl h4
    · rcases hin2 _ h4 with h5 | h5
      · rw [← h5] at hk; simp at hk
      · exact .inr (.inl h5)
    · exact .inr (.inr h4)
  case d3 => exact h.d3
  case d2 => exact h.d2
  case ru => exact h.ru
  case p1 => exact h.p1
  case pf => intro e; exact (hpf e).elim
  case an => exact h.an
  case pd => exact h.pd
  case tn => exact h.tn
  case c1 => intro q r h1 h2 h3; exact (hpf (h.p1 r h3)).elim
  case c2 =>
    intro q r h1 h2 h3
    rcases h.c2 q r h1 h2 h3 with h4 | h4 | h4
    · exact .inl h4
    · rcases hin2 _ h4 with h5 | h5
      · rw [← h5] at hk; simp at hk
      · exact .inr (.inl h5)
    · exact .inr (.inr h4)
  case cl => exact h.cl
  case cd => exact h.cd
  case ina => exact h.ina
end
section
variable {E : Tw} {A : Nat → Prop} {o o2 q r : Nat} {s : AS} {x : Nt}
theorem cp_no (p : Nt → Bool) (l : List Nt) (h : ∀ y ∈ l, p y = false) : l.countP p = 0 := List.countP_eq_zero.2 fun y hy => by simp [h y hy]
theorem pend_n (s : AS) (E : Tw) {q : Nat} (hq : q < E.n) : s.pend E.n q = decide (0 < s.aw q) := by
  have : (q == E.n) = false := by simp; omega
  simp [AS.pend, this]
/-- a process decides -/
theorem Inv.dcd (hE : E.Ok) (h : Inv E A E.n o2 s) (ho : o2 = E.n ∨ o2 = q) (hq : s.par q ≠ -1) (h0 : s.dec q = 0) (ha : s.aw q = 0) {d : Int}
    (hd : (d = 1 ∧ (q = E.root ∨ s.dec E.root = 1) ∧ (∀ z, s.par z ≠ -1 → s.pend E.n z = false) ∧ (∀ z, s.ref z = false) ∧ ∀ x ∈ s.fl, x.kd = 4) ∨ (d = 2 ∧ ∃ z, s.ref z = true)) : Inv E A E.n E.n (s.dcd q d) := by
  have hqn := h.lt hq
  have hdec : ∀ z, (s.dcd q d).dec z = if z = q then d else s.dec z := fun z => rfl
  have htent : ∀ z, (s.dcd q d).tent z = if z = q then false else s.tent z := fun z => rfl
  have hpar : ∀ z, (s.dcd q d).par z = s.par z := fun z => rfl
  have hpend : ∀ z, (s.dcd q d).pend E.n z = s.pend E.n z := fun z => rfl
  have href : ∀ z, (s.dcd q d).ref z = s.ref z := fun z => rfl
  have hch : ∀ z, (s.dcd q d).ch z = s.ch z := fun z => rfl
  have haw : ∀ z, (s.dcd q d).aw z = s.aw z := fun z => rfl
  have hfl : ∀ y, y ∈ (s.dcd q d).fl ↔ y ∈ s.fl ∨ ∃ r ∈ s.ch q, y = ⟨if d = 2 then 5 else 4, q, r⟩ := fun y => by
    simp only [AS.dcd, List.mem_append, List.mem_map]
    exact or_congr Iff.rfl ⟨fun ⟨a, b, c⟩ => ⟨a, b, c.symm⟩, fun ⟨a, b, c⟩ => ⟨a, b, c.symm⟩⟩
  have hcnt : ∀ r, (s.dcd q d).count E E.n r = s.count E E.n r := fun r => by
    have e : ∀ p : Nt → Bool, (∀ r, p ⟨if d = 2 then 5 else 4, q, r⟩ = false) → (s.dcd q d).fl.countP p = s.fl.countP p := fun p hp => by
      have e3 : ((s.ch q).map (fun r => (⟨if d = 2 then 5 else 4, q, r⟩ : Nt))).countP p = 0 := cp_no p _ (fun y hy => by obtain ⟨r, _, rfl⟩ := List.mem_map.1 hy; exact hp r)
      simp only [AS.dcd, List.countP_append, e3, Nat.add_zero]
    have e2 : (List.range E.n).countP ((s.dcd q d).kid E E.n r) = (List.range E.n).countP (s.kid E E.n r) := rfl
    unfold AS.count
    rw [e, e, e2]
    · intro r; simp only [isAns]; split <;> simp
    · intro r; simp only [isReq]; split <;> simp
  have hcha : ∀ r ∈ s.ch q, s.par r ≠ -1 := fun r hr => by
    have hu : E.unw q = false := by
      cases hu : E.unw q with
      | false => rfl
      | true => rw [(h.uw q hq hu).2] at hr; cases hr
    rcases h.sr q hq hu r (h.cl q r hr) with h1 | h1
    · exact h1
    · have h2 := h.cnt q hqn
      have : 0 < s.fl.countP (isReq q) := List.countP_pos_iff.2 ⟨_, h1, by simp [isReq]⟩
      unfold AS.count at h2
      omega
  have hrt := h.rt
  have hroot : s.dec E.root = 1 → ∀ z, s.ref z = false := fun e => (h.pf e).2.1
  generalize s.dcd q d = t at *
  constructor
  case rt => rw [hpar]; exact h.rt
  case pv => intro z hz; simp only [hpar] at hz ⊢; exact h.pv z hz
  case rk => simp only [hpar]; exact h.rk
  case un =>
    intro z hz
    rw [hpar] at hz
    have := h.un z hz
    rw [hch, haw, htent, href, hdec]
    have hne : z ≠ q := fun e => hq (e ▸ hz)
    simp only [hne, if_false]
    exact this
  case oa => exact fun e => absurd e (by omega)
  case aw0 => intro z; rw [haw]; exact h.aw0 z
  case oz => rw [haw]; exact h.oz
  case nt =>
    intro z hz
    simp only [hpar]
    rcases (hfl z).1 hz with hz | ⟨r, hr, rfl⟩
    · exact h.nt z hz
    · exact ⟨hE.lt q r (h.cl q r hr), hq⟩
  case n1 =>
    intro z hz h1
    simp only [hch, href]
    rcases (hfl z).1 hz with hz | ⟨r, hr, rfl⟩
    · exact h.n1 z hz h1
    · simp only at h1; split at h1 <;> omega
  case n2 =>
    intro z hz h1
    simp only [hpar, href]
    rcases (hfl z).1 hz with hz | ⟨r, hr, rfl⟩
    · exact h.n2 z hz h1
    · simp only at h1; split at h1 <;> omega
  case n0 =>
    intro z hz h1
    rw [hpar]
    rcases (hfl z).1 hz with hz | ⟨r, hr, rfl⟩
    · exact h.n0 z hz h1
    · exact hcha r hr
  case n4 =>
    intro z hz h1
    rw [hdec]
    rcases (hfl z).1 hz with hz | ⟨r, hr, rfl⟩
    · have := h.n4 z hz h1
      split
      · rename_i e; rw [e] at this; omega
      · exact this
    · simp only [if_true] at h1 ⊢; split at h1 <;> omega
  case n5 =>
    intro z hz h1
    rw [hdec]
    rcases (hfl z).1 hz with hz | ⟨r, hr, rfl⟩
    · have := h.n5 z hz h1
      split
      · rename_i e; rw [e] at this; omega
      · exact this
    · simp only [if_true] at h1 ⊢; split at h1 <;> omega
  case nk =>
    intro z hz
    rcases (hfl z).1 hz with hz | ⟨r, hr, rfl⟩
    · exact h.nk z hz
    · simp only; split <;> omega
  case cnt => intro r hr; rw [haw, hcnt]; exact h.cnt r hr
  case sr =>
    intro z hz hu y hy
    rw [hpar] at hz ⊢
    rcases h.sr z hz hu y hy with h1 | h1
    · exact .inl h1
    · exact .inr ((hfl _).2 (.inl h1))
  case uw => intro z hz hu; rw [hpar] at hz; rw [href, hch]; exact h.uw z hz hu
  case chi => intro z r h1 h2; rw [hpar] at h2; rw [hch, href]; exact h.chi z r h1 h2
  case rf =>
    intro z r h1 h2 h3
    rw [hpar] at h2; rw [href] at h3 ⊢; rw [hpend]
    rcases h.rf z r h1 h2 h3 with h4 | h4 | h4
    · exact .inl h4
    · exact .inr (.inl ((hfl _).2 (.inl h4)))
    · exact .inr (.inr h4)
  case d3 =>
    intro z
    rw [hdec]
    split
    · rcases hd with h1 | h1 <;> omega
    · exact h.d3 z
  case d2 =>
    intro z hz
    rw [hdec] at hz
    simp only [href]
    split at hz
    · rcases hd with h1 | h1
      · omega
      · exact h1.2
    · exact h.d2 z hz
  case ru => intro z hz; rw [href] at hz; simp only [hpar]; exact h.ru z hz
  case p1 =>
    intro z hz
    rw [hdec] at hz ⊢
    split at hz
    · split
      · exact hz
      · rename_i e1 e2
        rcases hd with h1 | h1
        · exact h1.2.1.resolve_left (fun e => e2 e.symm)
        · omega
    · have := h.p1 z hz
      split
      · rename_i e; rw [e] at this; omega
      · exact this
  case pf =>
    intro hz
    rw [hdec] at hz
    have key : (∀ z, s.par z ≠ -1 → s.pend E.n z = false) ∧ (∀ z, s.ref z = false) ∧ (∀ x ∈ s.fl, x.kd = 4) ∧ d = 1 := by
      split at hz
      · rcases hd with h1 | h1
        · exact ⟨h1.2.2.1, h1.2.2.2.1, h1.2.2.2.2, h1.1⟩
        · omega
      · have h2 := h.pf hz
        rcases hd with h1 | ⟨_, z, h1⟩
        · exact ⟨h2.1, h2.2.1, h2.2.2, h1.1⟩
        · have := h2.2.1 z; rw [this] at h1; cases h1
    refine ⟨fun z hz => by rw [hpend]; exact key.1 z (by rwa [hpar] at hz), fun z => by rw [href]; exact key.2.1 z, fun z hz => ?_⟩
    rcases (hfl z).1 hz with hz | ⟨r, hr, rfl⟩
    · exact key.2.2.1 z hz
    · simp only; rw [if_neg (by omega)]
  case an =>
    intro z _ hz h1 h2
    rw [hpar] at hz; rw [hpend] at h1; rw [href] at h2; rw [hdec]
    split
    · rcases hd with h1 | h1 <;> omega
    · rename_i e
      refine h.an z (fun e2 => ?_) hz h1 h2
      rcases ho with ho | ho
      · have := h.lt hz; omega
      · exact e (e2.trans ho)
  case pd =>
    intro z hz h1
    rw [hpar] at hz; rw [hpend] at h1; rw [hdec]
    split
    · rename_i e
      rw [e, pend_n s E hqn] at h1
      simp only [decide_eq_true_eq] at h1
      omega
    · exact h.pd z hz h1
  case tn =>
    intro z hz _
    rw [hpar] at hz
    rw [hdec, htent]
    split
    · simp; rcases hd with h1 | h1 <;> omega
    · rename_i e
      refine h.tn z hz (fun e2 => ?_)
      have := h.lt hz
      rcases ho with ho | ho
      · omega
      · rcases e2 with e2 | e2
        · omega
        · exact absurd (e2.trans ho) e
  case c1 =>
    intro z r h1 h2 h3
    rw [hpar] at h2; rw [hdec] at h3
    rw [hdec, hfl]
    split at h3
    · rename_i er
      subst er
      have hd1 : d = 1 := h3
      rcases hd with hd | hd
      · rcases h.chi z r h1 h2 with h4 | h4
        · exact .inr (.inr ⟨z, h4, by rw [if_neg (by omega)]⟩)
        · rw [hd.2.2.2.1 z] at h4; cases h4
      · omega
    · have hr := h.p1 r h3
      rcases h.c1 z r h1 h2 h3 with h4 | h4
      · split
        · rcases hd with hd | ⟨_, y, hy⟩
          · exact .inl hd.1
          · rw [hroot hr y] at hy; cases hy
        · exact .inl h4
      · exact .inr (.inl h4)
  case c2 =>
    intro z r h1 h2 h3
    rw [hpar] at h2; rw [hdec] at h3
    rw [hdec, hfl, href, hpend]
    by_cases ez : z = q
    · rw [if_pos ez]
      exact .inl (by rcases hd with h1 | h1 <;> omega)
    · rw [if_neg ez]
      split at h3
      · rename_i er
        subst er
        rcases h.chi z r h1 h2 with h4 | h4
        · exact .inr (.inl (.inr ⟨z, h4, by rw [if_pos h3]⟩))
        · by_cases hp : s.pend E.n z = true
          · exact .inr (.inr ⟨h4, .inl hp⟩)
          · refine .inl (h.an z (fun e2 => ?_) (h.ref_as h4) (by simpa using hp) (.inr h4))
            have := h.lt (h.ref_as h4)
            rcases ho with ho | ho
            · omega
            · exact ez (e2.trans ho)
      · rcases h.c2 z r h1 h2 h3 with h4 | h4 | ⟨h4, h5⟩
        · exact .inl h4
        · exact .inr (.inl (.inl h4))
        · rcases h5 with h5 | h5
          · exact .inr (.inr ⟨h4, .inl h5⟩)
          · have := h.lt (h.ref_as h4)
            rcases ho with ho | ho
            · omega
            · exact absurd (h5.trans ho) ez
  case cl => intro z y; rw [hch]; exact h.cl z y
  case cd => intro z; rw [hch]; exact h.cd z
  case ina => intro z hz; rw [hpar] at hz; exact h.ina z hz
end
section
variable {E : Tw} {A : Nat → Prop} {o o2 q r : Nat} {s : AS} {x : Nt}
/-- a commit or an abort that has no more to say -/
theorem Inv.rest (h : Inv E A E.n E.n s) {l1 l2 : List Nt} (hf : s.fl = l1 ++ x :: l2) (hx : (x.kd = 4 ∧ s.dec x.to = 1) ∨ (x.kd = 5 ∧ (s.dec x.to ≠ 0 ∨ (s.ref x.to = true ∧ s.pend E.n x.to = true)))) : Inv E A E.n E.n { s with fl := l1 ++ l2 } := by
  have hin : ∀ z, z ∈ l1 ++ l2 → z ∈ s.fl := fun z hz => mem_rest hf hz
  have hin2 : ∀ z, z ∈ s.fl → z = x ∨ z ∈ l1 ++ l2 := fun z hz => mem_of hf hz
  have hcp : ∀ p : Nt → Bool, p x = false → (l1 ++ l2).countP p = s.fl.countP p := fun p hp => by rw [cp_rest hf p, hp]; rfl
  generalize l1 ++ l2 = l at *
  constructor
  case rt => exact h.rt
  case pv => exact h.pv
  case rk => exact h.rk
  case un => exact h.un
  case oa => exact h.oa
  case aw0 => exact h.aw0
  case oz => exact h.oz
  case nt => exact fun z hz => h.nt z (hin z hz)
  case n1 => exact fun z hz => h.n1 z (hin z hz)
  case n2 => exact fun z hz => h.n2 z (hin z hz)
  case n0 => exact fun z hz => h.n0 z (hin z hz)
  case n4 => exact fun z hz => h.n4 z (hin z hz)
  case n5 => exact fun z hz => h.n5 z (hin z hz)
  case nk => exact fun z hz => h.nk z (hin z hz)
  case cnt =>
    intro r hr
    have h0 := h.cnt r hr
    unfold AS.count at h0 ⊢
    simp only
    rw [hcp _ (by simp only [isReq]; rcases hx with h1 | h1 <;> simp [h1.1]), hcp _ (by simp only [isAns]; rcases hx with h1 | h1 <;> simp [h1.1])]
    exact h0
  case sr =>
    intro q hq hu z hz
    rcases h.sr q hq hu z hz with h1 | h1
    · exact .inl h1
    · rcases hin2 _ h1 with h2 | h2
      · rw [← h2] at hx; simp at hx
      · exact .inr h2
  case uw => exact h.uw
  case chi => exact h.chi
  case rf =>
    intro q r h1 h2 h3
    rcases h.rf q r h1 h2 h3 with h4 | h4 | h4
    · exact .inl h4
    · rcases hin2 _ h4 with h5 | h5
      · rw [← h5] at hx; simp at hx
      · exact .inr (.inl h5)
    · exact .inr (.inr h4)
  case d3 => exact h.d3
  case d2 => exact h.d2
  case ru => exact h.ru
  case p1 => exact h.p1
  case pf => exact fun e => ⟨(h.pf e).1, (h.pf e).2.1, fun z hz => (h.pf e).2.2 z (hin z hz)⟩
  case an => exact h.an
  case pd => exact h.pd
  case tn => exact h.tn
  case c1 =>
    intro q r h1 h2 h3
    rcases h.c1 q r h1 h2 h3 with h4 | h4
    · exact .inl h4
    · rcases hin2 _ h4 with h5 | h5
      · rw [← h5] at hx; simp at hx; exact .inl hx
      · exact .inr h5
  case c2 =>
    intro q r h1 h2 h3
    rcases h.c2 q r h1 h2 h3 with h4 | h4 | h4
    · exact .inl h4
    · rcases hin2 _ h4 with h5 | h5
      · rw [← h5] at hx; simp at hx
        rcases hx with h6 | h6
        · exact .inl h6
        · exact .inr (.inr ⟨h6.1, .inl h6.2⟩)
      · exact .inr (.inl h5)
    · exact .inr (.inr h4)
  case cl => exact h.cl
  case cd => exact h.cd
  case ina => exact h.ina
/-- a process that has not answered yet hears of an abort -/
theorem Inv.refset (h : Inv E A E.n E.n s) (hq : s.par q ≠ -1) (hp : s.pend E.n q = true) (hr : ∃ z, s.ref z = true) : Inv E A E.n E.n { s with ref := up s.ref q true } := by
  have hm : ∀ z, s.ref z = true → up s.ref q true z = true := fun z hz => by unfold up; split <;> simp [hz]
  have hu : ∀ z, up s.ref q true z = true → z = q ∨ s.ref z = true := fun z hz => by
    unfold up at hz; split at hz
    · exact .inl (by assumption)
    · exact .inr hz
  constructor
  case rt => exact h.rt
  case pv => exact h.pv
  case rk => exact h.rk
  case un =>
    intro z hz
    have := h.un z hz
    have hne : z ≠ q := fun e => hq (e ▸ hz)
    simp only [up, hne, if_false]
    exact this
  case oa => exact h.oa
  case aw0 => exact h.aw0
  case oz => exact h.oz
  case nt => exact h.nt
  case n1 => exact fun z hz e => ⟨(h.n1 z hz e).1, (h.n1 z hz e).2.1, (h.n1 z hz e).2.2.imp id (hm _)⟩
  case n2 => exact fun z hz e => ⟨(h.n2 z hz e).1, fun e2 => hm _ ((h.n2 z hz e).2 e2)⟩
  case n0 => exact h.n0
  case n4 => exact h.n4
  case n5 => exact h.n5
  case nk => exact h.nk
  case cnt => exact h.cnt
  case sr => exact h.sr
  case uw => exact fun z hz e => ⟨hm _ (h.uw z hz e).1, (h.uw z hz e).2⟩
  case chi => exact fun z r e1 e2 => (h.chi z r e1 e2).imp id (hm _)
  case rf =>
    intro z r e1 e2 e3
    rcases hu z e3 with rfl | e3
    · exact .inl hp
    · exact (h.rf z r e1 e2 e3).imp id (fun h => h.imp id (hm _))
  case d3 => exact h.d3
  case d2 => exact fun z hz => ⟨q, by simp [up]⟩
  case ru => exact fun z hz => by obtain ⟨y, hy⟩ := hr; exact h.ru y hy
  case p1 => exact h.p1
  case pf => exact fun e => by obtain ⟨y, hy⟩ := hr; rw [(h.pf e).2.1 y] at hy; cases hy
  case an =>
    intro z e0 e1 e2 e3
    rcases e3 with e3 | e3
    · exact h.an z e0 e1 e2 (.inl e3)
    · rcases hu z e3 with rfl | e3
      · have e4 : s.pend E.n z = false := e2
        rw [hp] at e4; cases e4
      · exact h.an z e0 e1 e2 (.inr e3)
  case pd => exact h.pd
  case tn => exact h.tn
  case c1 => exact h.c1
  case c2 => exact fun z r e1 e2 e3 => (h.c2 z r e1 e2 e3).imp id (fun h => h.imp id (fun h => ⟨hm _ h.1, h.2⟩))
  case cl => exact h.cl
  case cd => exact h.cd
  case ina => exact h.ina
theorem pend_o (s : AS) (E : Tw) {q z : Nat} (hz : z < E.n) : s.pend q z = (s.pend E.n z || z == q) := by
  rw [pend_n s E hz]; rfl
/-- a process answers -/
theorem Inv.close (h : Inv E A q E.n s) (hqn : q < E.n) {ex : List Nt} (hx : (q = E.root ∧ ex = []) ∨ (q ≠ E.root ∧ ∃ (r : Nat) (k : Int), s.par q = r ∧ ex = [⟨k, q, r⟩] ∧ ((k = 2 ∧ s.ref q = false) ∨ (k = 3 ∧ s.ref q = true)))) : Inv E A E.n q { s with fl := s.fl ++ ex } := by
  have hq := h.oa hqn
  have haz := h.oz
  have hpq : s.pend q q = true := by simp [AS.pend]
  have hpn : s.pend E.n q = false := by rw [pend_n s E hqn, haz]; rfl
  have hin : ∀ z, z ∈ s.fl ++ ex → z ∈ s.fl ∨ (z.fr = q ∧ s.par q = z.to ∧ ((z.kd = 2 ∧ s.ref q = false) ∨ (z.kd = 3 ∧ s.ref q = true))) := fun z hz => by
    rcases List.mem_append.1 hz with h1 | h1
    · exact .inl h1
    · rcases hx with ⟨_, rfl⟩ | ⟨_, r, k, h2, rfl, h3⟩
      · cases h1
      · simp at h1; subst h1; exact .inr ⟨rfl, h2, h3⟩
  have hmono : ∀ z, z ∈ s.fl → z ∈ s.fl ++ ex := fun z hz => List.mem_append.2 (.inl hz)
  have hpo : ∀ z, z < E.n → z ≠ q → s.pend q z = s.pend E.n z := fun z hz hne => by
    rw [pend_o s E hz]
    have : (z == q) = false := by simp [hne]
    rw [this, Bool.or_false]
  have hcnt : ∀ r, r < E.n → s.aw r = (({ s with fl := s.fl ++ ex } : AS).count E E.n r : Nat) := fun r hr => by
    rw [h.cnt r hr]
    have hk := range_cp (n := E.n) (q := q) (p := s.kid E q r) (p' := s.kid E E.n r) hqn (fun z hz hne => by simp only [AS.kid]; rw [hpo z hz hne])
    have ek : s.kid E E.n r q = false := by simp [AS.kid, hpn]
    have ek2 : s.kid E q r q = (q != E.root && decide (s.par q = (r : Int))) := by simp [AS.kid, hpq]
    rw [ek, ek2] at hk
    unfold AS.count
    show _ = (((s.fl ++ ex).countP (isReq r) + (s.fl ++ ex).countP (isAns r) + (List.range E.n).countP (s.kid E E.n r) : Nat) : Int)
    rw [List.countP_append, List.countP_append]
    rcases hx with ⟨e, rfl⟩ | ⟨e, r', k, h2, rfl, h3⟩
    · have : (q != E.root) = false := by simp [e]
      rw [this] at hk
      simp only [Bool.false_and, Bool.toNat_false, List.countP_nil] at hk ⊢
      omega
    · have e1 : (q != E.root) = true := by simp [e]
      have e2 : isReq r ⟨k, q, r'⟩ = false := by
        have : decide (k = 1) = false := by simp; omega
        simp [isReq, this]
      have e3 : isAns r ⟨k, q, r'⟩ = (r' == r) := by
        have : (decide (k = 2) || decide (k = 3)) = true := by simp; omega
        simp only [isAns, this, Bool.true_and]
      have e4 : decide (s.par q = (r : Int)) = (r' == r) := by
        rw [h2]
        by_cases e : r' = r
        · simp [e]
        · have : ¬ (r' : Int) = (r : Int) := by omega
          simp [e, this]
      rw [cp_one, cp_one, e2, e3]
      rw [e1, e4, Bool.true_and] at hk
      simp only [Bool.toNat_false] at hk ⊢
      omega
  constructor
  case rt => exact h.rt
  case pv => exact h.pv
  case rk => exact h.rk
  case un => exact h.un
  case oa => exact fun e => absurd e (by omega)
  case aw0 => exact h.aw0
  case oz =>
    show s.aw E.n = 0
    by_cases e : s.par E.n = -1
    · exact (h.un _ e).2.1
    · exact absurd (h.lt e) (by omega)
  case nt =>
    intro z hz
    rcases hin z hz with h1 | ⟨h1, h2, h3⟩
    · exact h.nt z h1
    · obtain ⟨_, r, h4, h5⟩ := h.pv q hq
      have : z.to = r := by omega
      exact ⟨by rw [this]; exact h.lt h5, by rw [h1]; exact hq⟩
  case n1 =>
    intro z hz e
    rcases hin z hz with h1 | ⟨h1, h2, h3⟩
    · exact h.n1 z h1 e
    · omega
  case n2 =>
    intro z hz e
    rcases hin z hz with h1 | ⟨h1, h2, h3⟩
    · exact h.n2 z h1 e
    · obtain ⟨_, r, h4, h5⟩ := h.pv q hq
      have : z.to = r := by omega
      refine ⟨by rw [this]; exact h5, fun e2 => ?_⟩
      rw [h1]
      rcases h3 with h3 | h3
      · omega
      · exact h3.2
  case n0 =>
    intro z hz e
    rcases hin z hz with h1 | ⟨h1, h2, h3⟩
    · exact h.n0 z h1 e
    · obtain ⟨_, r, h4, h5⟩ := h.pv q hq
      have : z.to = r := by omega
      rw [this]; exact h5
  case n4 =>
    intro z hz e
    rcases hin z hz with h1 | ⟨h1, h2, h3⟩
    · exact h.n4 z h1 e
    · omega
  case n5 =>
    intro z hz e
    rcases hin z hz with h1 | ⟨h1, h2, h3⟩
    · exact h.n5 z h1 e
    · omega
  case nk =>
    intro z hz
    rcases hin z hz with h1 | ⟨h1, h2, h3⟩
    · exact h.nk z h1
    · omega
  case cnt => exact hcnt
  case sr => exact fun z hz hu y hy => (h.sr z hz hu y hy).imp id (hmono _)
  case uw => exact h.uw
  case chi => exact h.chi
  case rf =>
    intro z r e1 e2 e3
    rcases h.rf z r e1 e2 e3 with h4 | h4 | h4
    · by_cases ez : z = q
      · subst ez
        rcases hx with ⟨e, _⟩ | ⟨e, r', k, h5, rfl, h6⟩
        · exact absurd e e1
        · have e7 : r' = r := by have e2' : s.par z = r := e2; omega
          subst e7
          have e8 : s.ref z = true := e3
          rcases h6 with h6 | ⟨rfl, _⟩
          · rw [h6.2] at e8; cases e8
          · exact .inr (.inl (by simp))
      · refine .inl ?_
        have hz : z < E.n := h.lt (h.ref_as e3)
        show s.pend E.n z = true
        rw [← hpo z hz ez]; exact h4
    · exact .inr (.inl (hmono _ h4))
    · exact .inr (.inr h4)
  case d3 => exact h.d3
  case d2 => exact h.d2
  case ru => exact h.ru
  case p1 => exact h.p1
  case pf => exact fun e => by have := (h.pf e).1 q hq; rw [hpq] at this; cases this
  case an =>
    intro z e0 e1 e2 e3
    refine h.an z (fun e => ?_) e1 ?_ e3
    · have := h.lt e1; omega
    · rw [hpo z (h.lt e1) e0]; exact e2
  case pd =>
    intro z e1 e2
    by_cases ez : z = q
    · subst ez
      have e3 : s.pend E.n z = true := e2
      rw [hpn] at e3; cases e3
    · exact h.pd z e1 (by rw [hpo z (h.lt e1) ez]; exact e2)
  case tn =>
    intro z e1 e2
    refine h.tn z e1 (fun e3 => e2 ?_)
    rcases e3 with e3 | e3
    · exact .inr e3
    · exact .inl e3
  case c1 => exact fun z r e1 e2 e3 => (h.c1 z r e1 e2 e3).imp id (hmono _)
  case c2 =>
    intro z r e1 e2 e3
    rcases h.c2 z r e1 e2 e3 with h4 | h4 | ⟨h4, h5⟩
    · exact .inl h4
    · exact .inr (.inl (hmono _ h4))
    · refine .inr (.inr ⟨h4, ?_⟩)
      by_cases ez : z = q
      · exact .inr ez
      · rcases h5 with h5 | h5
        · exact .inl (by show s.pend E.n z = true; rw [← hpo z (h.lt (h.ref_as h4)) ez]; exact h5)
        · have := h.lt (h.ref_as h4); omega
  case cl => exact h.cl
  case cd => exact h.cd
  case ina => exact h.ina
/-- one that has answered yes needs no decision now -/
theorem Inv.drop (h : Inv E A E.n q s) (hr : q ≠ E.root) (hf : s.ref q = false) : Inv E A E.n E.n s := by
  refine { h with an := ?_, tn := ?_, c2 := ?_ }
  · intro z e0 e1 e2 e3
    by_cases ez : z = q
    · subst ez
      rcases e3 with e3 | e3
      · exact absurd e3 hr
      · rw [hf] at e3; cases e3
    · exact h.an z ez e1 e2 e3
  · intro z e1 e2
    refine h.tn z e1 (fun e3 => ?_)
    rcases e3 with e3 | e3
    · exact e2 (.inl e3)
    · subst e3
      by_cases hu : E.unw z = true
      · rw [(h.uw z e1 hu).1] at hf; cases hf
      · simpa using hu
  · intro z r e1 e2 e3
    rcases h.c2 z r e1 e2 e3 with h4 | h4 | ⟨h4, h5⟩
    · exact .inl h4
    · exact .inr (.inl h4)
    · rcases h5 with h5 | h5
      · exact .inr (.inr ⟨h4, .inl h5⟩)
      · subst h5; rw [hf] at h4; cases h4
end
section
variable {E : Tw} {A : Nat → Prop} {o o2 q r : Nat} {s : AS} {x : Nt}
theorem Inv.reqAw (hE : E.Ok) (h : Inv E A E.n E.n s) (hx : x ∈ s.fl) (hk : x.kd = 1) : s.dec x.fr = 0 := by
  have hfr := (h.nt x hx).2
  have h0 := h.cnt x.fr (h.lt hfr)
  have h1 : 0 < s.fl.countP (isReq x.fr) := List.countP_pos_iff.2 ⟨x, hx, by simp [isReq, hk]⟩
  refine h.pd x.fr hfr ?_
  rw [pend_n s E (h.lt hfr)]
  unfold AS.count at h0
  simp only [decide_eq_true_eq]
  omega
theorem Inv.rkAdd (h : Inv E A E.n E.n s) (hq : s.par q = -1) (hr : s.par r ≠ -1) : ∃ (f : Nat → Nat) (N : Nat), (∀ z, f z ≤ N) ∧ ∀ z t : Nat, z ≠ E.root → up s.par q (r : Int) z = t → f t < f z := by
  obtain ⟨f, N, hN, hf⟩ := h.rk
  have hrq : r ≠ q := fun e => hr (e ▸ hq)
  refine ⟨up f q (f r + 1), N + 1, fun z => ?_, fun z t e1 e2 => ?_⟩
  · unfold up; split
    · have := hN r; omega
    · have := hN z; omega
  · by_cases ez : z = q
    · subst ez
      rw [up_same] at e2
      have : t = r := by omega
      subst this
      rw [up_same, up_of, if_neg hrq]; omega
    · rw [up_of, if_neg ez] at e2
      have htq : t ≠ q := fun e => by
        subst e
        obtain ⟨_, t', h1, h2⟩ := h.pv z (by omega)
        have : t' = t := by omega
        exact h2 (this ▸ hq)
      rw [up_of, up_of, if_neg ez, if_neg htq]
      exact hf z t e1 e2
/-- an unwilling process is asked -/
theorem Inv.askN (hE : E.Ok) (hA : ∀ q, A q → E.unw q = false → ∀ z ∈ E.src q, A z) (h : Inv E A E.n E.n s) {l1 l2 : List Nt} (hf : s.fl = l1 ++ x :: l2) (hk : x.kd = 1) (hp : s.par x.to = -1) (hu : E.unw x.to = true) :
    Inv E A x.to E.n (({ s with fl := l1 ++ l2 } : AS).askN E x.to x.fr) := by
  have hx : x ∈ s.fl := by rw [hf]; simp
  have hfr := (h.nt x hx).2
  have hqn := (h.nt x hx).1
  have hin : ∀ z, z ∈ l1 ++ l2 → z ∈ s.fl := fun z hz => mem_rest hf hz
  have hin2 : ∀ z, z ∈ s.fl → z = x ∨ z ∈ l1 ++ l2 := fun z hz => mem_of hf hz
  have hcp : ∀ p : Nt → Bool, (l1 ++ l2).countP p + (p x).toNat = s.fl.countP p := fun p => (cp_rest hf p).symm
  have hne : x.fr ≠ x.to := fun e => hfr (e ▸ hp)
  have hdec := h.reqAw hE hx hk
  have hun := h.un _ hp
  have hrk := h.rkAdd hp hfr
  have hqr : x.to ≠ E.root := fun e => by rw [e] at hp; have := h.rt; omega
  have has : ∀ z, s.par z ≠ -1 → z ≠ x.to := fun z hz e => hz (e ▸ hp)
  have hpar : ∀ z, s.par z ≠ -1 → up s.par x.to (x.fr : Int) z = s.par z := fun z hz => by rw [up_of, if_neg (has z hz)]
  have hpar2 : ∀ z, s.par z ≠ -1 → up s.par x.to (x.fr : Int) z ≠ -1 := fun z hz => by rw [hpar z hz]; exact hz
  have hpar3 : ∀ z, up s.par x.to (x.fr : Int) z ≠ -1 → z = x.to ∨ s.par z ≠ -1 := fun z hz => by
    by_cases e : z = x.to
    · exact .inl e
    · rw [up_of, if_neg e] at hz; exact .inr hz
  have hpq : up s.par x.to (x.fr : Int) x.to ≠ -1 := by rw [up_same]; omega
  have hm : ∀ z, s.ref z = true → up s.ref x.to true z = true := fun z hz => by unfold up; split <;> simp [hz]
  have hun2 : ∀ z, up s.ref x.to true z = true → z = x.to ∨ s.ref z = true := fun z hz => by
    unfold up at hz; split at hz
    · exact .inl (by assumption)
    · exact .inr hz
  have hkid : ∀ z r : Nat, z ≠ E.root → up s.par x.to (x.fr : Int) z = r → (z = x.to ∧ r = x.fr) ∨ (z ≠ x.to ∧ s.par z = r ∧ r ≠ x.to) := fun z r e1 e2 => by
    by_cases e : z = x.to
    · subst e; rw [up_same] at e2; exact .inl ⟨rfl, by omega⟩
    · rw [up_of, if_neg e] at e2
      refine .inr ⟨e, e2, fun e3 => ?_⟩
      obtain ⟨_, t, h1, h2⟩ := h.pv z (by omega)
      have : t = r := by omega
      exact h2 (by rw [this, e3]; exact hp)
  have hpo : ∀ z, z < E.n → z ≠ x.to → s.pend x.to z = s.pend E.n z := fun z hz hne => by
    rw [pend_o s E hz]
    have : (z == x.to) = false := by simp [hne]
    rw [this, Bool.or_false]
  have hroot : s.dec E.root = 1 → False := fun e => by have := (h.pf e).2.2 x hx; omega
  have hcnt : ∀ r, r < E.n → s.aw r = ((({ s with fl := l1 ++ l2 } : AS).askN E x.to x.fr).count E x.to r : Nat) := fun r hr => by
    rw [h.cnt r hr]
    have hk2 := range_cp (n := E.n) (q := x.to) (p := s.kid E E.n r) (p' := (({ s with fl := l1 ++ l2 } : AS).askN E x.to x.fr).kid E x.to r) hqn (fun z hz hne2 => by
      have hpz : up s.par x.to (x.fr : Int) z = s.par z := by rw [up_of, if_neg hne2]
      show (z != E.root && decide (up s.par x.to (x.fr : Int) z = (r : Int)) && s.pend x.to z) = (z != E.root && decide (s.par z = (r : Int)) && s.pend E.n z)
      simp only [hpz, hpo z hz hne2])
    have e1 : s.kid E E.n r x.to = false := by
      have : decide (s.par x.to = (r : Int)) = false := by simp; omega
      simp [AS.kid, this]
    have e2 : (({ s with fl := l1 ++ l2 } : AS).askN E x.to x.fr).kid E x.to r x.to = (x.fr == r) := by
      have e3 : decide (up s.par x.to (x.fr : Int) x.to = (r : Int)) = (x.fr == r) := by
        rw [up_same]
        by_cases e : x.fr = r
        · simp [e]
        · have : ¬ (x.fr : Int) = (r : Int) := by omega
          simp [e, this]
      have e4 : (x.to != E.root) = true := by simp [hqr]
      show (x.to != E.root && decide (up s.par x.to (x.fr : Int) x.to = (r : Int)) && (decide (0 < s.aw x.to) || x.to == x.to)) = _
      simp only [e4, BEq.rfl, Bool.or_true, Bool.and_true, Bool.true_and]
      exact e3
    rw [e1, e2] at hk2
    have h1 := hcp (isReq r)
    have h2 := hcp (isAns r)
    have e5 : isReq r x = (x.fr == r) := by simp [isReq, hk]
    have e6 : isAns r x = false := by simp [isAns, hk]
    rw [e5] at h1
    rw [e6] at h2
    unfold AS.count
    show _ = (((l1 ++ l2).countP (isReq r) + (l1 ++ l2).countP (isAns r) + (List.range E.n).countP ((({ s with fl := l1 ++ l2 } : AS).askN E x.to x.fr).kid E x.to r) : Nat) : Int)
    simp only [Bool.toNat_false] at hk2 h2
    omega
  generalize l1 ++ l2 = l at *
  constructor
  case rt => show up s.par x.to (x.fr : Int) E.root = E.root; rw [up_of, if_neg (Ne.symm hqr)]; exact h.rt
  case pv =>
    intro z hz
    rcases hpar3 z hz with rfl | h1
    · exact ⟨hqn, x.fr, up_same _ _ _, hpar2 _ hfr⟩
    · obtain ⟨h2, r, h3, h4⟩ := h.pv z h1
      exact ⟨h2, r, (hpar z h1).trans h3, hpar2 _ h4⟩
  case rk => exact hrk
  case un =>
    intro z hz
    have hne : z ≠ x.to := fun e => hpq (e ▸ hz)
    have hz2 : s.par z = -1 := by
      have : up s.par x.to (x.fr : Int) z = -1 := hz
      rwa [up_of, if_neg hne] at this
    have := h.un z hz2
    show s.ch z = [] ∧ s.aw z = 0 ∧ s.tent z = false ∧ up s.ref x.to true z = false ∧ s.dec z = 0
    rw [up_of, if_neg hne]
    exact this
  case oa => exact fun _ => hpq
  case aw0 => exact h.aw0
  case oz => exact hun.2.1
  case nt => exact fun z hz => ⟨(h.nt z (hin z hz)).1, hpar2 _ (h.nt z (hin z hz)).2⟩
  case n1 => exact fun z hz e => ⟨(h.n1 z (hin z hz) e).1, (h.n1 z (hin z hz) e).2.1, (h.n1 z (hin z hz) e).2.2.imp id (hm _)⟩
  case n2 => exact fun z hz e => ⟨hpar2 _ (h.n2 z (hin z hz) e).1, fun e2 => hm _ ((h.n2 z (hin z hz) e).2 e2)⟩
  case n0 => exact fun z hz e => hpar2 _ (h.n0 z (hin z hz) e)
  case n4 => exact fun z hz => h.n4 z (hin z hz)
  case n5 => exact fun z hz => h.n5 z (hin z hz)
  case nk => exact fun z hz => h.nk z (hin z hz)
  case cnt => exact hcnt
  case sr =>
    intro z hz hw y hy
    rcases hpar3 z hz with rfl | h1
    · rw [hu] at hw; cases hw
    · rcases h.sr z h1 hw y hy with h2 | h2
      · exact .inl (hpar2 _ h2)
      · rcases hin2 _ h2 with h3 | h3
        · exact .inl (by rw [show y = x.to by rw [← h3]]; exact hpq)
        · exact .inr h3
  case uw =>
    intro z hz hw
    rcases hpar3 z hz with rfl | h1
    · exact ⟨up_same _ _ _, hun.1⟩
    · exact ⟨hm _ (h.uw z h1 hw).1, (h.uw z h1 hw).2⟩
  case chi =>
    intro z r e1 e2
    rcases hkid z r e1 e2 with ⟨rfl, rfl⟩ | ⟨h1, h2, h3⟩
    · exact .inr (up_same _ _ _)
    · exact (h.chi z r e1 h2).imp id (hm _)
  case rf =>
    intro z r e1 e2 e3
    rcases hkid z r e1 e2 with ⟨rfl, rfl⟩ | ⟨h1, h2, h3⟩
    · exact .inl (by simp [AS.pend])
    · have e4 := (hun2 z e3).resolve_left h1
      rcases h.rf z r e1 h2 e4 with h4 | h4 | h4
      · exact .inl (by show s.pend x.to z = true; rw [hpo z (h.lt (h.ref_as e4)) h1]; exact h4)
      · rcases hin2 _ h4 with h5 | h5
        · rw [← h5] at hk; simp at hk
        · exact .inr (.inl h5)
      · exact .inr (.inr (hm _ h4))
  case d3 => exact h.d3
  case d2 => exact fun z hz => ⟨x.to, up_same _ _ _⟩
  case ru => exact fun z hz => ⟨x.to, hpq, hu⟩
  case p1 => exact h.p1
  case pf => exact fun e => (hroot e).elim
  case an =>
    intro z e0 e1 e2 e3
    rcases hpar3 z e1 with rfl | h1
    · simp [AS.pend] at e2
    · refine h.an z e0 h1 ?_ ?_
      · rw [← hpo z (h.lt h1) (has z h1)]; exact e2
      · rcases e3 with e3 | e3
        · exact .inl e3
        · exact .inr ((hun2 z e3).resolve_left (has z h1))
  case pd =>
    intro z e1 e2
    rcases hpar3 z e1 with rfl | h1
    · exact hun.2.2.2.2
    · exact h.pd z h1 (by rw [← hpo z (h.lt h1) (has z h1)]; exact e2)
  case tn =>
    intro z e1 e2
    rcases hpar3 z e1 with rfl | h1
    · rw [hu] at e2; exact absurd (e2 (.inl rfl)) (by simp)
    · refine h.tn z h1 (fun e => ?_)
      have := h.lt h1; omega
  case c1 =>
    intro z r e1 e2 e3
    exact (hroot (h.p1 r e3)).elim
  case c2 =>
    intro z r e1 e2 e3
    rcases hkid z r e1 e2 with ⟨rfl, rfl⟩ | ⟨h1, h2, h3⟩
    · have e3' : s.dec x.fr = 2 := e3
      rw [hdec] at e3'; omega
    · rcases h.c2 z r e1 h2 e3 with h4 | h4 | ⟨h4, h5⟩
      · exact .inl h4
      · rcases hin2 _ h4 with h5 | h5
        · rw [← h5] at hk; simp at hk
        · exact .inr (.inl h5)
      · refine .inr (.inr ⟨hm _ h4, ?_⟩)
        rcases h5 with h5 | h5
        · exact .inl (by show s.pend x.to z = true; rw [hpo z (h.lt (h.ref_as h4)) h1]; exact h5)
        · exact .inr h5
  case cl => exact h.cl
  case cd => exact h.cd
  case ina =>
    intro z hz
    rcases hpar3 z hz with rfl | h1
    · have := h.n1 x hx hk
      exact hA x.fr (h.ina _ hfr) this.2.1 _ this.1
    · exact h.ina z h1
end
section
variable {E : Tw} {A : Nat → Prop} {o o2 q r : Nat} {s : AS} {x : Nt}
theorem cs_mem {q r z : Nat} : z ∈ E.cs q r ↔ z ∈ E.src q ∧ z ≠ r := by simp [Tw.cs]
theorem cp_all (p : Nt → Bool) (l : List Nt) (h : ∀ y ∈ l, p y = true) : l.countP p = l.length := List.countP_eq_length.2 h
/-- a willing process is asked -/
theorem Inv.askY (hE : E.Ok) (hA : ∀ q, A q → E.unw q = false → ∀ z ∈ E.src q, A z) (h : Inv E A E.n E.n s) {l1 l2 : List Nt} (hf : s.fl = l1 ++ x :: l2) (hk : x.kd = 1) (hp : s.par x.to = -1) (hu : E.unw x.to = false)
    (ho : o = if E.cs x.to x.fr = [] then x.to else E.n) : Inv E A o E.n (({ s with fl := l1 ++ l2 } : AS).askY E x.to x.fr) := by
  have hx : x ∈ s.fl := by rw [hf]; simp
  have hfr := (h.nt x hx).2
  have hqn := (h.nt x hx).1
  have hin : ∀ z, z ∈ l1 ++ l2 ++ (E.cs x.to x.fr).map (fun y => (⟨1, x.to, y⟩ : Nt)) → z ∈ s.fl ∨ ∃ y ∈ E.cs x.to x.fr, z = ⟨1, x.to, y⟩ := fun z hz => by
    rcases List.mem_append.1 hz with h1 | h1
    · exact .inl (mem_rest hf h1)
    · obtain ⟨y, hy, rfl⟩ := List.mem_map.1 h1; exact .inr ⟨y, hy, rfl⟩
  have hin2 : ∀ z, z ∈ s.fl → z = x ∨ z ∈ l1 ++ l2 ++ (E.cs x.to x.fr).map (fun y => (⟨1, x.to, y⟩ : Nt)) := fun z hz => by
    rcases mem_of hf hz with h1 | h1
    · exact .inl h1
    · exact .inr (List.mem_append.2 (.inl h1))
  have hnew : ∀ y, y ∈ E.cs x.to x.fr → (⟨1, x.to, y⟩ : Nt) ∈ l1 ++ l2 ++ (E.cs x.to x.fr).map (fun y => (⟨1, x.to, y⟩ : Nt)) := fun y hy => List.mem_append.2 (.inr (List.mem_map.2 ⟨y, hy, rfl⟩))
  have hcp : ∀ p : Nt → Bool, (l1 ++ l2).countP p + (p x).toNat = s.fl.countP p := fun p => (cp_rest hf p).symm
  have hne : x.fr ≠ x.to := fun e => hfr (e ▸ hp)
  have hdec := h.reqAw hE hx hk
  have hun := h.un _ hp
  have hrk := h.rkAdd hp hfr
  have hqr : x.to ≠ E.root := fun e => by rw [e] at hp; have := h.rt; omega
  have has : ∀ z, s.par z ≠ -1 → z ≠ x.to := fun z hz e => hz (e ▸ hp)
  have hpar : ∀ z, s.par z ≠ -1 → up s.par x.to (x.fr : Int) z = s.par z := fun z hz => by rw [up_of, if_neg (has z hz)]
  have hpar2 : ∀ z, s.par z ≠ -1 → up s.par x.to (x.fr : Int) z ≠ -1 := fun z hz => by rw [hpar z hz]; exact hz
  have hpar3 : ∀ z, up s.par x.to (x.fr : Int) z ≠ -1 → z = x.to ∨ s.par z ≠ -1 := fun z hz => by
    by_cases e : z = x.to
    · exact .inl e
    · rw [up_of, if_neg e] at hz; exact .inr hz
  have hpq : up s.par x.to (x.fr : Int) x.to ≠ -1 := by rw [up_same]; omega
  have hkid : ∀ z r : Nat, z ≠ E.root → up s.par x.to (x.fr : Int) z = r → (z = x.to ∧ r = x.fr) ∨ (z ≠ x.to ∧ s.par z = r ∧ r ≠ x.to) := fun z r e1 e2 => by
    by_cases e : z = x.to
    · subst e; rw [up_same] at e2; exact .inl ⟨rfl, by omega⟩
    · rw [up_of, if_neg e] at e2
      refine .inr ⟨e, e2, fun e3 => ?_⟩
      obtain ⟨_, t, h1, h2⟩ := h.pv z (by omega)
      have : t = r := by omega
      exact h2 (by rw [this, e3]; exact hp)
  have hoq : o = x.to ∨ o = E.n := by rw [ho]; split <;> simp
  have hpend : ∀ z, z < E.n → (({ s with fl := l1 ++ l2 } : AS).askY E x.to x.fr).pend o z = if z = x.to then true else s.pend E.n z := fun z hz => by
    show (decide (0 < up s.aw x.to ((E.cs x.to x.fr).length : Int) z) || z == o) = _
    by_cases e : z = x.to
    · subst e
      rw [up_same, if_pos rfl, ho]
      by_cases ec : E.cs x.to x.fr = []
      · simp [ec]
      · have : 0 < (E.cs x.to x.fr).length := List.length_pos_iff.2 ec
        rw [decide_eq_true (show (0 : Int) < ((E.cs x.to x.fr).length : Int) by omega), Bool.true_or]
    · rw [if_neg e, up_of, if_neg e, pend_n s E hz]
      have : (z == o) = false := by simp; omega
      rw [this, Bool.or_false]
  have hroot : s.dec E.root = 1 → False := fun e => by have := (h.pf e).2.2 x hx; omega
  have hcnt : ∀ r, r < E.n → up s.aw x.to ((E.cs x.to x.fr).length : Int) r = ((({ s with fl := l1 ++ l2 } : AS).askY E x.to x.fr).count E o r : Nat) := fun r hr => by
    have h0 := h.cnt r hr
    have h1 := hcp (isReq r)
    have h2 := hcp (isAns r)
    have e5 : isReq r x = (x.fr == r) := by simp [isReq, hk]
    have e6 : isAns r x = false := by simp [isAns, hk]
    have a1 : ((E.cs x.to x.fr).map (fun y => (⟨1, x.to, y⟩ : Nt))).countP (isReq r) = if r = x.to then (E.cs x.to x.fr).length else 0 := by
      split
      · rename_i e
        rw [cp_all _ _ (fun y hy => by obtain ⟨z, _, rfl⟩ := List.mem_map.1 hy; simp [isReq, e]), List.length_map]
      · rename_i e
        exact cp_no _ _ (fun y hy => by obtain ⟨z, _, rfl⟩ := List.mem_map.1 hy; simp [isReq]; omega)
    have a2 : ((E.cs x.to x.fr).map (fun y => (⟨1, x.to, y⟩ : Nt))).countP (isAns r) = 0 := cp_no _ _ (fun y hy => by obtain ⟨z, _, rfl⟩ := List.mem_map.1 hy; simp [isAns])
    have hk2 := range_cp (n := E.n) (q := x.to) (p := s.kid E E.n r) (p' := (({ s with fl := l1 ++ l2 } : AS).askY E x.to x.fr).kid E o r) hqn (fun z hz hne2 => by
      have hpz : up s.par x.to (x.fr : Int) z = s.par z := by rw [up_of, if_neg hne2]
      have hpp := hpend z hz
      rw [if_neg hne2] at hpp
      show (z != E.root && decide (up s.par x.to (x.fr : Int) z = (r : Int)) && (({ s with fl := l1 ++ l2 } : AS).askY E x.to x.fr).pend o z) = (z != E.root && decide (s.par z = (r : Int)) && s.pend E.n z)
      rw [hpp]
      simp only [hpz])
    have e1 : s.kid E E.n r x.to = false := by
      have : decide (s.par x.to = (r : Int)) = false := by simp; omega
      simp [AS.kid, this]
    have e2 : (({ s with fl := l1 ++ l2 } : AS).askY E x.to x.fr).kid E o r x.to = (x.fr == r) := by
      have e3 : decide (up s.par x.to (x.fr : Int) x.to = (r : Int)) = (x.fr == r) := by
        rw [up_same]
        by_cases e : x.fr = r
        · simp [e]
        · have : ¬ (x.fr : Int) = (r : Int) := by omega
          simp [e, this]
      have e4 : (x.to != E.root) = true := by simp [hqr]
      have hpp := hpend x.to hqn
      rw [if_pos rfl] at hpp
      show (x.to != E.root && decide (up s.par x.to (x.fr : Int) x.to = (r : Int)) && (({ s with fl := l1 ++ l2 } : AS).askY E x.to x.fr).pend o x.to) = _
      rw [hpp]
      simp only [e4, Bool.and_true, Bool.true_and]
      exact e3
    rw [e1, e2] at hk2
    rw [e5] at h1
    rw [e6] at h2
    unfold AS.count at h0 ⊢
    show _ = (((l1 ++ l2 ++ (E.cs x.to x.fr).map (fun y => (⟨1, x.to, y⟩ : Nt))).countP (isReq r) + (l1 ++ l2 ++ (E.cs x.to x.fr).map (fun y => (⟨1, x.to, y⟩ : Nt))).countP (isAns r) + (List.range E.n).countP ((({ s with fl := l1 ++ l2 } : AS).askY E x.to x.fr).kid E o r) : Nat) : Int)
    simp only [List.countP_append, a1, a2] at h1 h2 ⊢
    simp only [Bool.toNat_false] at hk2 h2
    rw [up_of]
    by_cases er : r = x.to
    · subst er
      rw [if_pos rfl, if_pos rfl]
      have b1 : (x.fr == x.to) = false := by simp [hne]
      rw [hun.2.1] at h0
      rw [b1] at h1 hk2
      simp only [Bool.toNat_false] at h1 hk2
      omega
    · rw [if_neg er, if_neg er]
      omega
  have hcs : ∀ y, y ∈ E.cs x.to x.fr → y ∈ E.src x.to := fun y hy => (cs_mem.1 hy).1
  have hcs2 : ∀ y, y ∈ E.src x.to → y ≠ x.fr → y ∈ E.cs x.to x.fr := fun y hy e => cs_mem.2 ⟨hy, e⟩
  have hcn : (E.cs x.to x.fr).Nodup := (hE.nd x.to).sublist List.filter_sublist
  have hoa : o < E.n → o = x.to := fun e => by rcases hoq with h1 | h1 <;> omega
  have hoz : up s.aw x.to ((E.cs x.to x.fr).length : Int) o = 0 := by
    by_cases e : o = x.to
    · rw [e, up_same]
      rw [ho] at e
      split at e
      · rename_i e2; rw [e2]; rfl
      · omega
    · rw [up_of, if_neg e]
      have e2 : o = E.n := hoq.resolve_left e
      by_cases e3 : s.par o = -1
      · exact (h.un _ e3).2.1
      · have := h.lt e3; omega
  have hch : ∀ z, z ≠ x.to → up s.ch x.to (E.cs x.to x.fr) z = s.ch z := fun z e => by rw [up_of, if_neg e]
  generalize hl : l1 ++ l2 ++ (E.cs x.to x.fr).map (fun y => (⟨1, x.to, y⟩ : Nt)) = l at *
  have hfl : (({ s with fl := l1 ++ l2 } : AS).askY E x.to x.fr).fl = l := hl
  constructor
  case rt => show up s.par x.to (x.fr : Int) E.root = E.root; rw [up_of, if_neg (Ne.symm hqr)]; exact h.rt
  case pv =>
    intro z hz
    rcases hpar3 z hz with rfl | h1
    · exact ⟨hqn, x.fr, up_same _ _ _, hpar2 _ hfr⟩
    · obtain ⟨h2, r, h3, h4⟩ := h.pv z h1
      exact ⟨h2, r, (hpar z h1).trans h3, hpar2 _ h4⟩
  case rk => exact hrk
  case un =>
    intro z hz
    have hne : z ≠ x.to := fun e => hpq (e ▸ hz)
    have hz2 : s.par z = -1 := by
      have : up s.par x.to (x.fr : Int) z = -1 := hz
      rwa [up_of, if_neg hne] at this
    have := h.un z hz2
    show up s.ch x.to (E.cs x.to x.fr) z = [] ∧ up s.aw x.to ((E.cs x.to x.fr).length : Int) z = 0 ∧ up s.tent x.to true z = false ∧ s.ref z = false ∧ s.dec z = 0
    rw [up_of, up_of, up_of, if_neg hne, if_neg hne, if_neg hne]
    exact this
  case oa => exact fun e => by rw [hoa e]; exact hpq
  case aw0 =>
    intro z
    show 0 ≤ up s.aw x.to ((E.cs x.to x.fr).length : Int) z
    rw [up_of]; split
    · omega
    · exact h.aw0 z
  case oz => exact hoz
  case nt =>
    intro z hz
    rw [hfl] at hz
    rcases hin z hz with h1 | ⟨y, hy, rfl⟩
    · exact ⟨(h.nt z h1).1, hpar2 _ (h.nt z h1).2⟩
    · exact ⟨hE.lt _ y (hcs y hy), hpq⟩
  case n1 =>
    intro z hz e
    rw [hfl] at hz
    rcases hin z hz with h1 | ⟨y, hy, rfl⟩
    · have h2 := h.n1 z h1 e
      refine ⟨h2.1, h2.2.1, h2.2.2.imp (fun h3 => ?_) id⟩
      show z.to ∈ up s.ch x.to (E.cs x.to x.fr) z.fr
      rw [hch _ (has _ (h.nt z h1).2)]; exact h3
    · refine ⟨hcs y hy, hu, .inl ?_⟩
      show y ∈ up s.ch x.to (E.cs x.to x.fr) x.to
      rw [up_same]; exact hy
  case n2 =>
    intro z hz e
    rw [hfl] at hz
    rcases hin z hz with h1 | ⟨y, hy, rfl⟩
    · exact ⟨hpar2 _ (h.n2 z h1 e).1, (h.n2 z h1 e).2⟩
    · simp only at e; omega
  case n0 =>
    intro z hz e
    rw [hfl] at hz
    rcases hin z hz with h1 | ⟨y, hy, rfl⟩
    · exact hpar2 _ (h.n0 z h1 e)
    · simp at e
  case n4 =>
    intro z hz e
    rw [hfl] at hz
    rcases hin z hz with h1 | ⟨y, hy, rfl⟩
    · exact h.n4 z h1 e
    · simp only at e; omega
  case n5 =>
    intro z hz e
    rw [hfl] at hz
    rcases hin z hz with h1 | ⟨y, hy, rfl⟩
    · exact h.n5 z h1 e
    · simp only at e; omega
  case nk =>
    intro z hz
    rw [hfl] at hz
    rcases hin z hz with h1 | ⟨y, hy, rfl⟩
    · exact h.nk z h1
    · exact .inl rfl
  case cnt => exact hcnt
  case sr =>
    intro z hz hw y hy
    rw [hfl]
    rcases hpar3 z hz with rfl | h1
    · by_cases e : y = x.fr
      · exact .inl (by rw [e]; exact hpar2 _ hfr)
      · exact .inr (hnew y (hcs2 y hy e))
    · rcases h.sr z h1 hw y hy with h2 | h2
      · exact .inl (hpar2 _ h2)
      · rcases hin2 _ h2 with h3 | h3
        · exact .inl (by rw [show y = x.to by rw [← h3]]; exact hpq)
        · exact .inr h3
  case uw =>
    intro z hz hw
    rcases hpar3 z hz with rfl | h1
    · rw [hu] at hw; cases hw
    · refine ⟨(h.uw z h1 hw).1, ?_⟩
      show up s.ch x.to (E.cs x.to x.fr) z = []
      rw [hch _ (has _ h1)]; exact (h.uw z h1 hw).2
  case chi =>
    intro z r e1 e2
    show z ∈ up s.ch x.to (E.cs x.to x.fr) r ∨ s.ref z = true
    rcases hkid z r e1 e2 with ⟨rfl, rfl⟩ | ⟨h1, h2, h3⟩
    · rw [hch _ hne]
      exact (h.n1 x hx hk).2.2
    · rw [hch _ h3]
      exact h.chi z r e1 h2
  case rf =>
    intro z r e1 e2 e3
    rw [hfl]
    rcases hkid z r e1 e2 with ⟨rfl, rfl⟩ | ⟨h1, h2, h3⟩
    · have e3' : s.ref x.to = true := e3
      rw [hun.2.2.2.1] at e3'; cases e3'
    · rcases h.rf z r e1 h2 e3 with h4 | h4 | h4
      · refine .inl ?_
        rw [hpend z (h.lt (h.ref_as e3)), if_neg h1]; exact h4
      · rcases hin2 _ h4 with h5 | h5
        · rw [← h5] at hk; simp at hk
        · exact .inr (.inl h5)
      · exact .inr (.inr h4)
  case d3 => exact h.d3
  case d2 => exact h.d2
  case ru => exact fun z hz => by obtain ⟨y, h1, h2⟩ := h.ru z hz; exact ⟨y, hpar2 _ h1, h2⟩
  case p1 => exact h.p1
  case pf => exact fun e => (hroot e).elim
  case an =>
    intro z e0 e1 e2 e3
    rcases hpar3 z e1 with rfl | h1
    · rw [hpend _ hqn, if_pos rfl] at e2; cases e2
    · refine h.an z e0 h1 ?_ e3
      rw [hpend z (h.lt h1), if_neg (has z h1)] at e2; exact e2
  case pd =>
    intro z e1 e2
    rcases hpar3 z e1 with rfl | h1
    · exact hun.2.2.2.2
    · refine h.pd z h1 ?_
      rw [hpend z (h.lt h1), if_neg (has z h1)] at e2; exact e2
  case tn =>
    intro z e1 e2
    rcases hpar3 z e1 with rfl | h1
    · show up s.tent x.to true x.to = true ↔ s.dec x.to = 0
      rw [up_same, hun.2.2.2.2]; simp
    · show up s.tent x.to true z = true ↔ s.dec z = 0
      rw [up_of, if_neg (has z h1)]
      refine h.tn z h1 (fun e => ?_)
      have := h.lt h1; omega
  case c1 =>
    intro z r e1 e2 e3
    exact (hroot (h.p1 r e3)).elim
  case c2 =>
    intro z r e1 e2 e3
    rw [hfl]
    rcases hkid z r e1 e2 with ⟨rfl, rfl⟩ | ⟨h1, h2, h3⟩
    · have e3' : s.dec x.fr = 2 := e3
      rw [hdec] at e3'; omega
    · rcases h.c2 z r e1 h2 e3 with h4 | h4 | ⟨h4, h5⟩
      · exact .inl h4
      · rcases hin2 _ h4 with h5 | h5
        · rw [← h5] at hk; simp at hk
        · exact .inr (.inl h5)
      · refine .inr (.inr ⟨h4, ?_⟩)
        rcases h5 with h5 | h5
        · refine .inl ?_
          rw [hpend z (h.lt (h.ref_as h4)), if_neg h1]; exact h5
        · exact .inr h5
  case cl =>
    intro z y hy
    have hy : y ∈ up s.ch x.to (E.cs x.to x.fr) z := hy
    rw [up_of] at hy
    split at hy
    · rename_i e; rw [e]; exact hcs y hy
    · exact h.cl z y hy
  case cd =>
    intro z
    show (up s.ch x.to (E.cs x.to x.fr) z).Nodup
    rw [up_of]; split
    · exact hcn
    · exact h.cd z
  case ina =>
    intro z hz
    rcases hpar3 z hz with rfl | h1
    · have := h.n1 x hx hk
      exact hA x.fr (h.ina _ hfr) this.2.1 _ this.1
    · exact h.ina z h1
end
section
variable {E : Tw} {A : Nat → Prop} {o o2 q r : Nat} {s : AS} {x : Nt}
/-- an answer arrives -/
theorem Inv.got (hE : E.Ok) (h : Inv E A E.n E.n s) {l1 l2 : List Nt} (hf : s.fl = l1 ++ x :: l2) (hk : x.kd = 2 ∨ x.kd = 3) (ho : o = if s.aw x.to - 1 = 0 then x.to else E.n) : Inv E A o E.n (({ s with fl := l1 ++ l2 } : AS).got x) := by
  have hx : x ∈ s.fl := by rw [hf]; simp
  have hqa := (h.n2 x hx hk).1
  have hr3 := (h.n2 x hx hk).2
  have hqn := h.lt hqa
  have hin : ∀ z, z ∈ l1 ++ l2 → z ∈ s.fl := fun z hz => mem_rest hf hz
  have hin2 : ∀ z, z ∈ s.fl → z = x ∨ z ∈ l1 ++ l2 := fun z hz => mem_of hf hz
  have hcp : ∀ p : Nt → Bool, (l1 ++ l2).countP p + (p x).toNat = s.fl.countP p := fun p => (cp_rest hf p).symm
  have hroot : s.dec E.root = 1 → False := fun e => by have := (h.pf e).2.2 x hx; omega
  have haq : 1 ≤ s.aw x.to := by
    have h0 := h.cnt x.to hqn
    have h1 : 0 < s.fl.countP (isAns x.to) := List.countP_pos_iff.2 ⟨x, hx, by rcases hk with hk | hk <;> simp [isAns, hk]⟩
    unfold AS.count at h0
    omega
  have hpq : s.pend E.n x.to = true := by rw [pend_n s E hqn]; simp; omega
  have hdq := h.pd x.to hqa hpq
  have hpar : ∀ z, (({ s with fl := l1 ++ l2 } : AS).got x).par z = s.par z := fun z => by unfold AS.got; split <;> rfl
  have hdec : ∀ z, (({ s with fl := l1 ++ l2 } : AS).got x).dec z = s.dec z := fun z => by unfold AS.got; split <;> rfl
  have htent : ∀ z, (({ s with fl := l1 ++ l2 } : AS).got x).tent z = s.tent z := fun z => by unfold AS.got; split <;> rfl
  have hfl : (({ s with fl := l1 ++ l2 } : AS).got x).fl = l1 ++ l2 := by unfold AS.got; split <;> rfl
  have haw : ∀ z, (({ s with fl := l1 ++ l2 } : AS).got x).aw z = if z = x.to then s.aw x.to - 1 else s.aw z := fun z => by unfold AS.got; split <;> rfl
  have href : ∀ z, (({ s with fl := l1 ++ l2 } : AS).got x).ref z = if x.kd = 3 ∧ z = x.to then true else s.ref z := fun z => by
    unfold AS.got; split
    · rename_i e; simp only [e, true_and]; rfl
    · rename_i e; simp only [e, false_and, if_false]
  have hch : ∀ z, (({ s with fl := l1 ++ l2 } : AS).got x).ch z = if x.kd = 3 ∧ z = x.to then (s.ch x.to).filter (fun y => y != x.fr) else s.ch z := fun z => by
    unfold AS.got; split
    · rename_i e; simp only [e, true_and]; rfl
    · rename_i e; simp only [e, false_and, if_false]
  have hoq : o = x.to ∨ o = E.n := by rw [ho]; split <;> simp
  have hpend : ∀ z, z < E.n → (({ s with fl := l1 ++ l2 } : AS).got x).pend o z = s.pend E.n z := fun z hz => by
    show (decide (0 < (({ s with fl := l1 ++ l2 } : AS).got x).aw z) || z == o) = _
    rw [haw]
    by_cases e : z = x.to
    · rw [if_pos e, e, hpq, ho]
      by_cases e2 : s.aw x.to - 1 = 0
      · simp [e2]
      · rw [decide_eq_true (show 0 < s.aw x.to - 1 by omega), Bool.true_or]
    · rw [if_neg e, pend_n s E hz]
      have : (z == o) = false := by simp; omega
      rw [this, Bool.or_false]
  have hcnt : ∀ r, r < E.n → (({ s with fl := l1 ++ l2 } : AS).got x).aw r = ((({ s with fl := l1 ++ l2 } : AS).got x).count E o r : Nat) := fun r hr => by
    have h0 := h.cnt r hr
    have h1 := hcp (isReq r)
    have h2 := hcp (isAns r)
    have e5 : isReq r x = false := by
      have : decide (x.kd = 1) = false := by simp; omega
      simp [isReq, this]
    have e6 : isAns r x = (x.to == r) := by
      have : (decide (x.kd = 2) || decide (x.kd = 3)) = true := by simp; omega
      simp only [isAns, this, Bool.true_and]
    have hk2 := range_cc (n := E.n) (p := s.kid E E.n r) (p' := (({ s with fl := l1 ++ l2 } : AS).got x).kid E o r) (fun z hz => by
      simp only [AS.kid]
      rw [hpend z hz]
      simp only [hpar])
    rw [e5] at h1
    rw [e6] at h2
    unfold AS.count at h0 ⊢
    rw [haw, hfl, hk2]
    simp only [Bool.toNat_false] at h1
    by_cases er : r = x.to
    · subst er
      rw [if_pos rfl]
      rw [BEq.rfl] at h2
      simp only [Bool.toNat_true] at h2
      omega
    · rw [if_neg er]
      have : (x.to == r) = false := by simp; exact fun e => er e.symm
      rw [this] at h2
      simp only [Bool.toNat_false] at h2
      omega
  have hm : ∀ z, s.ref z = true → (({ s with fl := l1 ++ l2 } : AS).got x).ref z = true := fun z hz => by rw [href]; split <;> simp [hz]
  have hun2 : ∀ z, (({ s with fl := l1 ++ l2 } : AS).got x).ref z = true → (x.kd = 3 ∧ z = x.to) ∨ s.ref z = true := fun z hz => by
    rw [href] at hz; split at hz
    · exact .inl (by assumption)
    · exact .inr hz
  have hex : ∀ z, (({ s with fl := l1 ++ l2 } : AS).got x).ref z = true → ∃ y, s.ref y = true := fun z hz => by
    rcases hun2 z hz with h1 | h1
    · exact ⟨x.fr, hr3 h1.1⟩
    · exact ⟨z, h1⟩
  have hchm : ∀ z y, y ∈ s.ch z → y ∈ (({ s with fl := l1 ++ l2 } : AS).got x).ch z ∨ s.ref y = true := fun z y hy => by
    rw [hch]
    split
    · rename_i e
      by_cases ey : y = x.fr
      · exact .inr (by rw [ey]; exact hr3 e.1)
      · exact .inl (by rw [e.2] at hy; simp [hy, ey])
    · exact .inl hy
  have hchs : ∀ z y, y ∈ (({ s with fl := l1 ++ l2 } : AS).got x).ch z → y ∈ s.ch z := fun z y hy => by
    rw [hch] at hy
    split at hy
    · rename_i e; rw [e.2]; exact (List.mem_filter.1 hy).1
    · exact hy
  have hcd : ∀ z, ((({ s with fl := l1 ++ l2 } : AS).got x).ch z).Nodup := fun z => by
    rw [hch]; split
    · exact (h.cd _).sublist List.filter_sublist
    · exact h.cd z
  have hoz : (({ s with fl := l1 ++ l2 } : AS).got x).aw o = 0 := by
    rw [haw]
    by_cases e : o = x.to
    · rw [if_pos e]
      rw [ho] at e
      split at e
      · assumption
      · omega
    · rw [if_neg e]
      have e2 : o = E.n := hoq.resolve_left e
      by_cases e3 : s.par o = -1
      · exact (h.un _ e3).2.1
      · have := h.lt e3; omega
  generalize ({ s with fl := l1 ++ l2 } : AS).got x = t at *
  generalize l1 ++ l2 = l at *
  constructor
  case rt => rw [hpar]; exact h.rt
  case pv => intro z hz; simp only [hpar] at hz ⊢; exact h.pv z hz
  case rk => simp only [hpar]; exact h.rk
  case un =>
    intro z hz
    rw [hpar] at hz
    have := h.un z hz
    have hne : z ≠ x.to := fun e => hqa (e ▸ hz)
    rw [hch, haw, htent, href, hdec]
    simp only [hne, and_false, if_false]
    exact this
  case oa => intro e; rw [hpar]; rcases hoq with h1 | h1
             · rw [h1]; exact hqa
             · omega
  case aw0 => intro z; rw [haw]; split
              · omega
              · exact h.aw0 z
  case oz => exact hoz
  case nt => intro z hz; rw [hfl] at hz; rw [hpar]; exact h.nt z (hin z hz)
  case n1 =>
    intro z hz e
    rw [hfl] at hz
    have h2 := h.n1 z (hin z hz) e
    refine ⟨h2.1, h2.2.1, ?_⟩
    rcases h2.2.2 with h3 | h3
    · exact (hchm _ _ h3).imp id (hm _)
    · exact .inr (hm _ h3)
  case n2 => intro z hz e; rw [hfl] at hz; rw [hpar]; exact ⟨(h.n2 z (hin z hz) e).1, fun e2 => hm _ ((h.n2 z (hin z hz) e).2 e2)⟩
  case n0 => intro z hz e; rw [hfl] at hz; rw [hpar]; exact h.n0 z (hin z hz) e
  case n4 => intro z hz e; rw [hfl] at hz; rw [hdec]; exact h.n4 z (hin z hz) e
  case n5 => intro z hz e; rw [hfl] at hz; rw [hdec]; exact h.n5 z (hin z hz) e
  case nk => intro z hz; rw [hfl] at hz; exact h.nk z (hin z hz)
  case cnt => exact hcnt
  case sr =>
    intro z hz hw y hy
    rw [hpar] at hz ⊢; rw [hfl]
    rcases h.sr z hz hw y hy with h2 | h2
    · exact .inl h2
    · rcases hin2 _ h2 with h3 | h3
      · rw [← h3] at hk; simp at hk
      · exact .inr h3
  case uw =>
    intro z hz hw
    rw [hpar] at hz
    have h1 := h.uw z hz hw
    refine ⟨hm _ h1.1, ?_⟩
    cases hc : t.ch z with
    | nil => rfl
    | cons y l =>
      have := hchs z y (by rw [hc]; simp)
      rw [h1.2] at this; cases this
  case chi =>
    intro z r e1 e2
    rw [hpar] at e2
    rcases h.chi z r e1 e2 with h1 | h1
    · exact (hchm _ _ h1).imp id (hm _)
    · exact .inr (hm _ h1)
  case rf =>
    intro z r e1 e2 e3
    rw [hpar] at e2; rw [hfl]
    by_cases hz : s.ref z = true
    · rcases h.rf z r e1 e2 hz with h4 | h4 | h4
      · exact .inl (by rw [hpend z (h.lt (h.ref_as hz))]; exact h4)
      · rcases hin2 _ h4 with h5 | h5
        · refine .inr (.inr ?_)
          rw [href, if_pos (by rw [← h5]; exact ⟨rfl, rfl⟩)]
        · exact .inr (.inl h5)
      · exact .inr (.inr (hm _ h4))
    · rcases hun2 z e3 with h1 | h1
      · exact .inl (by rw [h1.2, hpend _ hqn]; exact hpq)
      · exact absurd h1 hz
  case d3 => intro z; rw [hdec]; exact h.d3 z
  case d2 => intro z hz; rw [hdec] at hz; obtain ⟨y, hy⟩ := h.d2 z hz; exact ⟨y, hm y hy⟩
  case ru => intro z hz; simp only [hpar]; obtain ⟨y, hy⟩ := hex z hz; exact h.ru y hy
  case p1 => intro z; rw [hdec, hdec]; exact h.p1 z
  case pf => intro e; rw [hdec] at e; exact (hroot e).elim
  case an =>
    intro z e0 e1 e2 e3
    rw [hpar] at e1; rw [hdec]
    rw [hpend z (h.lt e1)] at e2
    refine h.an z e0 e1 e2 ?_
    rcases e3 with e3 | e3
    · exact .inl e3
    · rcases hun2 z e3 with h1 | h1
      · rw [h1.2, hpq] at e2; cases e2
      · exact .inr h1
  case pd => intro z e1 e2; rw [hpar] at e1; rw [hdec]; rw [hpend z (h.lt e1)] at e2; exact h.pd z e1 e2
  case tn =>
    intro z e1 e2
    rw [hpar] at e1; rw [hdec, htent]
    refine h.tn z e1 (fun e => ?_)
    have := h.lt e1; omega
  case c1 => intro z r e1 e2 e3; rw [hdec] at e3; exact (hroot (h.p1 r e3)).elim
  case c2 =>
    intro z r e1 e2 e3
    rw [hpar] at e2; rw [hdec] at e3 ⊢; rw [hfl]
    rcases h.c2 z r e1 e2 e3 with h4 | h4 | ⟨h4, h5⟩
    · exact .inl h4
    · rcases hin2 _ h4 with h5 | h5
      · rw [← h5] at hk; simp at hk
      · exact .inr (.inl h5)
    · refine .inr (.inr ⟨hm _ h4, ?_⟩)
      rcases h5 with h5 | h5
      · exact .inl (by rw [hpend z (h.lt (h.ref_as h4))]; exact h5)
      · exact .inr h5
  case cl => intro z y hy; exact h.cl z y (hchs z y hy)
  case cd => exact hcd
  case ina => intro z hz; rw [hpar] at hz; exact h.ina z hz
/-- when the root has all answers, and none of them a refusal, nobody waits, nobody has refused, and nothing is in flight -/
theorem Inv.allDone (h : Inv E A E.n o2 s) (h0 : s.aw E.root = 0) (h1 : s.ref E.root = false) (hd : s.dec E.root = 0) : (∀ z, s.par z ≠ -1 → s.pend E.n z = false) ∧ (∀ z, s.ref z = false) ∧ s.fl = [] := by
  have hrt : s.par E.root ≠ -1 := by rw [h.rt]; omega
  have a1 : ∀ z, s.par z ≠ -1 → s.pend E.n z = false := by
    refine h.tree ?_ (fun z r e1 e2 e3 => ?_)
    · rw [pend_n s E (h.lt hrt), h0]; rfl
    · have hz : s.par z ≠ -1 := by omega
      obtain ⟨_, t, h3, h4⟩ := h.pv z hz
      have etr : t = r := by omega
      subst etr
      rw [pend_n s E (h.lt h4)] at e3
      have h5 := h.cnt t (h.lt h4)
      have h6 := h.aw0 t
      have h7 : s.aw t = 0 := by simp only [decide_eq_false_iff_not] at e3; omega
      unfold AS.count at h5
      have h8 : (List.range E.n).countP (s.kid E E.n t) = 0 := by omega
      have h9 := List.countP_eq_zero.1 h8 z (List.mem_range.2 (h.lt hz))
      cases hp : s.pend E.n z with
      | false => rfl
      | true =>
        exfalso
        apply h9
        simp only [AS.kid, hp, Bool.and_true, Bool.and_eq_true, decide_eq_true_eq, bne_iff_ne, ne_eq]
        exact ⟨e1, e2⟩
  have aw0 : ∀ z, s.par z ≠ -1 → s.aw z = 0 := fun z hz => by
    have := a1 z hz
    rw [pend_n s E (h.lt hz)] at this
    have h6 := h.aw0 z
    simp only [decide_eq_false_iff_not] at this
    omega
  have noK : ∀ x ∈ s.fl, x.kd = 1 ∨ x.kd = 2 ∨ x.kd = 3 → False := fun x hx hk => by
    by_cases e : x.kd = 1
    · have h5 := h.cnt x.fr (h.lt (h.nt x hx).2)
      rw [aw0 _ (h.nt x hx).2] at h5
      have : 0 < s.fl.countP (isReq x.fr) := List.countP_pos_iff.2 ⟨x, hx, by simp [isReq, e]⟩
      unfold AS.count at h5
      omega
    · have e2 : x.kd = 2 ∨ x.kd = 3 := hk.resolve_left e
      have h4 := (h.n2 x hx e2).1
      have h5 := h.cnt x.to (h.lt h4)
      rw [aw0 _ h4] at h5
      have : 0 < s.fl.countP (isAns x.to) := List.countP_pos_iff.2 ⟨x, hx, by rcases e2 with e2 | e2 <;> simp [isAns, e2]⟩
      unfold AS.count at h5
      omega
  have a2 : ∀ z, s.par z ≠ -1 → s.ref z = false := by
    refine h.tree h1 (fun z r e1 e2 e3 => ?_)
    cases hz : s.ref z with
    | false => rfl
    | true =>
      have hza : s.par z ≠ -1 := by omega
      rcases h.rf z r e1 e2 hz with h4 | h4 | h4
      · rw [a1 z hza] at h4; cases h4
      · exact (noK _ h4 (.inr (.inr rfl))).elim
      · rw [e3] at h4; cases h4
  have a3 : ∀ z, s.ref z = false := fun z => by
    by_cases e : s.par z = -1
    · exact (h.un z e).2.2.2.1
    · exact a2 z e
  refine ⟨a1, a3, ?_⟩
  cases hf : s.fl with
  | nil => rfl
  | cons x l =>
    have hx : x ∈ s.fl := by rw [hf]; simp
    exfalso
    rcases h.nk x hx with e | e | e | e | e
    · exact noK x hx (.inl e)
    · exact noK x hx (.inr (.inl e))
    · exact noK x hx (.inr (.inr e))
    · have := h.p1 _ (h.n4 x hx e); omega
    · obtain ⟨z, hz⟩ := h.d2 _ (h.n5 x hx e)
      rw [a3 z] at hz; cases hz
/-- a process answers, and decides if it is the root or refuses -/
theorem Inv.ans (hE : E.Ok) (h : Inv E A q E.n s) (hqn : q < E.n) : Inv E A E.n E.n (s.ans E q) := by
  have hq := h.oa hqn
  have hpq : s.pend q q = true := by simp [AS.pend]
  have hd0 := h.pd q hq hpq
  have ha0 := h.oz
  unfold AS.ans
  by_cases e : q = E.root
  · rw [if_pos e]
    have h2 := h.close hqn (ex := []) (.inl ⟨e, rfl⟩)
    rw [List.append_nil] at h2
    have h2 : Inv E A E.n q s := h2
    by_cases hr : s.ref q = true
    · rw [if_pos hr]
      exact h2.dcd hE (.inr rfl) hq hd0 ha0 (.inr ⟨rfl, q, hr⟩)
    · rw [if_neg hr]
      have h3 := h2.allDone (by rw [← e]; exact ha0) (by rw [← e]; simpa using hr) (by rw [← e]; exact hd0)
      exact h2.dcd hE (.inr rfl) hq hd0 ha0 (.inl ⟨rfl, .inl e, h3.1, h3.2.1, fun x hx => by rw [h3.2.2] at hx; cases hx⟩)
  · rw [if_neg e]
    obtain ⟨_, r, hr, _⟩ := h.pv q hq
    have hrn : (s.par q).toNat = r := by rw [hr]; rfl
    rw [hrn]
    by_cases hf : s.ref q = true
    · rw [if_pos hf]
      have h2 := h.close hqn (ex := [⟨3, q, r⟩]) (.inr ⟨e, r, 3, hr, rfl, .inr ⟨rfl, hf⟩⟩)
      exact h2.dcd hE (.inr rfl) hq hd0 ha0 (.inr ⟨rfl, q, hf⟩)
    · rw [if_neg hf]
      have hf' : s.ref q = false := by simpa using hf
      have h2 := h.close hqn (ex := [⟨2, q, r⟩]) (.inr ⟨e, r, 2, hr, rfl, .inl ⟨rfl, hf'⟩⟩)
      exact h2.drop e hf'
theorem Inv.ask (hE : E.Ok) (hA : ∀ q, A q → E.unw q = false → ∀ z ∈ E.src q, A z) (h : Inv E A E.n E.n s) {l1 l2 : List Nt} (hf : s.fl = l1 ++ x :: l2) (hk : x.kd = 1) (hp : s.par x.to = -1) :
    Inv E A E.n E.n (({ s with fl := l1 ++ l2 } : AS).ask E x.to x.fr) := by
  have hx : x ∈ s.fl := by rw [hf]; simp
  have hqn := (h.nt x hx).1
  unfold AS.ask
  by_cases hu : E.unw x.to = true
  · rw [if_pos hu]
    exact (h.askN hE hA hf hk hp hu).ans hE hqn
  · rw [if_neg hu]
    have hu' : E.unw x.to = false := by simpa using hu
    have h2 := h.askY hE hA hf hk hp hu' rfl
    by_cases hc : E.cs x.to x.fr = []
    · rw [if_pos hc] at h2 ⊢
      exact h2.ans hE hqn
    · rw [if_neg hc] at h2 ⊢
      exact h2
/-- a note arrives -/
theorem Inv.dlv (hE : E.Ok) (hA : ∀ q, A q → E.unw q = false → ∀ z ∈ E.src q, A z) (h : Inv E A E.n E.n s) {l1 l2 : List Nt} (hf : s.fl = l1 ++ x :: l2) : Inv E A E.n E.n (({ s with fl := l1 ++ l2 } : AS).dlv E x) := by
  have hx : x ∈ s.fl := by rw [hf]; simp
  unfold AS.dlv
  by_cases k1 : x.kd = 1
  · rw [if_pos k1]
    by_cases hp : s.par x.to = -1
    · rw [if_pos hp]
      exact h.ask hE hA hf k1 hp
    · rw [if_neg hp]
      by_cases hr : s.ref x.to = true
      · rw [if_pos hr]
        exact h.again hf k1 hp (y := ⟨3, x.to, x.fr⟩) ⟨rfl, rfl⟩ (.inr ⟨rfl, hr⟩)
      · rw [if_neg hr]
        exact h.again hf k1 hp (y := ⟨2, x.to, x.fr⟩) ⟨rfl, rfl⟩ (.inl rfl)
  rw [if_neg k1]
  by_cases k2 : x.kd = 2 ∨ x.kd = 3
  · rw [if_pos k2]
    have h2 := h.got hE hf k2 rfl
    have hqn := h.lt (h.n2 x hx k2).1
    have haw : (({ s with fl := l1 ++ l2 } : AS).got x).aw x.to = s.aw x.to - 1 := by
      unfold AS.got; split <;> exact up_same _ _ _
    rw [haw]
    by_cases e : s.aw x.to - 1 = 0
    · rw [if_pos e] at h2 ⊢
      exact h2.ans hE hqn
    · rw [if_neg e] at h2 ⊢
      exact h2
  rw [if_neg k2]
  have hto := (h.nt x hx).1
  by_cases k4 : x.kd = 4
  · rw [if_pos k4]
    have hdf := h.n4 x hx k4
    have hdr := h.p1 _ hdf
    have hpf := h.pf hdr
    by_cases ht : s.tent x.to = true
    · rw [if_pos ht]
      have hq : s.par x.to ≠ -1 := fun e => by have := (h.un _ e).2.2.1; rw [ht] at this; cases this
      have hd0 := (h.tn x.to hq (fun e => by omega)).1 ht
      have ha0 : s.aw x.to = 0 := by
        have := hpf.1 _ hq
        rw [pend_n s E hto] at this
        have h6 := h.aw0 x.to
        simp only [decide_eq_false_iff_not] at this
        omega
      have h2 := h.dcd hE (.inl rfl) hq hd0 ha0 (d := 1) (.inl ⟨rfl, .inr hdr, hpf⟩)
      have hf2 : (s.dcd x.to 1).fl = l1 ++ x :: (l2 ++ (s.ch x.to).map (fun r => ⟨if (1 : Int) = 2 then 5 else 4, x.to, r⟩)) := by
        show s.fl ++ _ = _
        rw [hf]; simp
      have h3 := h2.rest hf2 (.inl ⟨k4, up_same _ _ _⟩)
      rw [← List.append_assoc] at h3
      exact h3
    · rw [if_neg ht]
      have hn := fun hq : s.par x.to ≠ -1 => h.tn x.to hq (fun e => by omega)
      refine h.rest hf (.inl ⟨k4, ?_⟩)
      have hq : s.par x.to ≠ -1 := h.n0 x hx (by omega)
      have hd := fun e => ht ((hn hq).2 e)
      rcases h.d3 x.to with e | e | e
      · exact absurd e hd
      · exact e
      · obtain ⟨z, hz⟩ := h.d2 _ e
        rw [hpf.2.1 z] at hz; cases hz
  rw [if_neg k4]
  have k5 : x.kd = 5 := by have := h.nk x hx; omega
  have hdf := h.n5 x hx k5
  have hrx := h.d2 _ hdf
  by_cases ht : s.tent x.to = true
  · rw [if_pos ht]
    have hq : s.par x.to ≠ -1 := fun e => by have := (h.un _ e).2.2.1; rw [ht] at this; cases this
    have hd0 := (h.tn x.to hq (fun e => by omega)).1 ht
    by_cases ha0 : s.aw x.to = 0
    · rw [if_pos ha0]
      have h2 := h.dcd hE (.inl rfl) hq hd0 ha0 (d := 2) (.inr ⟨rfl, hrx⟩)
      have hf2 : (s.dcd x.to 2).fl = l1 ++ x :: (l2 ++ (s.ch x.to).map (fun r => ⟨if (2 : Int) = 2 then 5 else 4, x.to, r⟩)) := by
        show s.fl ++ _ = _
        rw [hf]; simp
      have h3 := h2.rest hf2 (.inr ⟨k5, .inl (by show up s.dec x.to 2 x.to ≠ 0; rw [up_same]; omega)⟩)
      rw [← List.append_assoc] at h3
      exact h3
    · rw [if_neg ha0]
      have hp : s.pend E.n x.to = true := by
        rw [pend_n s E hto]
        have := h.aw0 x.to
        simp only [decide_eq_true_eq]; omega
      have h2 := h.refset hq hp hrx
      exact h2.rest hf (.inr ⟨k5, .inr ⟨up_same _ _ _, hp⟩⟩)
  · rw [if_neg ht]
    have hq : s.par x.to ≠ -1 := h.n0 x hx (by omega)
    exact h.rest hf (.inr ⟨k5, .inl (fun e => ht ((h.tn x.to hq (fun e => by omega)).2 e))⟩)
end
section
variable {E : Tw} {A : Nat → Prop} {o o2 q r : Nat} {s : AS} {x : Nt}
def AS.zero : AS := ⟨fun _ => -1, fun _ => false, fun _ => 0, fun _ => false, fun _ => [], fun _ => 0, []⟩
/-- the machine at its beginning -/
theorem Inv.begin (hE : E.Ok) (hA : A E.root) : Inv E A E.n E.n (AS.zero.ask E E.root E.root) := by
  have hrt := hE.rt
  have hpar : ∀ z, up AS.zero.par E.root (E.root : Int) z ≠ -1 → z = E.root := fun z hz => by
    by_cases e : z = E.root
    · exact e
    · rw [up_of, if_neg e] at hz; exact absurd rfl hz
  have hpr : up AS.zero.par E.root (E.root : Int) E.root ≠ -1 := by rw [up_same]; omega
  have hkid : ∀ z r : Nat, z ≠ E.root → up AS.zero.par E.root (E.root : Int) z = r → False := fun z r e1 e2 => by
    rw [up_of, if_neg e1] at e2
    have : (-1 : Int) = r := e2
    omega
  have hpv : ∀ z, up AS.zero.par E.root (E.root : Int) z ≠ -1 → z < E.n ∧ ∃ r : Nat, up AS.zero.par E.root (E.root : Int) z = r ∧ up AS.zero.par E.root (E.root : Int) r ≠ -1 := fun z hz => by
    have := hpar z hz
    subst this
    exact ⟨hrt, _, up_same _ _ _, hpr⟩
  have hrk : ∃ (f : Nat → Nat) (N : Nat), (∀ z, f z ≤ N) ∧ ∀ z r : Nat, z ≠ E.root → up AS.zero.par E.root (E.root : Int) z = r → f r < f z := ⟨fun _ => 0, 0, fun _ => Nat.le_refl _, fun z r e1 e2 => (hkid z r e1 e2).elim⟩
  have hroot : ∀ z, z ≠ E.root → ∀ v : Bool, up AS.zero.ref E.root v z = false := fun z e v => by rw [up_of, if_neg e]; rfl
  unfold AS.ask
  by_cases hu : E.unw E.root = true
  · rw [if_pos hu]
    refine Inv.ans hE (q := E.root) ?_ hrt
    constructor
    case rt => exact up_same _ _ _
    case pv => exact hpv
    case rk => exact hrk
    case un =>
      intro z hz
      have hne : z ≠ E.root := fun e => hpr (e ▸ hz)
      exact ⟨rfl, rfl, rfl, hroot z hne true, rfl⟩
    case oa => exact fun _ => hpr
    case aw0 => exact fun _ => Int.le_refl 0
    case oz => rfl
    case nt => exact fun z hz => by cases hz
    case n1 => exact fun z hz => by cases hz
    case n2 => exact fun z hz => by cases hz
    case n0 => exact fun z hz => by cases hz
    case n4 => exact fun z hz => by cases hz
    case n5 => exact fun z hz => by cases hz
    case nk => exact fun z hz => by cases hz
    case cnt =>
      intro r hr
      have : (List.range E.n).countP ((AS.zero.askN E E.root E.root).kid E E.root r) = 0 := List.countP_eq_zero.2 fun z hz hk => by
        simp only [AS.kid, Bool.and_eq_true, bne_iff_ne, ne_eq, decide_eq_true_eq] at hk
        exact hkid z r hk.1.1 hk.1.2
      unfold AS.count
      rw [this]; rfl
    case sr => intro z hz hw; have := hpar z hz; subst this; rw [hu] at hw; cases hw
    case uw => intro z hz hw; have := hpar z hz; subst this; exact ⟨up_same _ _ _, rfl⟩
    case chi => exact fun z r e1 e2 => (hkid z r e1 e2).elim
    case rf => exact fun z r e1 e2 => (hkid z r e1 e2).elim
    case d3 => exact fun _ => .inl rfl
    case d2 => exact fun z hz => ⟨E.root, up_same _ _ _⟩
    case ru => exact fun z hz => ⟨E.root, hpr, hu⟩
    case p1 => intro z hz; have : (0 : Int) = 1 := hz; omega
    case pf => intro hz; have : (0 : Int) = 1 := hz; omega
    case an => intro z _ hz hp; have := hpar z hz; subst this; simp [AS.pend] at hp
    case pd => exact fun _ _ _ => rfl
    case tn => intro z hz hw; have := hpar z hz; subst this; rw [hu] at hw; exact absurd (hw (.inl rfl)) (by simp)
    case c1 => exact fun z r e1 e2 => (hkid z r e1 e2).elim
    case c2 => exact fun z r e1 e2 => (hkid z r e1 e2).elim
    case cl => intro z y hy; cases hy
    case cd => exact fun _ => List.nodup_nil
    case ina => intro z hz; have := hpar z hz; subst this; exact hA
  · rw [if_neg hu]
    have hu' : E.unw E.root = false := by simpa using hu
    have hmain : Inv E A (if E.cs E.root E.root = [] then E.root else E.n) E.n (AS.zero.askY E E.root E.root) := by
      have hin : ∀ z, z ∈ (AS.zero.askY E E.root E.root).fl → ∃ y ∈ E.cs E.root E.root, z = ⟨1, E.root, y⟩ := fun z hz => by
        have hz : z ∈ [] ++ (E.cs E.root E.root).map (fun y => (⟨1, E.root, y⟩ : Nt)) := hz
        rw [List.nil_append] at hz
        obtain ⟨y, hy, rfl⟩ := List.mem_map.1 hz
        exact ⟨y, hy, rfl⟩
      have hnew : ∀ y, y ∈ E.cs E.root E.root → (⟨1, E.root, y⟩ : Nt) ∈ (AS.zero.askY E E.root E.root).fl := fun y hy => List.mem_append.2 (.inr (List.mem_map.2 ⟨y, hy, rfl⟩))
      have hcs : ∀ y, y ∈ E.cs E.root E.root → y ∈ E.src E.root := fun y hy => (cs_mem.1 hy).1
      have hcn : (E.cs E.root E.root).Nodup := (hE.nd _).sublist List.filter_sublist
      have hpend : (AS.zero.askY E E.root E.root).pend (if E.cs E.root E.root = [] then E.root else E.n) E.root = true := by
        show (decide (0 < up AS.zero.aw E.root ((E.cs E.root E.root).length : Int) E.root) || E.root == _) = true
        rw [up_same]
        by_cases e : E.cs E.root E.root = []
        · rw [if_pos e]; simp
        · have := List.length_pos_iff.2 e
          rw [decide_eq_true (show (0 : Int) < ((E.cs E.root E.root).length : Int) by omega), Bool.true_or]
      constructor
      case rt => exact up_same _ _ _
      case pv => exact hpv
      case rk => exact hrk
      case un =>
        intro z hz
        have hne : z ≠ E.root := fun e => hpr (e ▸ hz)
        show up AS.zero.ch E.root (E.cs E.root E.root) z = [] ∧ up AS.zero.aw E.root ((E.cs E.root E.root).length : Int) z = 0 ∧ up AS.zero.tent E.root true z = false ∧ false = false ∧ (0 : Int) = 0
        rw [up_of, up_of, up_of, if_neg hne, if_neg hne, if_neg hne]
        exact ⟨rfl, rfl, rfl, rfl, rfl⟩
      case oa =>
        intro e
        split at e
        · rename_i e2; rw [if_pos e2]; exact hpr
        · omega
      case aw0 =>
        intro z
        show 0 ≤ up AS.zero.aw E.root ((E.cs E.root E.root).length : Int) z
        rw [up_of]; split
        · omega
        · exact Int.le_refl 0
      case oz =>
        show up AS.zero.aw E.root ((E.cs E.root E.root).length : Int) _ = 0
        split
        · rename_i e; rw [up_same, e]; rfl
        · rw [up_of, if_neg (by omega)]; rfl
      case nt => intro z hz; obtain ⟨y, hy, rfl⟩ := hin z hz; exact ⟨hE.lt _ y (hcs y hy), hpr⟩
      case n1 =>
        intro z hz _
        obtain ⟨y, hy, rfl⟩ := hin z hz
        refine ⟨hcs y hy, hu', .inl ?_⟩
        show y ∈ up AS.zero.ch E.root (E.cs E.root E.root) E.root
        rw [up_same]; exact hy
      case n2 => intro z hz e; obtain ⟨y, hy, rfl⟩ := hin z hz; simp only at e; omega
      case n0 => intro z hz e; obtain ⟨y, hy, rfl⟩ := hin z hz; simp at e
      case n4 => intro z hz e; obtain ⟨y, hy, rfl⟩ := hin z hz; simp only at e; omega
      case n5 => intro z hz e; obtain ⟨y, hy, rfl⟩ := hin z hz; simp only at e; omega
      case nk => intro z hz; obtain ⟨y, hy, rfl⟩ := hin z hz; exact .inl rfl
      case cnt =>
        intro r hr
        have h3 : (List.range E.n).countP ((AS.zero.askY E E.root E.root).kid E (if E.cs E.root E.root = [] then E.root else E.n) r) = 0 := List.countP_eq_zero.2 fun z hz hk => by
          simp only [AS.kid, Bool.and_eq_true, bne_iff_ne, ne_eq, decide_eq_true_eq] at hk
          exact hkid z r hk.1.1 hk.1.2
        have h2 : (AS.zero.askY E E.root E.root).fl.countP (isAns r) = 0 := cp_no _ _ (fun y hy => by obtain ⟨z, _, rfl⟩ := hin y hy; simp [isAns])
        have h1 : (AS.zero.askY E E.root E.root).fl.countP (isReq r) = if r = E.root then (E.cs E.root E.root).length else 0 := by
          split
          · rename_i e
            rw [cp_all _ _ (fun y hy => by obtain ⟨z, _, rfl⟩ := hin y hy; simp [isReq, e])]
            show ([] ++ (E.cs E.root E.root).map (fun y => (⟨1, E.root, y⟩ : Nt))).length = _
            simp
          · rename_i e
            exact cp_no _ _ (fun y hy => by obtain ⟨z, _, rfl⟩ := hin y hy; simp [isReq]; omega)
        unfold AS.count
        rw [h1, h2, h3]
        show up AS.zero.aw E.root ((E.cs E.root E.root).length : Int) r = _
        rw [up_of]
        split
        · omega
        · rfl
      case sr =>
        intro z hz hw y hy
        have := hpar z hz; subst this
        exact .inr (hnew y (cs_mem.2 ⟨hy, hE.ne _ y hy⟩))
      case uw => intro z hz hw; have := hpar z hz; subst this; rw [hu'] at hw; cases hw
      case chi => exact fun z r e1 e2 => (hkid z r e1 e2).elim
      case rf => exact fun z r e1 e2 => (hkid z r e1 e2).elim
      case d3 => exact fun _ => .inl rfl
      case d2 => intro z hz; have : (0 : Int) = 2 := hz; omega
      case ru => intro z hz; have : false = true := hz; cases this
      case p1 => intro z hz; have : (0 : Int) = 1 := hz; omega
      case pf => intro hz; have : (0 : Int) = 1 := hz; omega
      case an => intro z _ hz hp; have := hpar z hz; subst this; rw [hpend] at hp; cases hp
      case pd => exact fun _ _ _ => rfl
      case tn =>
        intro z hz hw
        have := hpar z hz; subst this
        show up AS.zero.tent E.root true E.root = true ↔ (0 : Int) = 0
        rw [up_same]; simp
      case c1 => exact fun z r e1 e2 => (hkid z r e1 e2).elim
      case c2 => exact fun z r e1 e2 => (hkid z r e1 e2).elim
      case cl =>
        intro z y hy
        have hy : y ∈ up AS.zero.ch E.root (E.cs E.root E.root) z := hy
        rw [up_of] at hy
        split at hy
        · rename_i e; rw [e]; exact hcs y hy
        · cases hy
      case cd =>
        intro z
        show (up AS.zero.ch E.root (E.cs E.root E.root) z).Nodup
        rw [up_of]; split
        · exact hcn
        · exact List.nodup_nil
      case ina => intro z hz; have := hpar z hz; subst this; exact hA
    by_cases hc : E.cs E.root E.root = []
    · rw [if_pos hc] at hmain ⊢
      exact hmain.ans hE hrt
    · rw [if_neg hc] at hmain ⊢
      exact hmain
/-- the end -/
structure Ended (E : Tw) (s : AS) : Prop where
  rt : s.par E.root ≠ -1
  lt : ∀ q, s.par q ≠ -1 → q < E.n
  sr : ∀ q, s.par q ≠ -1 → E.unw q = false → ∀ x ∈ E.src q, s.par x ≠ -1
  tent : ∀ q, s.tent q = false
  un : ∀ q, s.par q = -1 → s.dec q = 0
  res : ((∀ q, s.par q ≠ -1 → s.dec q = 1) ∧ ∀ q, s.par q ≠ -1 → E.unw q = false) ∨ ((∀ q, s.par q ≠ -1 → s.dec q = 2) ∧ ∃ q, s.par q ≠ -1 ∧ E.unw q = true)
end
section
variable {E : Tw} {A : Nat → Prop} {o o2 q r : Nat} {s : AS} {x : Nt}
theorem nodup_le : ∀ (n : Nat) (l : List Nat), l.Nodup → (∀ x ∈ l, x < n) → l.length ≤ n
  | 0, [], _, _ => Nat.le_refl _
  | 0, x :: l, _, h => absurd (h x (by simp)) (by omega)
  | n + 1, l, hn, h => by
    have h1 := nodup_le n (l.filter (fun x => x != n)) (hn.sublist List.filter_sublist) (fun x hx => by
      have h2 := List.mem_filter.1 hx
      have h3 := h x h2.1
      have h4 : x ≠ n := by simpa using h2.2
      omega)
    have h2 : l.length ≤ (l.filter (fun x => x != n)).length + 1 := by
      clear h1 h
      induction l with
      | nil => simp
      | cons y l ih =>
        have hn2 := List.nodup_cons.1 hn
        by_cases e : y = n
        · subst e
          have : l.filter (fun x => x != y) = l := List.filter_eq_self.2 fun z hz => by
            have : z ≠ y := fun e => hn2.1 (e ▸ hz)
            simp [this]
          rw [List.filter_cons]
          simp [this]
        · have := ih hn2.2
          rw [List.filter_cons]
          simp [e]; omega
    omega
def sumQ (f : Nat → Nat) : Nat → Nat
  | 0 => 0
  | n + 1 => sumQ f n + f n
theorem sumQ_one {f g : Nat → Nat} {n q : Nat} (hq : q < n) (h : ∀ x, x < n → x ≠ q → g x = f x) : sumQ g n + f q = sumQ f n + g q := by
  induction n with
  | zero => omega
  | succ n ih =>
    unfold sumQ
    by_cases e : q = n
    · subst e
      have : ∀ m, m ≤ q → sumQ g m = sumQ f m := by
        intro m hm
        induction m with
        | zero => rfl
        | succ m ih2 => unfold sumQ; rw [ih2 (by omega), h m (by omega) (by omega)]
      rw [this q (Nat.le_refl _)]; omega
    · have := ih (by omega) (fun x hx => h x (by omega))
      rw [h n (by omega) (fun h => e h.symm)]
      omega
def AS.pot (E : Tw) (s : AS) (q : Nat) : Nat := if s.par q = -1 then 3 * E.n else (if 0 < s.aw q then 1 else 0) + (if s.dec q = 0 then E.n else 0)
def wt (x : Nt) : Nat := if x.kd = 1 then 2 else 1
def wts : List Nt → Nat
  | [] => 0
  | x :: l => wt x + wts l
theorem wts_app (l m : List Nt) : wts (l ++ m) = wts l + wts m := by
  induction l with
  | nil => simp [wts]
  | cons x l ih => simp [wts, ih]; omega
theorem wts_one (x : Nt) : wts [x] = wt x := rfl
theorem wts_map (f : Nat → Nt) (k : Nat) (h : ∀ y, wt (f y) = k) (l : List Nat) : wts (l.map f) = k * l.length := by
  induction l with
  | nil => simp [wts]
  | cons x l ih => simp [wts, ih, h, Nat.mul_add]; omega
/-- how much may still happen -/
def AS.mu (E : Tw) (s : AS) : Nat := sumQ (s.pot E) E.n + wts s.fl
theorem AS.mu_dcd (hq : q < E.n) (hp : s.par q ≠ -1) (h0 : s.dec q = 0) {d : Int} (hd : d ≠ 0) (hc : (s.ch q).length ≤ E.n) : (s.dcd q d).mu E ≤ s.mu E := by
  have h1 := sumQ_one (f := s.pot E) (g := (s.dcd q d).pot E) hq (fun x _ hne => by
    show (if s.par x = -1 then 3 * E.n else (if 0 < s.aw x then 1 else 0) + (if up s.dec q d x = 0 then E.n else 0)) = _
    rw [up_of, if_neg hne]; rfl)
  have e1 : s.pot E q = (if 0 < s.aw q then 1 else 0) + E.n := by unfold AS.pot; rw [if_neg hp, if_pos h0]
  have e2 : (s.dcd q d).pot E q = (if 0 < s.aw q then 1 else 0) := by
    show (if s.par q = -1 then 3 * E.n else (if 0 < s.aw q then 1 else 0) + (if up s.dec q d q = 0 then E.n else 0)) = _
    rw [if_neg hp, up_same, if_neg hd]; rfl
  have e3 : wts (s.dcd q d).fl = wts s.fl + (s.ch q).length := by
    show wts (s.fl ++ _) = _
    rw [wts_app, wts_map _ 1 (fun y => by unfold wt; simp only; rw [if_neg (by split <;> omega)]), Nat.one_mul]
  unfold AS.mu
  omega
theorem AS.mu_post (y : Nt) (hy : y.kd ≠ 1) : (s.post y).mu E = s.mu E + 1 := by
  have : wts (s.post y).fl = wts s.fl + 1 := by
    show wts (s.fl ++ [y]) = _
    rw [wts_app, wts_one, wt, if_neg hy]
  unfold AS.mu
  have e : sumQ ((s.post y).pot E) E.n = sumQ (s.pot E) E.n := rfl
  omega
theorem AS.mu_ans (hq : q < E.n) (hp : s.par q ≠ -1) (h0 : s.dec q = 0) (hc : (s.ch q).length ≤ E.n) : (s.ans E q).mu E ≤ s.mu E + 1 := by
  unfold AS.ans
  split
  · split
    · have := AS.mu_dcd (s := s) hq hp h0 (d := 2) (by omega) hc; omega
    · have := AS.mu_dcd (s := s) hq hp h0 (d := 1) (by omega) hc; omega
  · split
    · have h1 := AS.mu_dcd (s := s.post ⟨3, q, (s.par q).toNat⟩) hq hp h0 (d := 2) (by omega) hc
      have h2 := AS.mu_post (E := E) (s := s) ⟨3, q, (s.par q).toNat⟩ (by simp)
      omega
    · have h2 := AS.mu_post (E := E) (s := s) ⟨2, q, (s.par q).toNat⟩ (by simp)
      omega
theorem Inv.chl (hE : E.Ok) (h : Inv E A o o2 s) (q : Nat) : (s.ch q).length ≤ E.n := nodup_le _ _ (h.cd q) (fun x hx => hE.lt q x (h.cl q x hx))
theorem cs_len (hE : E.Ok) (q r : Nat) : (E.cs q r).length ≤ E.n := nodup_le _ _ ((hE.nd q).sublist List.filter_sublist) (fun x hx => hE.lt q x (cs_mem.1 hx).1)
theorem Inv.mu_dlv (hE : E.Ok) (h : Inv E A E.n E.n s) {l1 l2 : List Nt} (hf : s.fl = l1 ++ x :: l2) : (({ s with fl := l1 ++ l2 } : AS).dlv E x).mu E < s.mu E := by
  have hx : x ∈ s.fl := by rw [hf]; simp
  have hto := (h.nt x hx).1
  have hw : ({ s with fl := l1 ++ l2 } : AS).mu E + wt x = s.mu E := by
    unfold AS.mu
    have e : sumQ (({ s with fl := l1 ++ l2 } : AS).pot E) E.n = sumQ (s.pot E) E.n := rfl
    rw [e, hf]
    show _ + wts (l1 ++ l2) + _ = _
    rw [wts_app, wts_app]
    show _ = _ + (wts l1 + (wt x + wts l2))
    omega
  have hw1 : 1 ≤ wt x := by unfold wt; split <;> omega
  have hpot : ({ s with fl := l1 ++ l2 } : AS).pot E = s.pot E := rfl
  unfold AS.dlv
  by_cases k1 : x.kd = 1
  · rw [if_pos k1]
    have hw2 : wt x = 2 := by unfold wt; rw [if_pos k1]
    by_cases hp : s.par x.to = -1
    · rw [if_pos hp]
      have hun := h.un _ hp
      have hpot0 : s.pot E x.to = 3 * E.n := by unfold AS.pot; rw [if_pos hp]
      have hpa : up s.par x.to (x.fr : Int) x.to ≠ -1 := by rw [up_same]; omega
      unfold AS.ask
      by_cases hu : E.unw x.to = true
      · rw [if_pos hu]
        have h1 := AS.mu_ans (E := E) (s := ({ s with fl := l1 ++ l2 } : AS).askN E x.to x.fr) hto hpa hun.2.2.2.2 (by show (s.ch x.to).length ≤ _; rw [hun.1]; simp)
        have h2 := sumQ_one (f := s.pot E) (g := (({ s with fl := l1 ++ l2 } : AS).askN E x.to x.fr).pot E) hto (fun z _ hne => by
          show (if up s.par x.to (x.fr : Int) z = -1 then 3 * E.n else (if 0 < s.aw z then 1 else 0) + (if s.dec z = 0 then E.n else 0)) = _
          rw [up_of, if_neg hne]; rfl)
        have h3 : (({ s with fl := l1 ++ l2 } : AS).askN E x.to x.fr).pot E x.to = E.n := by
          show (if up s.par x.to (x.fr : Int) x.to = -1 then 3 * E.n else (if 0 < s.aw x.to then 1 else 0) + (if s.dec x.to = 0 then E.n else 0)) = _
          rw [if_neg hpa, hun.2.1, hun.2.2.2.2]; simp
        have h4 : (({ s with fl := l1 ++ l2 } : AS).askN E x.to x.fr).mu E + (s.pot E x.to) = ({ s with fl := l1 ++ l2 } : AS).mu E + E.n := by
          unfold AS.mu
          rw [hpot]
          show sumQ _ _ + wts (l1 ++ l2) + _ = sumQ _ _ + wts (l1 ++ l2) + _
          omega
        omega
      · rw [if_neg hu]
        have hcl := cs_len hE x.to x.fr
        have h2 := sumQ_one (f := s.pot E) (g := (({ s with fl := l1 ++ l2 } : AS).askY E x.to x.fr).pot E) hto (fun z _ hne => by
          show (if up s.par x.to (x.fr : Int) z = -1 then 3 * E.n else (if 0 < up s.aw x.to ((E.cs x.to x.fr).length : Int) z then 1 else 0) + (if s.dec z = 0 then E.n else 0)) = _
          rw [up_of, up_of, if_neg hne, if_neg hne]; rfl)
        have h3 : (({ s with fl := l1 ++ l2 } : AS).askY E x.to x.fr).pot E x.to ≤ 1 + E.n ∧ (E.cs x.to x.fr = [] → (({ s with fl := l1 ++ l2 } : AS).askY E x.to x.fr).pot E x.to = E.n) := by
          show (if up s.par x.to (x.fr : Int) x.to = -1 then 3 * E.n else (if 0 < up s.aw x.to ((E.cs x.to x.fr).length : Int) x.to then 1 else 0) + (if s.dec x.to = 0 then E.n else 0)) ≤ _ ∧ (_ → (if up s.par x.to (x.fr : Int) x.to = -1 then 3 * E.n else (if 0 < up s.aw x.to ((E.cs x.to x.fr).length : Int) x.to then 1 else 0) + (if s.dec x.to = 0 then E.n else 0)) = _)
          rw [if_neg hpa, up_same, if_pos hun.2.2.2.2]
          refine ⟨by split <;> omega, fun e => ?_⟩
          rw [e]; simp
        have h4 : (({ s with fl := l1 ++ l2 } : AS).askY E x.to x.fr).mu E + (s.pot E x.to) = ({ s with fl := l1 ++ l2 } : AS).mu E + (({ s with fl := l1 ++ l2 } : AS).askY E x.to x.fr).pot E x.to + 2 * (E.cs x.to x.fr).length := by
          unfold AS.mu
          rw [hpot]
          show sumQ _ _ + wts (l1 ++ l2 ++ (E.cs x.to x.fr).map (fun y => (⟨1, x.to, y⟩ : Nt))) + _ = sumQ _ _ + wts (l1 ++ l2) + _ + _
          rw [wts_app _ ((E.cs x.to x.fr).map _), wts_map _ 2 (fun y => by unfold wt; simp)]
          omega
        by_cases hc : E.cs x.to x.fr = []
        · rw [if_pos hc]
          have h1 := AS.mu_ans (E := E) (s := ({ s with fl := l1 ++ l2 } : AS).askY E x.to x.fr) hto hpa hun.2.2.2.2 (by show (up s.ch x.to (E.cs x.to x.fr) x.to).length ≤ _; rw [up_same]; exact hcl)
          have h5 := h3.2 hc
          have h6 : (E.cs x.to x.fr).length = 0 := by rw [hc]; rfl
          omega
        · rw [if_neg hc]
          omega
    · rw [if_neg hp]
      by_cases hr : s.ref x.to = true
      · rw [if_pos hr, AS.mu_post _ (by simp)]; omega
      · rw [if_neg hr, AS.mu_post _ (by simp)]; omega
  rw [if_neg k1]
  by_cases k2 : x.kd = 2 ∨ x.kd = 3
  · rw [if_pos k2]
    have hqa := (h.n2 x hx k2).1
    have hw2 : wt x = 1 := by unfold wt; rw [if_neg k1]
    have haq : 1 ≤ s.aw x.to := by
      have h0 := h.cnt x.to hto
      have h1 : 0 < s.fl.countP (isAns x.to) := List.countP_pos_iff.2 ⟨x, hx, by rcases k2 with hk | hk <;> simp [isAns, hk]⟩
      unfold AS.count at h0
      omega
    have hd0 := h.pd x.to hqa (by rw [pend_n s E hto]; simp; omega)
    have haw : ∀ z, (({ s with fl := l1 ++ l2 } : AS).got x).aw z = if z = x.to then s.aw x.to - 1 else s.aw z := fun z => by unfold AS.got; split <;> rfl
    have hpar : ∀ z, (({ s with fl := l1 ++ l2 } : AS).got x).par z = s.par z := fun z => by unfold AS.got; split <;> rfl
    have hdec : ∀ z, (({ s with fl := l1 ++ l2 } : AS).got x).dec z = s.dec z := fun z => by unfold AS.got; split <;> rfl
    have hfl : (({ s with fl := l1 ++ l2 } : AS).got x).fl = l1 ++ l2 := by unfold AS.got; split <;> rfl
    have hch : ((({ s with fl := l1 ++ l2 } : AS).got x).ch x.to).length ≤ E.n := by
      have h1 := h.chl hE x.to
      unfold AS.got; split
      · show (up s.ch x.to ((s.ch x.to).filter (fun y => y != x.fr)) x.to).length ≤ _
        rw [up_same]
        exact Nat.le_trans (List.length_filter_le _ _) h1
      · exact h1
    have h2 := sumQ_one (f := s.pot E) (g := (({ s with fl := l1 ++ l2 } : AS).got x).pot E) hto (fun z _ hne => by
      unfold AS.pot; rw [hpar, haw, hdec, if_neg hne])
    have h3 : (({ s with fl := l1 ++ l2 } : AS).got x).pot E x.to = (if 0 < s.aw x.to - 1 then 1 else 0) + E.n := by
      unfold AS.pot; rw [hpar, haw, hdec, if_neg hqa, if_pos rfl, if_pos hd0]
    have h4 : s.pot E x.to = 1 + E.n := by
      unfold AS.pot; rw [if_neg hqa, if_pos hd0, if_pos (by omega)]
    have h5 : (({ s with fl := l1 ++ l2 } : AS).got x).mu E + s.pot E x.to = ({ s with fl := l1 ++ l2 } : AS).mu E + (({ s with fl := l1 ++ l2 } : AS).got x).pot E x.to := by
      unfold AS.mu
      rw [hpot, hfl]
      show sumQ _ _ + wts (l1 ++ l2) + _ = sumQ _ _ + wts (l1 ++ l2) + _
      omega
    by_cases e : (({ s with fl := l1 ++ l2 } : AS).got x).aw x.to = 0
    · rw [if_pos e]
      have h1 := AS.mu_ans (E := E) (s := ({ s with fl := l1 ++ l2 } : AS).got x) hto (by rw [hpar]; exact hqa) (by rw [hdec]; exact hd0) hch
      rw [haw, if_pos rfl] at e
      rw [if_neg (by omega)] at h3
      omega
    · rw [if_neg e]
      have : (if 0 < s.aw x.to - 1 then 1 else 0) ≤ 1 := by split <;> omega
      omega
  rw [if_neg k2]
  have hq : s.par x.to ≠ -1 := h.n0 x hx k1
  have hd0 : s.tent x.to = true → s.dec x.to = 0 := fun ht => (h.tn x.to hq (fun e => by omega)).1 ht
  by_cases k4 : x.kd = 4
  · rw [if_pos k4]
    by_cases ht : s.tent x.to = true
    · rw [if_pos ht]
      have := AS.mu_dcd (E := E) (s := { s with fl := l1 ++ l2 }) hto hq (hd0 ht) (d := 1) (by omega) (h.chl hE x.to)
      omega
    · rw [if_neg ht]; omega
  · rw [if_neg k4]
    by_cases ht : s.tent x.to = true
    · rw [if_pos ht]
      by_cases ha : s.aw x.to = 0
      · rw [if_pos ha]
        have := AS.mu_dcd (E := E) (s := { s with fl := l1 ++ l2 }) hto hq (hd0 ht) (d := 2) (by omega) (h.chl hE x.to)
        omega
      · rw [if_neg ha]
        refine Nat.lt_of_le_of_lt (Nat.le_of_eq (show AS.mu E _ = ({ s with fl := l1 ++ l2 } : AS).mu E from rfl)) ?_
        omega
    · rw [if_neg ht]; omega
theorem sumQ_le {f : Nat → Nat} {k : Nat} (h : ∀ x, f x ≤ k) (n : Nat) : sumQ f n ≤ k * n := by
  induction n with
  | zero => simp [sumQ]
  | succ n ih => have := h n; rw [Nat.mul_succ]; unfold sumQ; omega
theorem mu_begin (hE : E.Ok) : (AS.zero.ask E E.root E.root).mu E ≤ 3 * E.n * E.n + 2 * E.n + 2 := by
  have hrt := hE.rt
  have hpa : up AS.zero.par E.root (E.root : Int) E.root ≠ -1 := by rw [up_same]; omega
  unfold AS.ask
  have hn1 : 1 ≤ E.n := by omega
  split
  · have h1 := AS.mu_ans (E := E) (s := AS.zero.askN E E.root E.root) hrt hpa rfl (Nat.zero_le _)
    have h2 : (AS.zero.askN E E.root E.root).mu E ≤ 3 * E.n * E.n := by
      unfold AS.mu
      have : wts (AS.zero.askN E E.root E.root).fl = 0 := rfl
      have h3 := sumQ_le (f := (AS.zero.askN E E.root E.root).pot E) (k := 3 * E.n) (fun x => by
        unfold AS.pot; split
        · exact Nat.le_refl _
        · have : (if 0 < (AS.zero.askN E E.root E.root).aw x then 1 else 0) ≤ 1 := by split <;> omega
          have : (if (AS.zero.askN E E.root E.root).dec x = 0 then E.n else 0) ≤ E.n := by split <;> omega
          omega) E.n
      omega
    omega
  · have hcl := cs_len hE E.root E.root
    have h2 : (AS.zero.askY E E.root E.root).mu E ≤ 3 * E.n * E.n + 2 * E.n := by
      unfold AS.mu
      have h4 : wts (AS.zero.askY E E.root E.root).fl = 2 * (E.cs E.root E.root).length := by
        show wts ([] ++ (E.cs E.root E.root).map (fun y => (⟨1, E.root, y⟩ : Nt))) = _
        rw [List.nil_append, wts_map _ 2 (fun y => by unfold wt; simp)]
      have h3 := sumQ_le (f := (AS.zero.askY E E.root E.root).pot E) (k := 3 * E.n) (fun x => by
        unfold AS.pot; split
        · exact Nat.le_refl _
        · have : (if 0 < (AS.zero.askY E E.root E.root).aw x then 1 else 0) ≤ 1 := by split <;> omega
          have : (if (AS.zero.askY E E.root E.root).dec x = 0 then E.n else 0) ≤ E.n := by split <;> omega
          omega) E.n
      omega
    split
    · have h1 := AS.mu_ans (E := E) (s := AS.zero.askY E E.root E.root) hrt hpa rfl (by show (up AS.zero.ch E.root (E.cs E.root E.root) E.root).length ≤ _; rw [up_same]; exact hcl)
      omega
    · omega
end
end Tph
end Go.Proofs.Ytmjmdncdmmcmaaa
