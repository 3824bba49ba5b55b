/- The snapshot machine as plain data: its moves, and what they keep. No condition. -/
import Derived.Test.YtmjmdncdmmcmaaaGa
import Derived.RowKit
namespace Go.Proofs.Ytmjmdncdmmcmaaa
open Go.RowKit
set_option linter.unusedVariables false
set_option linter.unusedSimpArgs false

/-- a parcel: a marker or not, its value -/
abbrev Pcl := Bool × Int
/-- a state of the snapshot machine -/
structure Snp where
  vals : List Int
  cnts : List Int
  chs : List (List Pcl)
  cut : List Int
  saved : List Int
  opn : List Bool
  recs : List (List Int)
/-- a move -/
structure Mv where
  kind : Int
  fr : Int
  to : Int
  val : Int
def Snp.none : Snp := ⟨[], [], [], [], [], [], []⟩
/-- channel k -/
def chOf (ls : List (List Pcl)) (k : Nat) : List Pcl := ls.getD k []
theorem chOf_eq {ls : List (List Pcl)} {k : Nat} (h : k < ls.length) : chOf ls k = ls[k] := by simp [chOf, h]
theorem chOf_set {ls : List (List Pcl)} {k j : Nat} (h : k < ls.length) (l : List Pcl) : chOf (ls.set k l) j = if k = j then l else chOf ls j := by
  by_cases e : k = j
  · subst e; simp [chOf, h]
  · rw [if_neg e]; simp only [chOf, List.getD_eq_getElem?_getD, List.getElem?_set_ne e]
def opOf (bs : List Bool) (k : Nat) : Bool := bs.getD k false
theorem opOf_eq {bs : List Bool} {k : Nat} (h : k < bs.length) : opOf bs k = bs[k] := by simp [opOf, h]
theorem opOf_set {bs : List Bool} {k j : Nat} (h : k < bs.length) (b : Bool) : opOf (bs.set k b) j = if k = j then b else opOf bs j := by
  by_cases e : k = j
  · subst e; simp [opOf, h]
  · rw [if_neg e]; simp only [opOf, List.getD_eq_getElem?_getD, List.getElem?_set_ne e]
theorem rowOf_set {ls : List (List Int)} {k j : Nat} (h : k < ls.length) (l : List Int) : rowOf (ls.set k l) j = if k = j then l else rowOf ls j := by
  by_cases e : k = j
  · subst e; simp [rowOf, h]
  · rw [if_neg e]; simp only [rowOf, List.getD_eq_getElem?_getD, List.getElem?_set_ne e]
/-- the error of a move -/
def refS (s : Snp) (m : Mv) : Int :=
  if m.kind < 1 ∨ 3 < m.kind ∨ m.fr < 0 ∨ (s.vals.length : Int) ≤ m.fr then 3
  else if m.kind = 3 then 0
  else if m.to < 0 ∨ (s.vals.length : Int) ≤ m.to ∨ m.to = m.fr then 3
  else if m.kind = 1 ∧ 256 ≤ (chOf s.chs (m.fr.toNat * s.vals.length + m.to.toNat)).length then 4
  else if m.kind = 2 ∧ (chOf s.chs (m.fr.toNat * s.vals.length + m.to.toNat)).length = 0 then 11
  else 0
/-- the channels behind a marker of p to the first r others -/
def markCh (n p r : Nat) (ls : List (List Pcl)) : List (List Pcl) := ls.mapIdx fun c l => if c / n = p ∧ c % n < r ∧ c % n ≠ p then l ++ [(true, 0)] else l
/-- the channels from the first r others to p are being recorded -/
def markOp (n p r : Nat) (bs : List Bool) : List Bool := bs.mapIdx fun c b => if c % n = p ∧ c / n < r ∧ c / n ≠ p then true else b
/-- process p has recorded its value, and sent markers to the first r others -/
def recR (s : Snp) (p r : Nat) : Snp := { s with chs := markCh s.vals.length p r s.chs, cut := s.cut.set p (nth s.cnts p), saved := s.saved.set p (nth s.vals p), opn := markOp s.vals.length p r s.opn }
def recS (s : Snp) (p : Nat) : Snp := if nth s.cut p < 0 then recR s p s.vals.length else s
def sendS (s : Snp) (p q : Nat) (v : Int) : Snp := { s with vals := s.vals.set p (wrap64 (nth s.vals p - v)), cnts := s.cnts.set p (nth s.cnts p + 1), chs := s.chs.set (p * s.vals.length + q) (chOf s.chs (p * s.vals.length + q) ++ [(false, v)]) }
def popS (s : Snp) (k : Nat) : Snp := { s with chs := s.chs.set k (chOf s.chs k).tail }
def markS (s : Snp) (k q : Nat) : Snp := { recS (popS s k) q with opn := (recS (popS s k) q).opn.set k false }
def takeS (s : Snp) (k q : Nat) (v : Int) : Snp := { popS s k with vals := s.vals.set q (wrap64 (nth s.vals q + v)), cnts := s.cnts.set q (nth s.cnts q + 1), recs := if opOf s.opn k = true then s.recs.set k (rowOf s.recs k ++ [v]) else s.recs }
/-- the state behind a move that is not refused -/
def goS (s : Snp) (m : Mv) : Snp :=
  if m.kind = 3 then recS s m.fr.toNat
  else if m.kind = 1 then sendS s m.fr.toNat m.to.toNat m.val
  else match chOf s.chs (m.fr.toNat * s.vals.length + m.to.toNat) with
    | [] => s
    | x :: _ => if x.1 = true then markS s (m.fr.toNat * s.vals.length + m.to.toNat) m.to.toNat else takeS s (m.fr.toNat * s.vals.length + m.to.toNat) m.to.toNat x.2
/-- what a step returns: a state, an error -/
def stepS (s : Snp) (m : Mv) : Snp × Int := if refS s m = 0 then (goS s m, 0) else (.none, refS s m)

/-- a state of n processes, at most b moves old -/
structure SnOk (n b : Nat) (s : Snp) : Prop where
  n1 : 1 ≤ n
  n5 : n ≤ 5
  lv : s.vals.length = n
  lc : s.cnts.length = n
  lh : s.chs.length = n * n
  lk : s.cut.length = n
  ls : s.saved.length = n
  lo : s.opn.length = n * n
  lr : s.recs.length = n * n
  vb : ∀ x ∈ s.vals, -9223372036854775808 ≤ x ∧ x ≤ 9223372036854775807
  cb : ∀ q, q < n → 0 ≤ nth s.cnts q ∧ nth s.cnts q ≤ b
  kb : ∀ q, q < n → -1 ≤ nth s.cut q ∧ nth s.cut q ≤ b
  hb : ∀ l ∈ s.chs, l.length ≤ b
  rb : ∀ l ∈ s.recs, l.length ≤ b
theorem SnOk.mono {n b b' : Nat} {s : Snp} (h : SnOk n b s) (hb : b ≤ b') : SnOk n b' s :=
  { h with
    cb := fun q hq => by have := h.cb q hq; omega
    kb := fun q hq => by have := h.kb q hq; omega
    hb := fun l hl => by have := h.hb l hl; omega
    rb := fun l hl => by have := h.rb l hl; omega }
theorem wrap_range (x : Int) : -9223372036854775808 ≤ wrap64 x ∧ wrap64 x ≤ 9223372036854775807 := by
  unfold wrap64; omega
theorem mem_set_or {α : Type} {l : List α} {k : Nat} {x y : α} (h : y ∈ l.set k x) : y ∈ l ∨ y = x := List.mem_or_eq_of_mem_set h
theorem markCh_len (n p r : Nat) (ls : List (List Pcl)) : (markCh n p r ls).length = ls.length := by simp [markCh]
theorem markOp_len (n p r : Nat) (bs : List Bool) : (markOp n p r bs).length = bs.length := by simp [markOp]
theorem markCh_at {n p r k : Nat} {ls : List (List Pcl)} (h : k < ls.length) : chOf (markCh n p r ls) k = if k / n = p ∧ k % n < r ∧ k % n ≠ p then chOf ls k ++ [(true, 0)] else chOf ls k := by
  rw [chOf_eq (by rw [markCh_len]; exact h), chOf_eq h]
  simp [markCh]
theorem markOp_at {n p r k : Nat} {bs : List Bool} (h : k < bs.length) : opOf (markOp n p r bs) k = if k % n = p ∧ k / n < r ∧ k / n ≠ p then true else opOf bs k := by
  rw [opOf_eq (by rw [markOp_len]; exact h), opOf_eq h]
  simp [markOp]
theorem ch_div {n p q : Nat} (hq : q < n) : (p * n + q) / n = p := by
  rw [Nat.mul_comm, Nat.mul_add_div (by omega), Nat.div_eq_of_lt hq, Nat.add_zero]
theorem ch_mod {n p q : Nat} (hq : q < n) : (p * n + q) % n = q := by
  rw [Nat.mul_comm, Nat.mul_add_mod, Nat.mod_eq_of_lt hq]
theorem ch_lt {n p q : Nat} (hp : p < n) (hq : q < n) : p * n + q < n * n := by
  have : p * n + n ≤ n * n := by rw [← Nat.succ_mul]; exact Nat.mul_le_mul_right _ hp
  omega
theorem list_ext_ch {a b : List (List Pcl)} (h : a.length = b.length) (h' : ∀ k, k < a.length → chOf a k = chOf b k) : a = b := by
  apply List.ext_getElem h
  intro k h1 h2
  have := h' k h1
  rwa [chOf_eq h1, chOf_eq h2] at this
theorem list_ext_op {a b : List Bool} (h : a.length = b.length) (h' : ∀ k, k < a.length → opOf a k = opOf b k) : a = b := by
  apply List.ext_getElem h
  intro k h1 h2
  have := h' k h1
  rwa [opOf_eq h1, opOf_eq h2] at this
theorem markCh_zero (n p : Nat) (ls : List (List Pcl)) : markCh n p 0 ls = ls := by
  refine list_ext_ch (markCh_len ..) fun k hk => ?_
  rw [markCh_len] at hk
  rw [markCh_at hk, if_neg (by omega)]
theorem markOp_zero (n p : Nat) (bs : List Bool) : markOp n p 0 bs = bs := by
  refine list_ext_op (markOp_len ..) fun k hk => ?_
  rw [markOp_len] at hk
  rw [markOp_at hk, if_neg (fun h => Nat.not_lt_zero _ h.2.1)]
theorem markCh_own (n p : Nat) (ls : List (List Pcl)) : markCh n p (p + 1) ls = markCh n p p ls := by
  refine list_ext_ch (by simp [markCh_len]) fun k hk => ?_
  rw [markCh_len] at hk
  rw [markCh_at hk, markCh_at hk]
  by_cases h : k / n = p ∧ k % n < p ∧ k % n ≠ p
  · rw [if_pos h, if_pos (by omega)]
  · rw [if_neg h, if_neg (by omega)]
theorem markOp_own (n p : Nat) (bs : List Bool) : markOp n p (p + 1) bs = markOp n p p bs := by
  refine list_ext_op (by simp [markOp_len]) fun k hk => ?_
  rw [markOp_len] at hk
  rw [markOp_at hk, markOp_at hk]
  by_cases h : k % n = p ∧ k / n < p ∧ k / n ≠ p
  · rw [if_pos h, if_pos (by omega)]
  · rw [if_neg h, if_neg (by omega)]
theorem markCh_next {n p r : Nat} {ls : List (List Pcl)} (hl : ls.length = n * n) (hp : p < n) (hr : r < n) (hne : r ≠ p) : markCh n p (r + 1) ls = (markCh n p r ls).set (p * n + r) (chOf (markCh n p r ls) (p * n + r) ++ [(true, 0)]) := by
  have hk0 : p * n + r < (markCh n p r ls).length := by rw [markCh_len, hl]; exact ch_lt hp hr
  refine list_ext_ch (by simp [markCh_len]) fun k hk => ?_
  rw [markCh_len] at hk
  rw [chOf_set hk0, markCh_at hk]
  by_cases e : p * n + r = k
  · subst e
    rw [if_pos rfl, markCh_at hk, ch_div hr, ch_mod hr, if_pos (by omega), if_neg (by omega)]
  · rw [if_neg e, markCh_at hk]
    have hdm : n * (k / n) + k % n = k := Nat.div_add_mod k n
    by_cases h : k / n = p ∧ k % n < r ∧ k % n ≠ p
    · rw [if_pos h, if_pos (by omega)]
    · rw [if_neg h, if_neg]
      rintro ⟨h1, h2, h3⟩
      have h4 : k % n = r := by omega
      rw [h1, h4] at hdm
      exact e (by rw [Nat.mul_comm]; exact hdm)
theorem markOp_next {n p r : Nat} {bs : List Bool} (hl : bs.length = n * n) (hp : p < n) (hr : r < n) (hne : r ≠ p) : markOp n p (r + 1) bs = (markOp n p r bs).set (r * n + p) true := by
  have hk0 : r * n + p < (markOp n p r bs).length := by rw [markOp_len, hl]; exact ch_lt hr hp
  refine list_ext_op (by simp [markOp_len]) fun k hk => ?_
  rw [markOp_len] at hk
  rw [opOf_set hk0, markOp_at hk]
  by_cases e : r * n + p = k
  · subst e
    rw [if_pos rfl, ch_div hp, ch_mod hp, if_pos (by omega)]
  · rw [if_neg e, markOp_at hk]
    have hdm : n * (k / n) + k % n = k := Nat.div_add_mod k n
    by_cases h : k % n = p ∧ k / n < r ∧ k / n ≠ p
    · rw [if_pos h, if_pos (by omega)]
    · rw [if_neg h, if_neg]
      rintro ⟨h1, h2, h3⟩
      have h4 : k / n = r := by omega
      rw [h1, h4] at hdm
      exact e (by rw [Nat.mul_comm]; exact hdm)
theorem mem_ch {ls : List (List Pcl)} {l : List Pcl} (h : l ∈ ls) : ∃ k, k < ls.length ∧ chOf ls k = l := by
  obtain ⟨k, hk, rfl⟩ := List.getElem_of_mem h
  exact ⟨k, hk, chOf_eq hk⟩
theorem SnOk.hbk {n b : Nat} {s : Snp} (h : SnOk n b s) {k : Nat} (hk : k < n * n) : (chOf s.chs k).length ≤ b := by
  have hk' : k < s.chs.length := by rw [h.lh]; exact hk
  rw [chOf_eq hk']
  exact h.hb _ (List.getElem_mem hk')
theorem SnOk.rbk {n b : Nat} {s : Snp} (h : SnOk n b s) {k : Nat} (hk : k < n * n) : (rowOf s.recs k).length ≤ b := by
  have hk' : k < s.recs.length := by rw [h.lr]; exact hk
  rw [rowOf_eq hk']
  exact h.rb _ (List.getElem_mem hk')
theorem recR_ok {n b p r : Nat} {s : Snp} (h : SnOk n b s) (hp : p < n) : SnOk n (b + 1) (recR s p r) := by
  have hm := h.mono (Nat.le_succ b)
  refine { hm with lh := ?_, lk := ?_, ls := ?_, lo := ?_, kb := fun q hq => ?_, hb := fun l hl => ?_ }
  · simp only [recR, markCh_len]; exact h.lh
  · simp only [recR, List.length_set]; exact h.lk
  · simp only [recR, List.length_set]; exact h.ls
  · simp only [recR, markOp_len]; exact h.lo
  · simp only [recR]
    rw [nth_set (by rw [h.lk]; exact hp)]
    have h1 := h.cb p hp
    have h2 := h.kb q hq
    split <;> omega
  · simp only [recR] at hl
    obtain ⟨k, hk, rfl⟩ := mem_ch hl
    rw [markCh_len, h.lh] at hk
    have h3 := h.hbk hk
    rw [markCh_at (by rw [h.lh]; exact hk)]
    split
    · simp only [List.length_append, List.length_singleton]; omega
    · omega
theorem recS_ok {n b p : Nat} {s : Snp} (h : SnOk n b s) (hp : p < n) : SnOk n (b + 1) (recS s p) := by
  unfold recS; split
  · exact recR_ok h hp
  · exact h.mono (Nat.le_succ b)
theorem popS_ok {n b k : Nat} {s : Snp} (h : SnOk n b s) (hk : k < n * n) : SnOk n b (popS s k) := by
  refine { h with lh := ?_, hb := fun l hl => ?_ }
  · simp only [popS, List.length_set]; exact h.lh
  · rcases mem_set_or hl with hl | rfl
    · exact h.hb l hl
    · have := h.hbk hk
      rw [List.length_tail]; omega
theorem sendS_ok {n b p q : Nat} {v : Int} {s : Snp} (h : SnOk n b s) (hp : p < n) (hq : q < n) : SnOk n (b + 1) (sendS s p q v) := by
  have hm := h.mono (Nat.le_succ b)
  refine { hm with lv := ?_, lc := ?_, lh := ?_, vb := fun x hx => ?_, cb := fun r hr => ?_, hb := fun l hl => ?_ }
  · simp only [sendS, List.length_set]; exact h.lv
  · simp only [sendS, List.length_set]; exact h.lc
  · simp only [sendS, List.length_set]; exact h.lh
  · rcases mem_set_or hx with hx | rfl
    · exact h.vb x hx
    · exact wrap_range _
  · simp only [sendS]
    rw [nth_set (by rw [h.lc]; exact hp)]
    have h1 := h.cb p hp
    have h2 := h.cb r hr
    split <;> omega
  · rcases mem_set_or hl with hl | rfl
    · exact hm.hb l hl
    · rw [h.lv]
      have := h.hbk (ch_lt hp hq)
      simp only [List.length_append, List.length_singleton]; omega
theorem markS_ok {n b k q : Nat} {s : Snp} (h : SnOk n b s) (hk : k < n * n) (hq : q < n) : SnOk n (b + 1) (markS s k q) := by
  have h1 := recS_ok (popS_ok h hk) hq
  exact { h1 with lo := by simp only [markS, List.length_set]; exact h1.lo }
theorem takeS_ok {n b k q : Nat} {v : Int} {s : Snp} (h : SnOk n b s) (hk : k < n * n) (hq : q < n) : SnOk n (b + 1) (takeS s k q v) := by
  have hm := (popS_ok h hk).mono (Nat.le_succ b)
  refine { hm with lv := ?_, lc := ?_, lr := ?_, vb := fun x hx => ?_, cb := fun r hr => ?_, rb := fun l hl => ?_ }
  · simp only [takeS, List.length_set]; exact h.lv
  · simp only [takeS, List.length_set]; exact h.lc
  · simp only [takeS]; split
    · rw [List.length_set]; exact h.lr
    · exact h.lr
  · rcases mem_set_or hx with hx | rfl
    · exact h.vb x hx
    · exact wrap_range _
  · simp only [takeS]
    rw [nth_set (by rw [h.lc]; exact hq)]
    have h1 := h.cb q hq
    have h2 := h.cb r hr
    split <;> omega
  · simp only [takeS] at hl
    have h1 := h.rbk hk
    split at hl
    · rcases mem_set_or hl with hl | rfl
      · have := h.rb l hl; omega
      · simp only [List.length_append, List.length_singleton]; omega
    · have := h.rb l hl; omega
/-- what a move that is not refused asks -/
theorem refS_zero {s : Snp} {m : Mv} (h : refS s m = 0) : 1 ≤ m.kind ∧ m.kind ≤ 3 ∧ 0 ≤ m.fr ∧ m.fr < s.vals.length ∧ (m.kind ≠ 3 → 0 ≤ m.to ∧ m.to < s.vals.length ∧ m.to ≠ m.fr) ∧ (m.kind = 1 → (chOf s.chs (m.fr.toNat * s.vals.length + m.to.toNat)).length < 256) ∧ (m.kind = 2 → 0 < (chOf s.chs (m.fr.toNat * s.vals.length + m.to.toNat)).length) := by
  unfold refS at h
  by_cases h1 : m.kind < 1 ∨ 3 < m.kind ∨ m.fr < 0 ∨ (s.vals.length : Int) ≤ m.fr
  · rw [if_pos h1] at h; omega
  rw [if_neg h1] at h
  by_cases h2 : m.kind = 3
  · exact ⟨by omega, by omega, by omega, by omega, fun h => absurd h2 h, fun h => by omega, fun h => by omega⟩
  rw [if_neg h2] at h
  by_cases h3 : m.to < 0 ∨ (s.vals.length : Int) ≤ m.to ∨ m.to = m.fr
  · rw [if_pos h3] at h; omega
  rw [if_neg h3] at h
  by_cases h4 : m.kind = 1 ∧ 256 ≤ (chOf s.chs (m.fr.toNat * s.vals.length + m.to.toNat)).length
  · rw [if_pos h4] at h; omega
  rw [if_neg h4] at h
  by_cases h5 : m.kind = 2 ∧ (chOf s.chs (m.fr.toNat * s.vals.length + m.to.toNat)).length = 0
  · rw [if_pos h5] at h; omega
  exact ⟨by omega, by omega, by omega, by omega, fun _ => by omega, fun _ => by omega, fun _ => by omega⟩
theorem goS_ok {n b : Nat} {s : Snp} {m : Mv} (h : SnOk n b s) (hr : refS s m = 0) : SnOk n (b + 1) (goS s m) := by
  obtain ⟨h1, h2, h3, h4, h5, h6, h7⟩ := refS_zero hr
  rw [h.lv] at h4 h5
  have hf : m.fr.toNat < n := by omega
  unfold goS
  by_cases e3 : m.kind = 3
  · rw [if_pos e3]; exact recS_ok h hf
  have h8 := h5 e3
  have ht : m.to.toNat < n := by omega
  have hk := ch_lt hf ht
  rw [if_neg e3]
  by_cases e1 : m.kind = 1
  · rw [if_pos e1]; exact sendS_ok h hf ht
  rw [if_neg e1, h.lv]
  split
  · exact h.mono (Nat.le_succ b)
  · split
    · exact markS_ok h hk ht
    · exact takeS_ok h hk ht
theorem stepS_ok {n b : Nat} {s : Snp} {m : Mv} (h : SnOk n b s) (hr : (stepS s m).2 = 0) : SnOk n (b + 1) (stepS s m).1 := by
  unfold stepS at *
  by_cases e : refS s m = 0
  · rw [if_pos e]; exact goS_ok h e
  · rw [if_neg e] at hr; exact absurd hr e
/-- the machine for given values -/
def newS (vs : List Int) : Snp := ⟨vs, List.replicate vs.length 0, List.replicate (vs.length * vs.length) [], List.replicate vs.length (-1), List.replicate vs.length 0, List.replicate (vs.length * vs.length) false, List.replicate (vs.length * vs.length) []⟩
theorem nth_rep_any {n q : Nat} {v : Int} (h : q < n) : nth (List.replicate n v) q = v := by simp [nth, h]
theorem newS_ok {vs : List Int} (h1 : 1 ≤ vs.length) (h5 : vs.length ≤ 5) (hb : ∀ x ∈ vs, -9223372036854775808 ≤ x ∧ x ≤ 9223372036854775807) : SnOk vs.length 0 (newS vs) where
  n1 := h1
  n5 := h5
  lv := rfl
  lc := by simp [newS]
  lh := by simp [newS]
  lk := by simp [newS]
  ls := by simp [newS]
  lo := by simp [newS]
  lr := by simp [newS]
  vb := hb
  cb := fun q hq => by simp only [newS]; rw [nth_rep_any hq]; omega
  kb := fun q hq => by simp only [newS]; rw [nth_rep_any hq]; omega
  hb := fun l hl => by rw [List.eq_of_mem_replicate hl]; simp
  rb := fun l hl => by rw [List.eq_of_mem_replicate hl]; simp
end Go.Proofs.Ytmjmdncdmmcmaaa
