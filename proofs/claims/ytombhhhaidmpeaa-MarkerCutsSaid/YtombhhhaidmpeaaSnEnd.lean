/- The snapshot machine: when all channels are emptied in turn, a snapshot that has begun is complete. No condition. -/
import Derived.Test.YtombhhhaidmpeaaSnRec
namespace Go.Proofs.Ytombhhhaidmpeaa
open Go.RowKit
set_option linter.unusedVariables false
set_option linter.unusedSimpArgs false

/-- the state behind a move, refused or not -/
def tryS (s : Snp) (m : Mv) : Snp := if refS s m = 0 then goS s m else s
/-- parcels in transit, and markers still to come -/
def potC (n : Nat) (s : Snp) (k : Nat) : Int := if k / n = k % n then 0 else ((chOf s.chs k).length : Int) + if nth s.cut (k / n) < 0 then 1 else 0
def pot (n : Nat) (s : Snp) : Int := rs (potC n s) (n * n)
theorem rs_nonneg {f : Nat → Int} (h : ∀ k, 0 ≤ f k) : ∀ n, 0 ≤ rs f n
  | 0 => Int.le_refl _
  | n + 1 => by have := rs_nonneg h n; have := h n; rw [rs]; omega
theorem rs_le {f : Nat → Int} {c : Int} (h : ∀ k, f k ≤ c) : ∀ n : Nat, rs f n ≤ n * c
  | 0 => by simp [rs]
  | n + 1 => by
    have h1 := rs_le h n
    have h2 := h n
    rw [rs, show ((n + 1 : Nat) : Int) * c = n * c + c by rw [Int.natCast_add, Int.add_mul]; simp]
    omega
theorem pot_nonneg (n : Nat) (s : Snp) : 0 ≤ pot n s := rs_nonneg (fun k => by unfold potC; split <;> (try split) <;> omega) _
section
variable {n b : Nat} {s : Snp}
theorem potC_at {a c : Nat} (hc : c < n) : potC n s (a * n + c) = if a = c then 0 else ((chOf s.chs (a * n + c)).length : Int) + if nth s.cut a < 0 then 1 else 0 := by
  unfold potC; rw [ch_div hc, ch_mod hc]
theorem pot_recS (h : SnOk n b s) {p : Nat} (hp : p < n) : pot n (recS s p) = pot n s := by
  by_cases hu : nth s.cut p < 0
  · rw [recS_eq h hu]
    have hc0 := (h.cb p hp).1
    refine rs_congr (fun k hk => ?_)
    obtain ⟨a, c, ha, hc, rfl⟩ := k_split hk
    rw [potC_at hc, potC_at hc, recR_ch h hp ha hc, recR_cut h hp]
    by_cases hac : a = c
    · rw [if_pos hac, if_pos hac]
    · rw [if_neg hac, if_neg hac]
      by_cases e : p = a
      · subst e
        have h1 : p = p ∧ c ≠ p := ⟨rfl, by omega⟩
        rw [if_pos h1, if_pos rfl, if_pos hu, List.length_append]
        have : ¬ nth s.cnts p < 0 := by omega
        rw [if_neg this]
        simp
      · have h1 : ¬ (a = p ∧ c ≠ p) := fun h => e h.1.symm
        rw [if_neg h1, if_neg e]
  · rw [recS_same hu]
theorem pot_set (h : SnOk n b s) {t : Snp} {p q : Nat} (hp : p < n) (hq : q < n) (hne : p ≠ q) (ec : t.cut = s.cut) {l : List Pcl} (eh : t.chs = s.chs.set (p * n + q) l) : pot n t = pot n s - (chOf s.chs (p * n + q)).length + l.length := by
  unfold pot
  have hC : ∀ k, k < n * n → k ≠ p * n + q → potC n t k = potC n s k := fun k hk hne2 => by
    obtain ⟨a, c, ha, hc, rfl⟩ := k_split hk
    have e : ¬ (p = a ∧ q = c) := fun e => hne2 (by rw [e.1, e.2])
    rw [potC_at hc, potC_at hc, ec, eh, set_ch h.lh hp hq hc, if_neg e]
  have hl : chOf t.chs (p * n + q) = l := by rw [eh, set_ch h.lh hp hq hq, if_pos ⟨rfl, rfl⟩]
  rw [rs_change (ch_lt hp hq) hC, potC_at hq, potC_at hq, if_neg hne, if_neg hne, ec, hl]
  omega
theorem pot_go (h : SnOk n b s) {t : Snp} {m : Mv} (hd : MvDo n s m t) : pot n t ≤ pot n s + 1 ∧ (m.kind = 2 → pot n t = pot n s - 1) := by
  cases hd with
  | begin p hp e => rw [pot_recS h hp]; exact ⟨by omega, fun h => by omega⟩
  | send p q hp hq hne e =>
    have h1 := pot_set h (t := sendS s p q m.val) hp hq hne (l := chOf s.chs (p * n + q) ++ [(false, m.val)]) rfl (by simp only [sendS]; rw [h.lv])
    rw [List.length_append, List.length_singleton] at h1
    exact ⟨by omega, fun h => by omega⟩
  | mark p q hp hq hne e ef et x l hx hm =>
    have e1 : pot n (markS s (p * n + q) q) = pot n (recS (popS s (p * n + q)) q) := rfl
    rw [e1, pot_recS (popS_ok h (ch_lt hp hq)) hq, pot_set h (t := popS s (p * n + q)) hp hq hne (l := l) rfl (by simp only [popS, hx, List.tail_cons]), hx]
    simp only [List.length_cons]
    exact ⟨by omega, fun _ => by omega⟩
  | take p q hp hq hne e ef et x l hx hm =>
    rw [pot_set h (t := takeS s (p * n + q) q x.2) hp hq hne (l := l) rfl (by simp only [takeS, popS, hx, List.tail_cons]), hx]
    simp only [List.length_cons]
    exact ⟨by omega, fun _ => by omega⟩
theorem tryS_ok (h : SnOk n b s) (m : Mv) : SnOk n (b + 1) (tryS s m) := by
  unfold tryS; split
  · rename_i hr; exact goS_ok h hr
  · exact h.mono (Nat.le_succ b)
theorem tryS_inv (h : SnOk n b s) (hi : SnInv n s) (m : Mv) : SnInv n (tryS s m) := by
  unfold tryS; split
  · rename_i hr; exact inv_go h hi (goS_do h hr)
  · exact hi
theorem tryS_pot (h : SnOk n b s) (m : Mv) : pot n (tryS s m) ≤ pot n s + 1 := by
  unfold tryS; split
  · rename_i hr; exact (pot_go h (goS_do h hr)).1
  · omega
/-- a delivery: nothing happens, or something less is in transit -/
theorem tryS_deliver (h : SnOk n b s) {m : Mv} (hk : m.kind = 2) : tryS s m = s ∨ pot n (tryS s m) = pot n s - 1 := by
  unfold tryS; split
  · rename_i hr; exact .inr ((pot_go h (goS_do h hr)).2 hk)
  · exact .inl rfl
end
/-- all channels are empty -/
def Still (n : Nat) (s : Snp) : Prop := ∀ k, k < n * n → chOf s.chs k = []
theorem still_deliver {n b : Nat} {s : Snp} (h : SnOk n b s) (hs : Still n s) {m : Mv} (hk : m.kind = 2) : tryS s m = s := by
  unfold tryS; split
  · rename_i hr
    obtain ⟨h1, h2, h3, h4, h5, h6, h7⟩ := refS_zero hr
    have h8 := h7 hk
    have h9 := h5 (by omega)
    rw [h.lv] at h4 h8 h9
    rw [hs _ (ch_lt (by omega) (by omega))] at h8
    simp at h8
  · rfl
/-- the run of a list of moves, told by place -/
def runS (f : Nat → Mv) (s : Snp) : Nat → Snp
  | 0 => s
  | i + 1 => tryS (runS f s i) (f i)
section
variable {n b : Nat} {s : Snp} {f : Nat → Mv}
theorem runS_ok (h : SnOk n b s) : ∀ i, SnOk n (b + i) (runS f s i)
  | 0 => h
  | i + 1 => tryS_ok (runS_ok h i) _
theorem runS_inv (h : SnOk n b s) (hi : SnInv n s) : ∀ i, SnInv n (runS f s i)
  | 0 => hi
  | i + 1 => tryS_inv (runS_ok h i) (runS_inv h hi i) _
theorem runS_pot (h : SnOk n b s) : ∀ i : Nat, pot n (runS f s i) ≤ pot n s + i
  | 0 => by simp [runS]
  | i + 1 => by
    have h1 := runS_pot h i
    have h2 := tryS_pot (runS_ok (f := f) h i) (f i)
    rw [runS]
    omega
/-- deliveries from place i on -/
theorem runS_less (h : SnOk n b s) {i : Nat} : ∀ j : Nat, (∀ k, i ≤ k → k < i + j → (f k).kind = 2) → runS f s (i + j) = runS f s i ∨ pot n (runS f s (i + j)) ≤ pot n (runS f s i) - 1
  | 0, _ => .inl rfl
  | j + 1, hk => by
    have ih := runS_less h (i := i) j (fun k h1 h2 => hk k h1 (by omega))
    have h1 := tryS_deliver (runS_ok (f := f) h (i + j)) (hk (i + j) (by omega) (by omega))
    have e : runS f s (i + (j + 1)) = tryS (runS f s (i + j)) (f (i + j)) := rfl
    rw [e]
    rcases h1 with h1 | h1
    · rw [h1]; exact ih
    · rcases ih with ih | ih
      · rw [ih] at h1 ⊢
        exact .inr (by omega)
      · exact .inr (by omega)
theorem runS_still (h : SnOk n b s) {i : Nat} (hs : Still n (runS f s i)) : ∀ j : Nat, (∀ k, i ≤ k → k < i + j → (f k).kind = 2) → runS f s (i + j) = runS f s i
  | 0, _ => rfl
  | j + 1, hk => by
    have ih := runS_still h hs j (fun k h1 h2 => hk k h1 (by omega))
    have e : runS f s (i + (j + 1)) = tryS (runS f s (i + j)) (f (i + j)) := rfl
    rw [e, ih, still_deliver (runS_ok h i) hs (hk (i + j) (by omega) (by omega))]
/-- the deliveries go round -/
def Round (n : Nat) (f : Nat → Mv) (i : Nat) : Prop := ∀ k, i ≤ k → (f k).kind = 2 ∧ (f k).fr = ((k / n % n : Nat) : Int) ∧ (f k).to = ((k % n : Nat) : Int)
theorem runS_cycle (h : SnOk n b s) (hi : SnInv n s) {i : Nat} (hr : Round n f i) : Still n (runS f s i) ∨ pot n (runS f s (i + n * n)) ≤ pot n (runS f s i) - 1 := by
  by_cases hs : Still n (runS f s i)
  · exact .inl hs
  · refine .inr ?_
    have hok := runS_ok (f := f) h i
    have hn0 : 0 < n := hok.n1
    have ⟨c, hc, hne⟩ : ∃ c, c < n * n ∧ chOf (runS f s i).chs c ≠ [] := by
      apply Classical.byContradiction
      intro hno
      exact hs fun k hk => Classical.byContradiction fun h2 => hno ⟨k, hk, h2⟩
    -- the place of channel c in the round
    obtain ⟨j, hj, hje⟩ : ∃ j, j < n * n ∧ (i + j) % (n * n) = c := by
      have hpos : 0 < n * n := Nat.mul_pos hn0 hn0
      by_cases hle : i % (n * n) ≤ c
      · refine ⟨c - i % (n * n), by omega, ?_⟩
        rw [Nat.add_mod, Nat.mod_eq_of_lt (show c - i % (n * n) < n * n by omega), show i % (n * n) + (c - i % (n * n)) = c by omega, Nat.mod_eq_of_lt hc]
      · have := Nat.mod_lt i hpos
        refine ⟨c + n * n - i % (n * n), by omega, ?_⟩
        rw [Nat.add_mod, Nat.mod_eq_of_lt (show c + n * n - i % (n * n) < n * n by omega), show i % (n * n) + (c + n * n - i % (n * n)) = c + n * n by omega, Nat.add_mod_right, Nat.mod_eq_of_lt hc]
    have hk2 : ∀ k, i ≤ k → (f k).kind = 2 := fun k hk => (hr k hk).1
    have h1 := runS_less (f := f) h (i := i) j (fun k h1 _ => hk2 k h1)
    have h2 := runS_less (f := f) h (i := i + j) (n * n - j) (fun k h1 _ => hk2 k (by omega))
    rw [show i + j + (n * n - j) = i + n * n by omega] at h2
    rcases h1 with h1 | h1
    · -- nothing has happened up to there: channel c is delivered now
      have h3 : runS f s (i + (j + 1)) = tryS (runS f s i) (f (i + j)) := by
        have : runS f s (i + (j + 1)) = tryS (runS f s (i + j)) (f (i + j)) := rfl
        rw [this, h1]
      obtain ⟨a, d, ha, hd, hce⟩ := k_split hc
      have hfr : (i + j) / n % n = a := by
        have e1 : (i + j) / n % n = (i + j) % (n * n) / n := (Nat.mod_mul_right_div_self (i + j) n n).symm
        rw [e1, hje, hce, ch_div hd]
      have hto : (i + j) % n = d := by
        have e1 : (i + j) % (n * n) % n = (i + j) % n := Nat.mod_mul_left_mod _ _ _
        rw [← e1, hje, hce, ch_mod hd]
      obtain ⟨q1, q2, q3⟩ := hr (i + j) (by omega)
      have hinv := runS_inv (f := f) h hi i
      have had : a ≠ d := fun e => by
        subst e
        exact hne (by rw [hce]; exact (hinv.diag a ha).1)
      have hacc : refS (runS f s i) (f (i + j)) = 0 := by
        unfold refS
        rw [hok.lv, q1, q2, q3, hfr, hto]
        simp only [Int.toNat_natCast]
        have hpos : 0 < (chOf (runS f s i).chs (a * n + d)).length := by
          rw [← hce]
          exact List.length_pos_iff.2 hne
        rw [if_neg (by omega), if_neg (by omega), if_neg (by omega), if_neg (by omega), if_neg (by omega)]
      have h4 : pot n (runS f s (i + (j + 1))) = pot n (runS f s i) - 1 := by
        rw [h3]
        unfold tryS
        rw [if_pos hacc]
        exact (pot_go hok (goS_do hok hacc)).2 q1
      have h5 := runS_less (f := f) h (i := i + (j + 1)) (n * n - (j + 1)) (fun k h1 _ => hk2 k (by omega))
      rw [show i + (j + 1) + (n * n - (j + 1)) = i + n * n by omega] at h5
      rcases h5 with h5 | h5
      · rw [h5]; omega
      · omega
    · rcases h2 with h2 | h2
      · rw [h2]; exact h1
      · omega
theorem runS_cycles (h : SnOk n b s) (hi : SnInv n s) {i : Nat} (hr : Round n f i) : ∀ c : Nat, Still n (runS f s (i + c * (n * n))) ∨ pot n (runS f s (i + c * (n * n))) ≤ pot n (runS f s i) - c
  | 0 => .inr (by simp)
  | c + 1 => by
    have hr' : Round n f (i + c * (n * n)) := fun k hk => hr k (by omega)
    have e : i + (c + 1) * (n * n) = i + c * (n * n) + n * n := by rw [Nat.succ_mul]; omega
    rw [e]
    have key : Still n (runS f s (i + c * (n * n))) → Still n (runS f s (i + c * (n * n) + n * n)) := fun hs => by
      rw [runS_still h hs (n * n) (fun k h1 _ => (hr' k h1).1)]; exact hs
    rcases runS_cycles h hi hr c with h1 | h1
    · exact .inl (key h1)
    · rcases runS_cycle h hi hr' with h2 | h2
      · exact .inl (key h2)
      · exact .inr (by omega)
/-- at the end all channels are empty -/
theorem runS_empty (h : SnOk n b s) (hi : SnInv n s) (hn4 : n ≤ 4) {i j : Nat} (hr : Round n f i) (hp : pot n (runS f s i) < 75) (hj : 1200 ≤ j) : Still n (runS f s (i + j)) := by
  have hnn : n * n ≤ 16 := Nat.mul_le_mul hn4 hn4
  have h75 : 75 * (n * n) ≤ j := by omega
  have h1 := (runS_cycles h hi hr 75).resolve_right (fun h2 => by
    have := pot_nonneg n (runS f s (i + 75 * (n * n)))
    omega)
  have h2 := runS_still h h1 (j - 75 * (n * n)) (fun k hk _ => (hr k (by omega)).1)
  rw [show i + 75 * (n * n) + (j - 75 * (n * n)) = i + j by omega] at h2
  rw [h2]; exact h1
/-- once begun and all emptied: complete -/
theorem still_done (h : SnOk n b s) (hi : SnInv n s) (hs : Still n s) {p : Nat} (hp : p < n) (hb : 0 ≤ nth s.cut p) : Done s := by
  have hall : ∀ q, q < n → 0 ≤ nth s.cut q := fun q hq => by
    by_cases e : p = q
    · subst e; exact hb
    · rcases hi.re p q hp hq e hb with h1 | ⟨_, h2, _⟩
      · rw [hs _ (ch_lt hp hq)] at h1; cases h1
      · exact h2
  refine ⟨fun x hx => ?_, fun x hx => ?_⟩
  · obtain ⟨q, hq, rfl⟩ := List.getElem_of_mem hx
    rw [← nth_eq hq]; exact hall q (by rw [← h.lk]; exact hq)
  · obtain ⟨k, hk, rfl⟩ := List.getElem_of_mem hx
    rw [← opOf_eq hk]
    obtain ⟨a, c, ha, hc, rfl⟩ := k_split (n := n) (k := k) (by rw [← h.lo]; exact hk)
    by_cases e : a = c
    · subst e; exact (hi.diag a ha).2.1
    · rcases hi.re a c ha hc e (hall a ha) with h1 | ⟨_, _, h2⟩
      · rw [hs _ (ch_lt ha hc)] at h1; cases h1
      · exact h2
/-- a process that has recorded stays so -/
theorem cut_go (h : SnOk n b s) {t : Snp} {m : Mv} (hd : MvDo n s m t) {p : Nat} (hp : p < n) (hb : 0 ≤ nth s.cut p) : 0 ≤ nth t.cut p := by
  have key : ∀ {b' : Nat} {s' : Snp} {q : Nat}, SnOk n b' s' → q < n → 0 ≤ nth s'.cut p → 0 ≤ nth (recS s' q).cut p := fun {b' s' q} h' hq hb' => by
    by_cases hu : nth s'.cut q < 0
    · rw [recS_eq h' hu, recR_cut h' hq]
      have := (h'.cb q hq).1
      split <;> omega
    · rw [recS_same hu]; exact hb'
  cases hd with
  | begin q hq => exact key h hq hb
  | send => exact hb
  | mark a q ha hq hne e ef et x l hx hm => exact key (s' := popS s (a * n + q)) (popS_ok h (ch_lt ha hq)) hq hb
  | take => exact hb
theorem runS_cut (h : SnOk n b s) {p : Nat} (hp : p < n) {i : Nat} (hb : 0 ≤ nth (runS f s i).cut p) : ∀ j : Nat, 0 ≤ nth (runS f s (i + j)).cut p
  | 0 => hb
  | j + 1 => by
    have ih := runS_cut h hp hb j
    have e : runS f s (i + (j + 1)) = tryS (runS f s (i + j)) (f (i + j)) := rfl
    rw [e]
    unfold tryS; split
    · rename_i hr
      exact cut_go (runS_ok h _) (goS_do (runS_ok h _) hr) hp ih
    · exact ih
/-- the markers that channels have carried -/
def MkInv (n : Nat) (s : Snp) (mk : List Int) : Prop := mk.length = n * n ∧ ∀ p q, p < n → q < n → p ≠ q → nth mk (p * n + q) + marks (chOf s.chs (p * n + q)) = if nth s.cut p < 0 then 0 else 1
/-- channel k carries a marker, if the move delivers one -/
def mkGo (n : Nat) (s : Snp) (m : Mv) (mk : List Int) : List Int :=
  if m.kind = 2 then match chOf s.chs (m.fr.toNat * n + m.to.toNat) with
    | [] => mk
    | x :: _ => if x.1 = true then mk.set (m.fr.toNat * n + m.to.toNat) (nth mk (m.fr.toNat * n + m.to.toNat) + 1) else mk
  else mk
theorem MkInv.go (h : SnOk n b s) (hi : SnInv n s) {m : Mv} {mk : List Int} (hk : MkInv n s mk) (hr : refS s m = 0) : MkInv n (goS s m) (mkGo n s m mk) := by
  have hd := goS_do h hr
  have hrec : ∀ {b' : Nat} {s' : Snp} {p : Nat}, SnOk n b' s' → p < n → (nth s'.cut p < 0 → ∀ c, c < n → c ≠ p → marks (chOf s'.chs (p * n + c)) = 0) → MkInv n s' mk → MkInv n (recS s' p) mk := fun {b' s' p} h' hp hm hk' => by
    by_cases hu : nth s'.cut p < 0
    · rw [recS_eq h' hu]
      have hc0 := (h'.cb p hp).1
      refine ⟨hk'.1, fun a c ha hc hne => ?_⟩
      have h1 := hk'.2 a c ha hc hne
      rw [recR_ch h' hp ha hc, recR_cut h' hp]
      by_cases e : p = a
      · subst e
        have h2 : p = p ∧ c ≠ p := ⟨rfl, by omega⟩
        rw [if_pos h2, if_pos rfl, marks_append, marks_mark, if_neg (by omega)]
        rw [if_pos hu, hm hu c hc (by omega)] at h1
        have := hm hu c hc (by omega)
        omega
      · have h2 : ¬ (a = p ∧ c ≠ p) := fun h => e h.1.symm
        rw [if_neg h2, if_neg e]; exact h1
    · rw [recS_same hu]; exact hk'
  generalize hg : goS s m = t at hd
  cases hd with
  | begin p hp e ef =>
    have e1 : mkGo n s m mk = mk := by unfold mkGo; rw [if_neg (by omega)]
    rw [e1]
    exact hrec h hp (fun hu c hc hcp => hi.un p c hp hc (by omega) hu) hk
  | send p q hp hq hne e =>
    have e1 : mkGo n s m mk = mk := by unfold mkGo; rw [if_neg (by omega)]
    rw [e1]
    refine ⟨hk.1, fun a c ha hc hn => ?_⟩
    have h1 := hk.2 a c ha hc hn
    have h2 : marks (chOf (sendS s p q m.val).chs (a * n + c)) = marks (chOf s.chs (a * n + c)) := by
      simp only [sendS, h.lv]
      rw [set_ch h.lh hp hq hc]
      split
      · rename_i e; obtain ⟨rfl, rfl⟩ := e; rw [marks_append, marks_val]; rfl
      · rfl
    rw [h2]; exact h1
  | take p q hp hq hne e ef et x l hx hm =>
    have e1 : mkGo n s m mk = mk := by
      unfold mkGo
      rw [if_pos e, ef, et]
      simp only [Int.toNat_natCast, hx]
      rw [if_neg hm]
    rw [e1]
    refine ⟨hk.1, fun a c ha hc hn => ?_⟩
    have h1 := hk.2 a c ha hc hn
    have h2 : marks (chOf (takeS s (p * n + q) q x.2).chs (a * n + c)) = marks (chOf s.chs (a * n + c)) := by
      simp only [takeS, popS]
      rw [set_ch h.lh hp hq hc, hx, List.tail_cons]
      split
      · rename_i e; obtain ⟨rfl, rfl⟩ := e; rw [hx, marks_cons, if_neg hm]; rfl
      · rfl
    rw [h2]; exact h1
  | mark p q hp hq hne e ef et x l hx hm =>
    have e1 : mkGo n s m mk = mk.set (p * n + q) (nth mk (p * n + q) + 1) := by
      unfold mkGo
      rw [if_pos e, ef, et]
      simp only [Int.toNat_natCast, hx]
      rw [if_pos hm]
    rw [e1]
    have hk0 : p * n + q < mk.length := by rw [hk.1]; exact ch_lt hp hq
    have hpop : MkInv n (popS s (p * n + q)) (mk.set (p * n + q) (nth mk (p * n + q) + 1)) := by
      refine ⟨by rw [List.length_set]; exact hk.1, fun a c ha hc hn => ?_⟩
      have h1 := hk.2 a c ha hc hn
      rw [nth_set hk0]
      simp only [popS]
      rw [set_ch h.lh hp hq hc, hx, List.tail_cons]
      simp only [ch_inj hq hc]
      by_cases e : p = a ∧ q = c
      · obtain ⟨rfl, rfl⟩ := e
        rw [if_pos ⟨rfl, rfl⟩, if_pos ⟨rfl, rfl⟩]
        rw [hx, marks_cons, if_pos hm] at h1
        omega
      · rw [if_neg e, if_neg e]; exact h1
    have hrec2 : ∀ {b' : Nat} {s' : Snp} {p : Nat} {mk : List Int}, SnOk n b' s' → p < n → (nth s'.cut p < 0 → ∀ c, c < n → c ≠ p → marks (chOf s'.chs (p * n + c)) = 0) → MkInv n s' mk → MkInv n (recS s' p) mk := fun {b' s' p mk} h' hp hm hk' => by
      by_cases hu : nth s'.cut p < 0
      · rw [recS_eq h' hu]
        have hc0 := (h'.cb p hp).1
        refine ⟨hk'.1, fun a c ha hc hne => ?_⟩
        have h1 := hk'.2 a c ha hc hne
        rw [recR_ch h' hp ha hc, recR_cut h' hp]
        by_cases e : p = a
        · subst e
          have h2 : p = p ∧ c ≠ p := ⟨rfl, by omega⟩
          rw [if_pos h2, if_pos rfl, marks_append, marks_mark, if_neg (by omega)]
          rw [if_pos hu, hm hu c hc (by omega)] at h1
          have := hm hu c hc (by omega)
          omega
        · have h2 : ¬ (a = p ∧ c ≠ p) := fun h => e h.1.symm
          rw [if_neg h2, if_neg e]; exact h1
      · rw [recS_same hu]; exact hk'
    have h3 := hrec2 (popS_ok h (ch_lt hp hq)) hq (fun hu c hc hcq => by
      simp only [popS]
      rw [set_ch h.lh hp hq hc, if_neg (by omega)]
      exact hi.un q c hq hc (by omega) hu) hpop
    exact ⟨h3.1, h3.2⟩
end
theorem newS_mk (vs : List Int) : MkInv vs.length (newS vs) (List.replicate (vs.length * vs.length) 0) := by
  refine ⟨by simp, fun p q hp hq hne => ?_⟩
  have hch : ∀ k, chOf (newS vs).chs k = [] := fun k => by
    simp only [newS, chOf, List.getD_eq_getElem?_getD, List.getElem?_replicate]; split <;> rfl
  have hcut : nth (newS vs).cut p = -1 := nth_rep_any hp
  rw [hch, nth_rep_any (ch_lt hp hq), hcut]
  rfl
theorem newS_pot (vs : List Int) : pot vs.length (newS vs) ≤ ((vs.length * vs.length : Nat) : Int) := by
  have hch : ∀ k, chOf (newS vs).chs k = [] := fun k => by
    simp only [newS, chOf, List.getD_eq_getElem?_getD, List.getElem?_replicate]; split <;> rfl
  have := rs_le (f := potC vs.length (newS vs)) (c := 1) (fun k => by
    unfold potC
    rw [hch]
    split
    · omega
    · split <;> simp) (vs.length * vs.length)
  unfold pot
  omega
end Go.Proofs.Ytombhhhaidmpeaa
