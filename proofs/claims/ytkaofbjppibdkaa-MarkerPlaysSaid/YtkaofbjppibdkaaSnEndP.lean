/- The run of law MarkerEnds: all channels emptied in turn. Plain law. No condition. -/
import Derived.Test.YtkaofbjppibdkaaSnEnd
import Derived.Test.YtkaofbjppibdkaaSnTot
namespace Go.Proofs.Ytkaofbjppibdkaa
open Go.RowKit
set_option linter.unusedVariables false
set_option linter.unusedSimpArgs false

/-- the channel that place i empties -/
def dlvK (m : Nat) (os : List Int) (i : Nat) : Nat := if i - m < os.length then (nth os (i - m)).toNat else i
/-- the moves of the run: those of l, then deliveries -/
def fE (n : Nat) (l : List Mv) (os : List Int) (i : Nat) : Mv := if h : i < l.length then l[i] else ⟨2, ((dlvK l.length os i / n % n : Nat) : Int), ((dlvK l.length os i % n : Nat) : Int), 0⟩
theorem fE_in {n : Nat} {l : List Mv} {os : List Int} {i : Nat} (h : i < l.length) : fE n l os i = l[i] := by rw [fE, dif_pos h]
theorem fE_out {n : Nat} {l : List Mv} {os : List Int} {i : Nat} (h : ¬ i < l.length) : fE n l os i = ⟨2, ((dlvK l.length os i / n % n : Nat) : Int), ((dlvK l.length os i % n : Nat) : Int), 0⟩ := by rw [fE, dif_neg h]
theorem comp_of_done {s : Snp} (h : Done s) : compS s = true := by
  simp only [compS, Bool.and_eq_true, Bool.not_eq_true', List.contains_eq_mem, decide_eq_false_iff_not]
  exact ⟨fun hm => by have := h.1 _ hm; omega, fun hm => by have := h.2 _ hm; cases this⟩
/-- what the run leaves -/
structure EndsAt (n : Nat) (s : Snp) : Prop where
  still : Still n s
  comp : compS s = true
  mks : ∀ mk : List Int, MkInv n s mk → ∀ k, k < n * n → k / n ≠ k % n → nth mk k = 1
theorem ends_pure {n m : Nat} {xs : List Int} {l : List Mv} {os : List Int} (hxl : xs.length = n) (hn2 : 2 ≤ n) (hn4 : n ≤ 4) (hxi : ∀ x ∈ xs, -9223372036854775808 ≤ x ∧ x ≤ 9223372036854775807) (hll : l.length = m) (hm50 : m ≤ 50) (ho : os.length ≤ 400) :
    EndsAt n (runS (fE n (l ++ [⟨3, ((n - 1 : Nat) : Int), 0, 0⟩]) os) (newS xs) (m + 1 + 1600)) := by
  subst hxl
  have h := newS_ok (vs := xs) (by omega) (by omega) hxi
  have hi := newS_inv (vs := xs)
  generalize hL : l ++ [(⟨3, ((xs.length - 1 : Nat) : Int), 0, 0⟩ : Mv)] = L
  have hLl : L.length = m + 1 := by rw [← hL, List.length_append, hll]; rfl
  generalize hf : fE xs.length L os = f
  generalize hn : xs.length = n at *
  have hout : ∀ i, m + 1 ≤ i → f i = ⟨2, ((dlvK (m + 1) os i / n % n : Nat) : Int), ((dlvK (m + 1) os i % n : Nat) : Int), 0⟩ := fun i hi' => by
    rw [← hf, fE_out (by omega), hLl]
  have hr : Round n f (m + 1 + os.length) := fun k hk => by
    rw [hout k (by omega)]
    have e : dlvK (m + 1) os k = k := by rw [dlvK, if_neg (by omega)]
    rw [e]
    exact ⟨rfl, rfl, rfl⟩
  have hp0 : pot n (newS xs) ≤ ((n * n : Nat) : Int) := by have := newS_pot xs; rw [hn] at this; exact this
  have hp1 := runS_pot (f := f) h (m + 1)
  have hnn : n * n ≤ 16 := Nat.mul_le_mul hn4 hn4
  have hp2 := runS_less (f := f) h (i := m + 1) os.length (fun k h1 h2 => by rw [hout k h1])
  have hpp : pot n (runS f (newS xs) (m + 1 + os.length)) < 75 := by
    rcases hp2 with e | e
    · rw [e]; omega
    · omega
  have hst := runS_empty (f := f) h hi hn4 hr hpp (j := 1600 - os.length) (by omega)
  rw [show m + 1 + os.length + (1600 - os.length) = m + 1 + 1600 by omega] at hst
  have hbeg : 0 ≤ nth (runS f (newS xs) (m + 1)).cut (n - 1) := by
    have hok := runS_ok (f := f) h m
    have e : runS f (newS xs) (m + 1) = tryS (runS f (newS xs) m) (f m) := rfl
    have e2 : f m = ⟨3, ((n - 1 : Nat) : Int), 0, 0⟩ := by
      rw [← hf, fE_in (by omega)]
      simp only [← hL, List.getElem_append, hll]
      rw [dif_neg (by omega)]
      simp
    rw [e, e2, tryS]
    have hr0 : refS (runS f (newS xs) m) ⟨3, ((n - 1 : Nat) : Int), 0, 0⟩ = 0 := by
      unfold refS
      rw [hok.lv]
      simp only
      rw [if_neg (by omega), if_pos trivial]
    rw [if_pos hr0]
    simp only [goS]
    rw [if_pos trivial]
    simp only [Int.toNat_natCast]
    by_cases hu : nth (runS f (newS xs) m).cut (n - 1) < 0
    · rw [recS_eq hok hu, recR_cut hok (by omega), if_pos rfl]
      exact (hok.cb (n - 1) (by omega)).1
    · rw [recS_same hu]; omega
  have hfin := runS_cut (f := f) h (p := n - 1) (by omega) hbeg 1600
  have hokE := runS_ok (f := f) h (m + 1 + 1600)
  have hdone := still_done hokE (runS_inv h hi _) hst (by omega) hfin
  refine ⟨hst, comp_of_done hdone, fun mk hmk k hk hne => ?_⟩
  obtain ⟨a, c, ha, hc, rfl⟩ := k_split hk
  rw [ch_div hc, ch_mod hc] at hne
  have h1 := hmk.2 a c ha hc hne
  rw [hst _ hk] at h1
  have h2 : 0 ≤ nth (runS f (newS xs) (m + 1 + 1600)).cut a := by
    have hal : a < (runS f (newS xs) (m + 1 + 1600)).cut.length := by rw [hokE.lk]; exact ha
    rw [nth_eq hal]
    exact hdone.1 _ (List.getElem_mem hal)
  rw [if_neg (by omega)] at h1
  simp only [marks, List.countP_nil, List.filter_nil, List.length_nil] at h1
  omega
/-- one step of the run -/
theorem runS_next {f : Nat → Mv} {s0 s : Snp} {i : Nat} (h : runS f s0 i = s) {m : Mv} (hm : f i = m) (hr : refS s m = 0) : runS f s0 (i + 1) = goS s m := by
  have e : runS f s0 (i + 1) = tryS (runS f s0 i) (f i) := rfl
  rw [e, h, hm, tryS, if_pos hr]
theorem runS_same {f : Nat → Mv} {s0 s : Snp} {i : Nat} (h : runS f s0 i = s) {m : Mv} (hm : f i = m) (hr : ¬ refS s m = 0) : runS f s0 (i + 1) = s := by
  have e : runS f s0 (i + 1) = tryS (runS f s0 i) (f i) := rfl
  rw [e, h, hm, tryS, if_neg hr]
end Go.Proofs.Ytkaofbjppibdkaa
