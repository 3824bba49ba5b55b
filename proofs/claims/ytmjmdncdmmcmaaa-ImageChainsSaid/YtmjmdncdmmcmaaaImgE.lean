/- Plain laws of images: the difference leads from the one to the other, and costs no more than all of it. No condition. -/
import Derived.Test.YtmjmdncdmmcmaaaImgC
import Derived.Test.YtmjmdncdmmcmaaaImgD
namespace Go.Proofs.Ytmjmdncdmmcmaaa
set_option linter.unusedVariables false

/-- the first 4 k cells of ys, then those of xs -/
def mix (xs ys : List Int) (k : Nat) : List Int := ys.take (4 * k) ++ xs.drop (4 * k)
theorem mix_length {xs ys : List Int} (h : ys.length = xs.length) (k : Nat) : (mix xs ys k).length = xs.length := by simp [mix]; omega
theorem mix_get {xs ys : List Int} (h : ys.length = xs.length) (k i : Nat) : (mix xs ys k)[i]? = if i < 4 * k then ys[i]? else xs[i]? := by
  unfold mix
  by_cases hk : 4 * k ≤ ys.length
  · have hl : (ys.take (4 * k)).length = 4 * k := by rw [List.length_take]; omega
    by_cases hi : i < 4 * k
    · rw [if_pos hi, List.getElem?_append_left (by omega), List.getElem?_take, if_pos hi]
    · rw [if_neg hi, List.getElem?_append_right (by omega), hl, List.getElem?_drop]; congr 1; omega
  · rw [List.take_of_length_le (by omega), List.drop_eq_nil_of_le (by omega), List.append_nil]
    by_cases hi : i < 4 * k
    · rw [if_pos hi]
    · rw [if_neg hi, List.getElem?_eq_none (by omega), List.getElem?_eq_none (by omega)]
theorem appL_snoc (b : List Int) (ps : List Pg) (p : Pg) : appL b (ps ++ [p]) = (appL b ps).bind (fun y => app1 y p) := by
  have h := appL_take b (ps ++ [p]) (k := ps.length) (by simp)
  rw [List.take_of_length_le (by simp)] at h
  simpa using h
theorem appL_diffTo {xs ys : List Int} (h : ys.length = xs.length) (k : Nat) (hk : k ≤ cnt xs.length) : appL xs (diffTo xs ys k) = .ok (mix xs ys k) := by
  induction k with
  | zero => simp [diffTo, appL, mix, pure, Except.pure]
  | succ k ih =>
    have ih := ih (by omega)
    have hlt : 4 * k < xs.length := by unfold cnt at hk; omega
    rw [diffTo]
    by_cases hd : dif xs ys k = true
    · rw [if_pos hd, appL_snoc, ih]
      show app1 (mix xs ys k) ((k : Int), pg ys k) = _
      have hpl : (pg ys k).length = (pg (mix xs ys k) k).length := by rw [pg_length, pg_length, mix_length h, h]
      unfold app1
      rw [if_neg (by rw [mix_length h]; simp; omega), if_neg (by simpa using hpl)]
      congr 1
      apply List.ext_getElem?
      intro i
      have h2 := pg_length ys k
      show (over (mix xs ys k) (4 * k) (pg ys k))[i]? = _
      rw [over_get _ _ _ (by rw [mix_length h]; omega), mix_get h, mix_get h]
      by_cases h1 : i < 4 * k
      · rw [if_pos h1, if_pos h1, if_pos (by omega)]
      · rw [if_neg h1, if_neg h1]
        by_cases h3 : i < 4 * k + (pg ys k).length
        · rw [if_pos h3, if_pos (by omega), pg_get, if_pos (by omega)]; congr 1; omega
        · rw [if_neg h3]
          by_cases h4 : i < 4 * (k + 1)
          · rw [if_pos h4, List.getElem?_eq_none (by omega), List.getElem?_eq_none (by omega)]
          · rw [if_neg h4]
    · have hp : pg xs k = pg ys k := by simp [dif] at hd; exact hd.2
      rw [if_neg hd, List.append_nil, ih]
      congr 1
      apply List.ext_getElem?
      intro i
      rw [mix_get h, mix_get h]
      by_cases h1 : i < 4 * k
      · rw [if_pos h1, if_pos (by omega)]
      · rw [if_neg h1]
        by_cases h4 : i < 4 * (k + 1)
        · rw [if_pos h4]
          have e1 := pg_get xs k (i - 4 * k)
          have e2 := pg_get ys k (i - 4 * k)
          rw [if_pos (by omega), show 4 * k + (i - 4 * k) = i by omega] at e1 e2
          rw [← e1, ← e2, hp]
        · rw [if_neg h4]
theorem appL_diffL (xs ys : List Int) (h : ys.length = xs.length) : appL xs (diffL xs ys) = .ok ys := by
  rw [diffL, appL_diffTo h _ (by rw [h]; exact Nat.le_refl _)]
  congr 1
  unfold mix
  rw [List.take_of_length_le (by unfold cnt; omega), List.drop_eq_nil_of_le (by unfold cnt; omega), List.append_nil]
theorem costL_diffTo' (a b : List Int) (k : Nat) : costL (diffTo a b k) ≤ min (4 * k) b.length := by
  induction k with
  | zero => simp [diffTo, costL]
  | succ k ih =>
    have h := pg_length b k
    simp only [costL] at *
    simp only [diffTo, List.map_append, List.sum_append]
    split
    · simp only [List.map_cons, List.map_nil, List.sum_cons, List.sum_nil]; omega
    · simp only [List.map_nil, List.sum_nil]; omega
theorem costL_diffL (a b : List Int) : costL (diffL a b) ≤ b.length := by have := costL_diffTo' a b (cnt b.length); unfold diffL; omega
theorem diffL_self (a : List Int) : diffL a a = [] := by
  unfold diffL
  generalize cnt a.length = k
  induction k with
  | zero => rfl
  | succ k ih => rw [diffTo, ih]; simp [dif]
end Go.Proofs.Ytmjmdncdmmcmaaa
