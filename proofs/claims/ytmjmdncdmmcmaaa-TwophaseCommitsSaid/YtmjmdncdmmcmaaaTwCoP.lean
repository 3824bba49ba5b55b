/- What a run with willing processes ends with, in plain words. No condition. -/
import Derived.Test.YtmjmdncdmmcmaaaTwZ
import Derived.Test.YtmjmdncdmmcmaaaTwE
import Derived.Test.YtmjmdncdmmcmaaaGe
namespace Go.Proofs.Ytmjmdncdmmcmaaa
open Go.RowKit Tph
set_option linter.unusedVariables false
set_option linter.unusedSimpArgs false
set_option linter.unusedSectionVars false

theorem opOf_unw0 (n q : Nat) : opOf (unwOf n []) q = false := by
  unfold opOf unwOf
  rw [List.getD_eq_getElem?_getD, List.getElem?_map]
  cases h : (List.range n)[q]? with
  | none => rfl
  | some z => simp
theorem wr_rch {p : Pat} {n r q : Nat} : WR p (unwOf n []) r q ↔ Rch (srcL p) r q := by
  constructor
  · intro h
    induction h with
    | here => exact .here
    | step h1 h2 h3 ih => exact .step ih h3
  · intro h
    induction h with
    | here => exact .here
    | step h1 h2 ih => exact .step ih (opOf_unw0 _ _) h2
theorem dec0 {p : Pat} {n r : Nat} {t : TS} (h : RunE p n r [] t) (q : Nat) : (nth t.dec q = 1 ↔ Rch (srcL p) r q) ∧ nth t.dec q ≠ 2 := by
  rcases h.res with ⟨h1, h2⟩ | ⟨_, z, _, h3⟩
  · by_cases hw : WR p (unwOf n []) r q
    · rw [h1 q hw]
      exact ⟨⟨fun _ => wr_rch.1 hw, fun _ => rfl⟩, by decide⟩
    · rw [h.un q hw]
      exact ⟨⟨fun h => (by cases h), fun h => absurd (wr_rch.2 h) hw⟩, by decide⟩
  · rw [opOf_unw0] at h3; cases h3
theorem lastC_max {p : Pat} (hg : Good p) {q : Nat} (hq : q < p.len.length) {x : Int} (hx : x ∈ rowOf p.ck q) : x ≤ lastC p q := by
  obtain ⟨i, hi, rfl⟩ := List.getElem_of_mem hx
  unfold lastC
  rw [nth_eq (by omega)]
  rcases Nat.lt_or_ge i ((rowOf p.ck q).length - 1) with h | h
  · exact Int.le_of_lt (List.pairwise_iff_getElem.1 (hg.row q hq).asc _ _ hi (by omega) h)
  · have e : i = (rowOf p.ck q).length - 1 := by omega
    subst e
    exact Int.le_refl _
theorem lastC_mark {p : Pat} (hg : Good p) {q z : Nat} (hq : q < p.len.length) : lastC (p.mark q) z = if z = q then nth p.len q else lastC p z := by
  by_cases hm : nth p.len q ∈ rowOf p.ck q
  · rw [Pat.mark_same hm]
    split
    · rename_i e; subst e
      have h1 := lastC_max hg hq hm
      have h2 := (lastC_bd hg hq).2
      omega
    · rfl
  · rw [Pat.mark_new hm]
    have hql : q < p.ck.length := by rw [hg.ckl]; exact hq
    unfold lastC
    by_cases e : z = q
    · subst e
      rw [if_pos rfl]
      have : rowOf (p.ck.set z (rowOf p.ck z ++ [nth p.len z])) z = rowOf p.ck z ++ [nth p.len z] := by simp [rowOf, hql]
      simp only [this]
      simp [nth]
    · rw [if_neg e]
      have : rowOf (p.ck.set q (rowOf p.ck q ++ [nth p.len q])) z = rowOf p.ck z := by
        simp only [rowOf, List.getD_eq_getElem?_getD, List.getElem?_set_ne (Ne.symm e)]
      simp only [this]
theorem lastC_resP {p : Pat} (hg : Good p) (dec : List Int) : ∀ k, k ≤ p.len.length → ∀ z, lastC (resP p dec k) z = if z < k ∧ nth dec z = 1 then nth p.len z else lastC p z
  | 0, _, z => by simp [resP]
  | k + 1, hk, z => by
    have ih := lastC_resP hg dec k (by omega) z
    unfold resP
    split
    · rename_i h1
      rw [lastC_mark (resP_good hg dec k (by omega)) (by rw [resP_len]; omega), resP_len]
      by_cases e : z = k
      · subst e; rw [if_pos rfl, if_pos ⟨by omega, h1⟩]
      · rw [if_neg e, ih]
        by_cases hc : z < k ∧ nth dec z = 1
        · rw [if_pos hc, if_pos ⟨by omega, hc.2⟩]
        · rw [if_neg hc, if_neg (fun h => hc ⟨by omega, h.2⟩)]
    · rename_i h1
      rw [ih]
      by_cases hc : z < k ∧ nth dec z = 1
      · rw [if_pos hc, if_pos ⟨by omega, hc.2⟩]
      · rw [if_neg hc, if_neg (fun h => hc ⟨by
          rcases Nat.lt_or_ge z k with h2 | h2
          · exact h2
          · have : z = k := by omega
            subst this
            exact absurd h.2 h1, h.2⟩)]
theorem commit_cons {p : Pat} (hg : Good p) {r : Nat} {dec : List Int} (hd : ∀ q, nth dec q = 1 ↔ Rch (srcL p) r q) (hc : consB p.arcs (lastsL p) = true) : consB p.arcs (lastsL (resP p dec p.len.length)) = true := by
  have hx : ∀ q, q < p.len.length → nth (lastsL (resP p dec p.len.length)) q = if nth dec q = 1 then nth p.len q else lastC p q := fun q hq => by
    rw [lastsL_at (by rw [resP_len]; exact hq), lastC_resP hg dec _ (Nat.le_refl _)]
    by_cases h : nth dec q = 1
    · rw [if_pos ⟨hq, h⟩, if_pos h]
    · rw [if_neg (fun h2 => h h2.2), if_neg h]
  refine cons_iff.2 (fun a ha h0 h1 => ?_)
  have hk := hg.arc a ha
  rw [hx _ hk.to] at h1
  rw [hx _ hk.fr]
  by_cases hf : nth dec a.fr = 1
  · rw [if_pos hf]; exact hk.ix1
  · rw [if_neg hf]
    by_cases ht : nth dec a.to = 1
    · refine Classical.byContradiction (fun hn => hf ((hd a.fr).2 ?_))
      refine Rch.step ((hd a.to).1 ht) (srcL_mem.2 ⟨hk.fr, isSrc_iff.2 ⟨a, ha, rfl, ?_⟩⟩)
      have h3 : a.at_ ≠ 0 := by omega
      have h4 : lastC p a.fr < a.ix := by omega
      simp [srcB, h3, h4]
    · rw [if_neg ht] at h1
      have := cons_iff.1 hc a ha h0 (by rw [lastsL_at hk.to]; exact h1)
      rwa [lastsL_at hk.fr] at this
end Go.Proofs.Ytmjmdncdmmcmaaa
