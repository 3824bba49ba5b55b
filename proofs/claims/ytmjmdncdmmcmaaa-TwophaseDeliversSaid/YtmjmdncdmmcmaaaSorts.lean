/- slices.Sort, Compact, Contains at []int: what they do to a row of the call's own. Conditions: the list is a row of the call's own (Sort, Compact), lies in memory (Contains). -/
import Derived.Test.YtmjmdncdmmcmaaaSortP
import Derived.Test.YtmjmdncdmmcmaaaGc
import Derived.Test.YtmjmdncdmmcmaaaShelf
import Derived.Sort.OwnSortedInts
namespace Go.Proofs.Ytmjmdncdmmcmaaa
open Go.RowKit Go.Sort
set_option linter.unusedVariables false
set_option linter.unusedSectionVars false

theorem sortI_length (zs : List Int) : (sortI zs).length = zs.length := by simp [sortI]
theorem sortC {e : TypeId} (A : Option Addr) (c n : Nat) (zs : List Int) (w : World) (ho : w.ownsRow 0 e 1 (.slice A n c) n (ints zs)) (hn : zs.length = n) (hsz : n ≤ 1000000) :
    Calls Try.prog 43 #[.slice A n c] w fun en w' => en = .returned (.tuple #[]) ∧ w'.ownsRow 0 e 1 (.slice A n c) n (ints (sortI zs)) ∧ Keep (fun k => ¬ (Value.slice A n c).ownBlock = some k) w w' := by
  subst hn
  rcases ho.2 with ⟨hv, h0⟩ | ⟨g, cap, cur, hv, hg, hb, h1, h2, h3, h4⟩
  · injection hv with hA _ hc
    subst hA hc
    have hz : zs = [] := List.eq_nil_of_length_eq_zero h0
    subst hz
    refine (Try.slices_Sort_int_none none 0 w).mono ?_
    rintro en w' ⟨rfl, rfl⟩
    rw [show sortI [] = [] from by simp [sortI]]
    exact ⟨rfl, ho, Keep.refl _ _⟩
  · injection hv with hA _ hc
    subst hA hc
    refine (Try.slices_Sort_int g 0 c zs w (holds_of_blockI hb (by simpa [ints] using h4)) (Array.getElem?_eq_some_iff.1 hb).1 (by omega)).mono ?_
    rintro en w' ⟨rfl, n, os, rfl⟩
    have hl : (sortI zs).length = zs.length := sortI_length zs
    refine ⟨rfl, ownsRow_sortedI (ss := zs) (ts := sortI zs) hl hg hb h1 h2 h3, ?_⟩
    exact grown_keep (grownBy_sortedI _)
theorem compactC {e : TypeId} (A : Option Addr) (c n : Nat) (zs : List Int) (w : World) (ho : w.ownsRow 0 e 1 (.slice A n c) n (ints zs)) (hn : zs.length = n) (hsz : n ≤ 1000000) :
    Calls Try.prog 87 #[.slice A n c] w fun en w' => en = .returned (.slice A (Lib.compact zs).length c) ∧ w'.ownsRow 0 e 1 (.slice A (Lib.compact zs).length c) (Lib.compact zs).length (ints (Lib.compact zs)) ∧ Keep (fun k => ¬ (Value.slice A n c).ownBlock = some k) w w' := by
  subst hn
  rcases ho.2 with ⟨hv, h0⟩ | ⟨g, cap, cur, hv, hg, hb, h1, h2, h3, h4⟩
  · injection hv with hA _ hc
    subst hA hc
    have hz : zs = [] := List.eq_nil_of_length_eq_zero h0
    subst hz
    refine (Try.slices_Compact_int_empty none 0 w).mono ?_
    rintro en w' ⟨rfl, rfl⟩
    exact ⟨rfl, ho, Keep.refl _ _⟩
  · injection hv with hA _ hc
    subst hA hc
    refine (Try.slices_Compact_int g 0 c zs w (holds_of_blockI hb (by simpa [ints] using h4)) (by omega) h1).mono ?_
    rintro en w' ⟨rfl, q, rfl⟩
    have hle : (Lib.compact zs).length ≤ zs.length := by
      unfold Lib.compact Lib.compactUpTo
      simpa using List.length_filter_le (Lib.keeps zs.toArray) (List.range zs.length)
    have hl : (Lib.compact zs ++ List.replicate (zs.length - (Lib.compact zs).length) 0).length = zs.length := by simp; omega
    have e : putRow (Value.int .i64) (Sort.ahead w q) g 0 (Lib.compact zs ++ List.replicate (zs.length - (Lib.compact zs).length) 0).toArray = grow (putRow (Value.int .i64) (Sort.ahead w q) g 0 (Lib.compact zs ++ List.replicate (zs.length - (Lib.compact zs).length) 0).toArray) #[] := (grow_empty _).symm
    rw [e]
    have h5 := ownsRow_sortedI (n := q) (os := #[]) (ss := zs) (ts := Lib.compact zs ++ List.replicate (zs.length - (Lib.compact zs).length) 0) hl hg hb h1 h2 h3
    refine ⟨rfl, ⟨by simp [ints], .inr ?_⟩, grown_keep (grownBy_sortedI _)⟩
    rcases h5.2 with ⟨hv, _⟩ | ⟨g', cap', cur', hv', hg', hb', h1', h2', h3', h4'⟩
    · cases hv
    · injection hv' with e1 _ e3
      injection e1 with e1
      injection e1 with e1
      subst e1 e3
      refine ⟨g, c, cur', rfl, hg', hb', by omega, h2', h3', ?_⟩
      have h6 := congrArg (List.take (Lib.compact zs).length) h4'
      rw [List.take_take, List.map_append, List.take_append_of_le_length (by simp)] at h6
      rw [Nat.mul_one] at h6 ⊢
      rw [Nat.min_eq_left hle] at h6
      rw [h6, List.take_of_length_le (by simp)]
section
variable {w0 w w' : World} {M : Nat → Prop} {cs : List (Chunk w0 M)} {f : Chunk w0 M → List (Chunk w0 M)} {e : TypeId} {A : Option Addr} {n c m : Nat} {zs ys : List Int}
/-- a row has been written in place -/
theorem St.rowTurn (h : St w0 M cs w) [hp : PickR (.slice A n c) cs e 1 n (ints zs) f] (ho : w'.ownsRow 0 e 1 (.slice A m c) m (ints ys)) (hk : Keep (fun k => ¬ (Value.slice A n c).ownBlock = some k) w w') : St w0 M (f (row (.slice A m c) e 1 m (ints ys))) w' := by
  have h' : St w0 M (f (row (.slice A n c) e 1 n (ints zs))) w := hp.eq ▸ h
  exact h'.updG hp.gap hk ho (fun k (e : Value.ownBlock _ = some k) => .inl (by
    cases A with
    | none => cases e
    | some a => exact e))
end
theorem containsC {S : Nat → Prop} (A : Option Addr) (c n : Nat) (zs : List Int) (x : Int) (w : World) (hr : RI S w A zs) (hn : zs.length = n) (hsz : n ≤ 1000000) :
    Calls Try.prog 57 #[.slice A n c, .int .i64 x] w fun en w' => en = .returned (.bool (decide (x ∈ zs))) ∧ w' = w := by
  subst hn
  cases zs with
  | nil =>
    refine (Try.slices_Contains_int_empty A c x w).mono ?_
    rintro en w' ⟨rfl, rfl⟩
    exact ⟨by simp, rfl⟩
  | cons z zs =>
    obtain ⟨b, o, rfl, _, _⟩ := hr.atS (k := 0) (by simp)
    refine (Try.slices_Contains_int b o (z :: zs).length c (z :: zs) x w (Nat.le_refl _) (by omega) (fun j hj => ?_)).mono ?_
    · obtain ⟨b', o', e, _, h⟩ := hr.atS (k := j) hj
      injection e with e
      injection e with e1 e2
      subst e1 e2
      rw [h, List.getD_eq_getElem?_getD, List.getElem?_eq_getElem hj]; rfl
    · rintro en w' ⟨rfl, rfl⟩
      refine ⟨?_, rfl⟩
      rw [List.take_length]
      congr 2
      rw [Bool.eq_iff_iff]
      simp
end Go.Proofs.Ytmjmdncdmmcmaaa
