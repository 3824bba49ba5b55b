/- The reference's machine: what its functions return, in short. Conditions: the machine lies in memory. -/
import Derived.Test.YtkaofbjppibdkaaSnStepR
import Derived.Test.YtkaofbjppibdkaaSnCons
import Derived.Test.YtkaofbjppibdkaaSnHead
import Derived.Test.YtkaofbjppibdkaaSnEndP
namespace Go.Proofs.Ytkaofbjppibdkaa
open Go.RowKit
set_option linter.unusedVariables false
set_option linter.unusedSimpArgs false
set_option linter.unusedSectionVars false

theorem rsnew_n {S : Nat → Prop} {A : Option Addr} {c n : Nat} {vs : List Int} {w0 : World} (hn : vs.length = n) (hv : RI S w0 A vs) (h1 : 1 ≤ n) (h5 : n ≤ 5) :
    Calls Try.prog 12 #[.slice A n c] w0 fun e w' => ∃ v : SV, e = .returned (.tuple #[.agg #[.slice v.A1 n v.c1, .slice v.A2 n v.c2, .slice v.A3 (n * n) v.c3, .slice v.A4 n v.c4, .slice v.A5 n v.c5, .slice v.A6 (n * n) v.c6, .slice v.A7 (n * n) v.c7], .int .i64 0]) ∧ SnAt (fun k => w0.heap.size ≤ k ∧ k < w'.heap.size) w' v (newS vs) ∧ Ext w0 w' := by
  subst hn
  refine (rsnew_any A c vs w0 hv (by omega)).mono ?_
  rw [newR, if_pos ⟨h1, h5⟩]
  rintro e w' ⟨v, rfl, h2, h3⟩
  refine ⟨v, ?_, h2.new, h3⟩
  simp only [newS, List.length_replicate]
  rfl
theorem rstep_n {S : Nat → Prop} {A1 A2 A3 A4 A5 A6 A7 : Option Addr} {c1 c2 c3 c4 c5 c6 c7 n nn b : Nat} {s : Snp} {kd fr tt val : Int} {w0 : World} (hs : SnAt S w0 ⟨A1, c1, A2, c2, A3, c3, A4, c4, A5, c5, A6, c6, A7, c7⟩ s) (hok : SnOk n b s) (hnn : n * n = nn) (hb : b ≤ 10000) (hr : refS s ⟨kd, fr, tt, val⟩ = 0) :
    Calls Try.prog 16 #[.agg #[.slice A1 n c1, .slice A2 n c2, .slice A3 nn c3, .slice A4 n c4, .slice A5 n c5, .slice A6 nn c6, .slice A7 nn c7], .agg #[.int .i64 kd, .int .i64 fr, .int .i64 tt, .int .i64 val]] w0 fun e w' => ∃ B1 d1 B2 d2 B3 d3 B4 d4 B5 d5 B6 d6 B7 d7, e = .returned (.tuple #[.agg #[.slice B1 n d1, .slice B2 n d2, .slice B3 nn d3, .slice B4 n d4, .slice B5 n d5, .slice B6 nn d6, .slice B7 nn d7], .int .i64 0]) ∧ SnAt (Orn S w0) w' ⟨B1, d1, B2, d2, B3, d3, B4, d4, B5, d5, B6, d6, B7, d7⟩ (goS s ⟨kd, fr, tt, val⟩) ∧ Ext w0 w' := by
  refine (rstep_any ⟨A1, c1, A2, c2, A3, c3, A4, c4, A5, c5, A6, c6, A7, c7⟩ s n nn b ⟨kd, fr, tt, val⟩ w0 hs hok hnn hb).mono ?_
  rw [stepS, if_pos hr]
  rintro e w' ⟨v, rfl, h2, h3⟩
  have hg := goS_ok hok hr
  obtain ⟨B1, d1, B2, d2, B3, d3, B4, d4, B5, d5, B6, d6, B7, d7⟩ := v
  exact ⟨B1, d1, B2, d2, B3, d3, B4, d4, B5, d5, B6, d6, B7, d7, by simp only [SV.val, SV.cells, hg.lv, hg.lh, hnn], h2, h3⟩
theorem rstep_r {S : Nat → Prop} {A1 A2 A3 A4 A5 A6 A7 : Option Addr} {c1 c2 c3 c4 c5 c6 c7 n nn b : Nat} {s : Snp} {kd fr tt val : Int} {w0 : World} (hs : SnAt S w0 ⟨A1, c1, A2, c2, A3, c3, A4, c4, A5, c5, A6, c6, A7, c7⟩ s) (hok : SnOk n b s) (hnn : n * n = nn) (hb : b ≤ 10000) (hr : ¬ refS s ⟨kd, fr, tt, val⟩ = 0) :
    Calls Try.prog 16 #[.agg #[.slice A1 n c1, .slice A2 n c2, .slice A3 nn c3, .slice A4 n c4, .slice A5 n c5, .slice A6 nn c6, .slice A7 nn c7], .agg #[.int .i64 kd, .int .i64 fr, .int .i64 tt, .int .i64 val]] w0 fun e w' => ∃ B1 d1 B2 d2 B3 d3 B4 d4 B5 d5 B6 d6 B7 d7, e = .returned (.tuple #[.agg #[.slice B1 0 d1, .slice B2 0 d2, .slice B3 0 d3, .slice B4 0 d4, .slice B5 0 d5, .slice B6 0 d6, .slice B7 0 d7], .int .i64 (refS s ⟨kd, fr, tt, val⟩)]) ∧ Ext w0 w' := by
  refine (rstep_any ⟨A1, c1, A2, c2, A3, c3, A4, c4, A5, c5, A6, c6, A7, c7⟩ s n nn b ⟨kd, fr, tt, val⟩ w0 hs hok hnn hb).mono ?_
  rw [stepS, if_neg hr]
  rintro e w' ⟨⟨B1, d1, B2, d2, B3, d3, B4, d4, B5, d5, B6, d6, B7, d7⟩, rfl, h2, h3⟩
  exact ⟨B1, d1, B2, d2, B3, d3, B4, d4, B5, d5, B6, d6, B7, d7, rfl, h3⟩
theorem SnAt.any (S : Nat → Prop) (w : World) (v : SV) : SnAt S w v .none where
  vals := fun j u h => by simp [Snp.none, ints] at h
  cnts := fun j u h => by simp [Snp.none, ints] at h
  chs := ⟨[], fun j u h => by simp at h, Rw2.nil _⟩
  cut := fun j u h => by simp [Snp.none, ints] at h
  saved := fun j u h => by simp [Snp.none, ints] at h
  opn := fun j u h => by simp [Snp.none, bools] at h
  recs := ⟨[], fun j u h => by simp at h, Rw2.nil _⟩
theorem same_n {S T : Nat → Prop} {A1 A2 A3 A4 A5 A6 A7 B1 B2 B3 B4 B5 B6 B7 : Option Addr} {c1 c2 c3 c4 c5 c6 c7 d1 d2 d3 d4 d5 d6 d7 n m : Nat} {s : Snp} {w0 : World} (ha : SnAt S w0 ⟨A1, c1, A2, c2, A3, c3, A4, c4, A5, c5, A6, c6, A7, c7⟩ s) (hb : SnAt T w0 ⟨B1, d1, B2, d2, B3, d3, B4, d4, B5, d5, B6, d6, B7, d7⟩ s) (hl : SnLen n m s) (hn : n ≤ 5) (hm : m ≤ 25) :
    Calls Try.prog 13 #[.agg #[.slice A1 n c1, .slice A2 n c2, .slice A3 m c3, .slice A4 n c4, .slice A5 n c5, .slice A6 m c6, .slice A7 m c7], .agg #[.slice B1 n d1, .slice B2 n d2, .slice B3 m d3, .slice B4 n d4, .slice B5 n d5, .slice B6 m d6, .slice B7 m d7]] w0 fun e w' => e = .returned (.bool true) ∧ Ext w0 w' :=
  same_sn ⟨A1, c1, A2, c2, A3, c3, A4, c4, A5, c5, A6, c6, A7, c7⟩ ⟨B1, d1, B2, d2, B3, d3, B4, d4, B5, d5, B6, d6, B7, d7⟩ s n m w0 ha hb hl (by omega) (by omega)
theorem same_0 {A1 A2 A3 A4 A5 A6 A7 B1 B2 B3 B4 B5 B6 B7 : Option Addr} {c1 c2 c3 c4 c5 c6 c7 d1 d2 d3 d4 d5 d6 d7 : Nat} {w0 : World} :
    Calls Try.prog 13 #[.agg #[.slice A1 0 c1, .slice A2 0 c2, .slice A3 0 c3, .slice A4 0 c4, .slice A5 0 c5, .slice A6 0 c6, .slice A7 0 c7], .agg #[.slice B1 0 d1, .slice B2 0 d2, .slice B3 0 d3, .slice B4 0 d4, .slice B5 0 d5, .slice B6 0 d6, .slice B7 0 d7]] w0 fun e w' => e = .returned (.bool true) ∧ Ext w0 w' :=
  same_n (S := fun _ => True) (T := fun _ => True) (SnAt.any _ _ _) (SnAt.any _ _ _) SnLen.none (by omega) (by omega)
/-- the moves of a list, by place -/
def fL (l : List Mv) (i : Nat) : Mv := l.getD i ⟨0, 0, 0, 0⟩
theorem fL_at {l : List Mv} {i : Nat} (h : i < l.length) : fL l i = l[i] := by simp [fL, h]
end Go.Proofs.Ytkaofbjppibdkaa
