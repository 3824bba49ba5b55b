/- Nothing is lost: the totals of law 23. Plain law, and what the laws of chapter 23 share. No condition. -/
import Derived.Test.YtombhhhaidmpeaaSnAwake
import Derived.Test.YtombhhhaidmpeaaSnMkC
namespace Go.Proofs.Ytombhhhaidmpeaa
open Go.RowKit
set_option linter.unusedVariables false
set_option linter.unusedSimpArgs false

/-- a state of n processes, at most b moves old, of total t -/
structure Cons (n b : Nat) (t : Int) (s : Snp) : Prop where
  ok : SnOk n b s
  inv : SnInv n s
  ps : Alike (psum s) t
  rt : Alike (recT n s) t
theorem cons_new {xs : List Int} {n : Nat} (hl : xs.length = n) (h1 : 1 ≤ n) (h5 : n ≤ 5) (hb : ∀ x ∈ xs, -9223372036854775808 ≤ x ∧ x ≤ 9223372036854775807) : Cons n 0 xs.sum (newS xs) := by
  subst hl
  have h := newS_recT h1 h5 hb
  exact ⟨newS_ok h1 h5 hb, newS_inv, by rw [h.2]; exact .refl _, by rw [h.1]; exact .refl _⟩
theorem Cons.mono {n b b' : Nat} {t : Int} {s : Snp} (h : Cons n b t s) (hb : b ≤ b') : Cons n b' t s := ⟨h.ok.mono hb, h.inv, h.ps, h.rt⟩
theorem Cons.go {n b : Nat} {t : Int} {s : Snp} {m : Mv} (h : Cons n b t s) (hr : refS s m = 0) : Cons n (b + 1) t (goS s m) :=
  have hd := goS_do h.ok hr
  ⟨goS_ok h.ok hr, inv_go h.ok h.inv hd, (psum_go h.ok hd).trans h.ps, (recT_go h.ok h.inv hd).trans h.rt⟩
theorem comp_done {n b : Nat} {s : Snp} (h : SnOk n b s) (hc : compS s = true) : Done s := by
  simp only [compS, Bool.and_eq_true, Bool.not_eq_true', List.contains_eq_mem, decide_eq_false_iff_not] at hc
  refine ⟨fun x hx => ?_, fun x hx => ?_⟩
  · obtain ⟨q, hq, rfl⟩ := List.getElem_of_mem hx
    have h1 := h.kb q (by rw [← h.lk]; exact hq)
    rw [nth_eq hq] at h1
    have h2 : s.cut[q] ≠ -1 := fun e => hc.1 (e ▸ hx)
    omega
  · cases x with
    | false => rfl
    | true => exact absurd hx hc.2
theorem Cons.pres {n b : Nat} {t : Int} {s : Snp} (h : Cons n b t s) : totP s = wrap64 t := by rw [totP, total_present]; exact h.ps.eq
theorem Cons.recd {n b : Nat} {t : Int} {s : Snp} (h : Cons n b t s) (hc : compS s = true) : totR s = wrap64 t := by
  rw [totR, total_recorded, ← recT_done h.ok h.inv (comp_done h.ok hc)]; exact h.rt.eq
/-- a move of a row of moves -/
theorem mv_fcs {T : Nat → Prop} {u : World} {A : Option Addr} {l : List Mv} (h : RV T u A (l.flatMap mvCells)) {i : Nat} (hi : i < l.length) : ∃ b o, A = some ⟨b, o, none⟩ ∧ FCs T u b (o + i * 4) [.int .i64 l[i].kind, .int .i64 l[i].fr, .int .i64 l[i].to, .int .i64 l[i].val] := by
  have h0 := mv_at hi 0 _ rfl
  obtain ⟨b, o, e, hs, hc⟩ := h _ _ h0
  refine ⟨b, o, e, hs, fun j v hj => ?_⟩
  obtain ⟨b', o', e', hs', hc'⟩ := h _ _ (mv_at hi j v hj)
  rw [e] at e'
  obtain ⟨rfl, rfl⟩ : b = b' ∧ o = o' := by simpa using e'
  rw [← Nat.add_assoc] at hc'
  exact hc'
/-- Step of a move that is refused -/
theorem step_r {S : Nat → Prop} {A1 A2 A3 A4 A5 A6 A7 : Option Addr} {c1 c2 c3 c4 c5 c6 c7 n nn b : Nat} {s : Snp} {kd fr tt val : Int} {w0 : World} (hs : SnAt S w0 ⟨A1, c1, A2, c2, A3, c3, A4, c4, A5, c5, A6, c6, A7, c7⟩ s) (hok : SnOk n b s) (hnn : n * n = nn) (hb : b ≤ 10000) (hr : ¬ refS s ⟨kd, fr, tt, val⟩ = 0) :
    Calls Try.prog 33 #[.agg #[.slice A1 n c1, .slice A2 n c2, .slice A3 nn c3, .slice A4 n c4, .slice A5 n c5, .slice A6 nn c6, .slice A7 nn c7], .agg #[.int .i64 kd, .int .i64 fr, .int .i64 tt, .int .i64 val]] w0 fun e w' => ∃ B1 d1 B2 d2 B3 d3 B4 d4 B5 d5 B6 d6 B7 d7, e = .returned (.tuple #[.agg #[.slice B1 0 d1, .slice B2 0 d2, .slice B3 0 d3, .slice B4 0 d4, .slice B5 0 d5, .slice B6 0 d6, .slice B7 0 d7], .int .i64 (refS s ⟨kd, fr, tt, val⟩)]) ∧ Ext w0 w' := by
  refine (step_any ⟨A1, c1, A2, c2, A3, c3, A4, c4, A5, c5, A6, c6, A7, c7⟩ s n nn b ⟨kd, fr, tt, val⟩ w0 hs hok hnn hb).mono ?_
  rw [stepS, if_neg hr]
  rintro e w' ⟨⟨B1, d1, B2, d2, B3, d3, B4, d4, B5, d5, B6, d6, B7, d7⟩, rfl, h2, h3⟩
  exact ⟨B1, d1, B2, d2, B3, d3, B4, d4, B5, d5, B6, d6, B7, d7, rfl, h3⟩
theorem start_n {S1 S2 : Nat → Prop} {V : Option Addr} {g : Nat} {vs : List Int} {C : Option Addr} {f : Nat} {bs : List Int} {w0 : World} (hvs : RI S1 w0 V vs) (hg : vs.length ≤ g) (hg' : g ≤ 9223372036854775807) (hin : ∀ b ∈ vs, -9223372036854775808 ≤ b ∧ b ≤ 9223372036854775807) (hbs : RV S2 w0 C (bytes bs)) (hf : bs.length ≤ f) (hf' : f ≤ 9223372036854775807) (hby : ∀ b ∈ bs, 0 ≤ b ∧ b ≤ 255) :
    Calls Try.prog 31 #[.slice V vs.length g, .slice C bs.length f] w0 (StRet w0) :=
  start_any V g vs C f bs w0 (RV.into hvs (fun b _ hl => ⟨hl, rfl⟩)) hg hg' hin (hbs.into (fun b _ hl => ⟨hl, rfl⟩)) hf hf' hby
end Go.Proofs.Ytombhhhaidmpeaa
