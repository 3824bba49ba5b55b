/- The search for circles in a pattern (the function inside pattern.ordered). Conditions: the grid has 5 rows of 65 numbers. -/
import Derived.Test.YtkflmichekpfbaaPatMem
namespace Go.Proofs.Ytkflmichekpfbaa
open Go.RowKit
set_option linter.unusedVariables false

/-- a place of the grid -/
def gi (q k : Nat) : Nat := q * 65 + k
/-- the search from event k of process q: the answer and the marks; rc: one more than the message that an event received -/
def visF (rc : List Int) (az : List Arc) : Nat → Nat → Nat → List Int → Option (Bool × List Int)
  | 0, _, _, _ => none
  | f + 1, q, k, m =>
    if k = 0 ∨ nth m (gi q k) = 2 then some (true, m)
    else if nth m (gi q k) = 1 then some (false, m)
    else match visF rc az f q (k - 1) (m.set (gi q k) 1) with
      | none => none
      | some (false, m1) => some (false, m1.set (gi q k) 2)
      | some (true, m1) =>
        if 0 < nth rc (gi q k) then
          match visF rc az f (arcOf az (nth rc (gi q k) - 1).toNat).fr (arcOf az (nth rc (gi q k) - 1).toNat).ix.toNat m1 with
          | none => none
          | some (b, m2) => some (b, m2.set (gi q k) 2)
        else some (true, m1.set (gi q k) 2)

/-- what the search reads -/
structure VCtx (w : World) (gm gv gr ga gp : Nat) (A3 : Option Addr) (c3 : Nat) (rc : List Int) (az : List Arc) : Prop where
  nv : gv ≠ gm
  nr : gr ≠ gm
  np : gp ≠ gm
  cv : w.cell? ⟨gv, 0, none⟩ = some (.func (.func 91) #[] #[.pointer (some ⟨gm, 0, none⟩), .pointer (some ⟨gv, 0, none⟩), .pointer (some ⟨gr, 0, none⟩), .pointer (some ⟨gp, 0, none⟩)])
  cr : w.cell? ⟨gr, 0, none⟩ = some (.pointer (some ⟨ga, 0, none⟩))
  cp : w.cell? ⟨gp, 2, none⟩ = some (.slice A3 az.length c3)
  ca : RI (fun k => k ≠ gm) w (some ⟨ga, 0, none⟩) rc
  ar : RA (fun k => k ≠ gm) w A3 az
  lc : az.length ≤ c3
  mc : c3 ≤ 9223372036854775807
  rl : rc.length = 325
  few : az.length ≤ 256
  rb : ∀ j, j < 325 → 0 ≤ nth rc j ∧ nth rc j ≤ az.length
  ab : ∀ a ∈ az, a.fr < 5 ∧ 0 ≤ a.ix ∧ a.ix ≤ 64
theorem VCtx.keep {w w' : World} {gm gv gr ga gp : Nat} {A3 : Option Addr} {c3 : Nat} {rc : List Int} {az : List Arc} (h : VCtx w gm gv gr ga gp A3 c3 rc az) (k : Keep (fun k => k ≠ gm) w w') : VCtx w' gm gv gr ga gp A3 c3 rc az :=
  ⟨h.nv, h.nr, h.np, k.cell h.nv h.cv, k.cell h.nr h.cr, k.cell h.np h.cp, h.ca.keep k, h.ar.into (Into.ofKeep k), h.lc, h.mc, h.rl, h.few, h.rb, h.ab⟩
/-- the marks -/
def Marks (w : World) (gm : Nat) (m : List Int) : Prop := w.heap[gm]? = some (.cells (ints m).toArray 95 (0, 0)) ∧ m.length = 325
theorem Marks.cell {w : World} {gm : Nat} {m : List Int} (h : Marks w gm m) {j : Nat} (hj : j < 325) : w.cell? ⟨gm, j, none⟩ = some (.int .i64 (nth m j)) := by
  have hl := h.2
  simp [World.cell?, h.1, hl, hj, nth_eq]
theorem Marks.fz {w : World} {gm : Nat} {m : List Int} (h : Marks w gm m) (j : Nat) : w.frozen? ⟨gm, j, none⟩ = false := by simp [World.frozen?, h.1]
theorem Marks.set {w : World} {gm : Nat} {m : List Int} (h : Marks w gm m) (j : Nat) (v : Int) : Marks (w.setCell ⟨gm, j, none⟩ (.int .i64 v)) gm (m.set j v) := by
  refine ⟨?_, by simp [h.2]⟩
  simp [World.setCell, Array.getElem?_modify, h.1, List.map_set]
theorem Marks.ext {w w' : World} {gm : Nat} {m : List Int} (h : Marks w gm m) (k : Ext w w') : Marks w' gm m := ⟨(k.block gm (lt_of_block h.1)).trans h.1, h.2⟩
theorem keep_set (w : World) (g j : Nat) (u : Value) : Keep (fun k => k ≠ g) w (w.setCell ⟨g, j, none⟩ u) :=
  ⟨rfl, rfl, rfl, by simp [World.setCell], fun k hk hne => Below.heap_setCell _ _ _ _ hne⟩

abbrev visArgs (gm gv gr gp q k : Nat) : Array Value := #[.int .i64 (q : Int), .int .i64 (k : Int), .pointer (some ⟨gm, 0, none⟩), .pointer (some ⟨gv, 0, none⟩), .pointer (some ⟨gr, 0, none⟩), .pointer (some ⟨gp, 0, none⟩)]

set_option maxRecDepth 100000 in
set_option maxHeartbeats 1600000 in
theorem vis_any (gm gv gr ga gp : Nat) (A3 : Option Addr) (c3 : Nat) (rc : List Int) (az : List Arc) (f : Nat) : ∀ (q k : Nat) (m m' : List Int) (b : Bool) (w : World), q < 5 → k ≤ 64 → VCtx w gm gv gr ga gp A3 c3 rc az → Marks w gm m → visF rc az f q k m = some (b, m') →
    Calls Try.prog 91 #[.int .i64 (q : Int), .int .i64 (k : Int), .pointer (some ⟨gm, 0, none⟩), .pointer (some ⟨gv, 0, none⟩), .pointer (some ⟨gr, 0, none⟩), .pointer (some ⟨gp, 0, none⟩)] w fun e w' => e = .returned (.bool b) ∧ Marks w' gm m' ∧ Keep (fun k => k ≠ gm) w w' := by
  induction f with
  | zero => intro q k m m' b w _ _ _ _ h; cases h
  | succ f ih =>
    intro q k m m' b w hq hk hctx hm hv
    have IH := Lib.hid ih
    clear ih
    have hgi : gi q k < 325 := by unfold gi; omega
    have hc := hm.cell hgi
    unfold gi at hc
    rw [visF] at hv
    by_cases h0 : k = 0
    · subst h0
      rw [if_pos (.inl rfl)] at hv
      injection hv with hv
      injection hv with e1 e2
      subst e1; subst e2
      go_enter Try.func91, Try.ntmps91
      go_wp2_with fail
      go_ret
      exact ⟨rfl, hm, Keep.refl _ _⟩
    have hk0 : ((k : Int) == 0) = false := beq_eq_false_iff_ne.2 (by omega)
    have hq5 : (q : Int) < 5 := by omega
    have hk65 : (k : Int) < 65 := by omega
    by_cases h2 : nth m (gi q k) = 2
    · rw [if_pos (.inr h2)] at hv
      injection hv with hv
      injection hv with e1 e2
      subst e1; subst e2
      have hc2 : w.cell? ⟨gm, q * 65 + k, none⟩ = some (.int .i64 2) := by rw [hc]; exact congrArg (fun x => some (Value.int .i64 x)) h2
      clear hc h2 h0
      go_enter Try.func91, Try.ntmps91
      go_wp2_with fail
      go_ret
      exact ⟨rfl, hm, Keep.refl _ _⟩
    have hb2 : (nth m (q * 65 + k) == 2) = false := beq_eq_false_iff_ne.2 h2
    rw [if_neg (by rintro (h | h) <;> contradiction)] at hv
    by_cases h1 : nth m (gi q k) = 1
    · rw [if_pos h1] at hv
      injection hv with hv
      injection hv with e1 e2
      subst e1; subst e2
      have hc1 : w.cell? ⟨gm, q * 65 + k, none⟩ = some (.int .i64 1) := by rw [hc]; exact congrArg (fun x => some (Value.int .i64 x)) h1
      clear hc h2 h0 h1
      go_enter Try.func91, Try.ntmps91
      go_wp2_with fail
      go_ret
      exact ⟨rfl, hm, Keep.refl _ _⟩
    have hb1 : (nth m (q * 65 + k) == 1) = false := beq_eq_false_iff_ne.2 h1
    rw [if_neg h1] at hv
    have hfz := hm.fz (q * 65 + k)
    have hm1 := hm.set (q * 65 + k) 1
    have hk1 := keep_set w gm (q * 65 + k) (.int .i64 1)
    have hctx1 := hctx.keep hk1
    have hcv1 := hctx1.cv
    have hkk : ((k - 1 : Nat) : Int) = (k : Int) - 1 := by omega
    have HKK := Lib.hid hkk
    clear hkk h2 h1 h0
    go_enter Try.func91, Try.ntmps91
    go_wp2_with fail
    rw [← HKK.out]
    have hgi1 : q * 65 + k < 325 := hgi
    cases hr : visF rc az f q (k - 1) (m.set (gi q k) 1) with
    | none => rw [hr] at hv; cases hv
    | some bm =>
      obtain ⟨b1, m1⟩ := bm
      rw [hr] at hv
      refine (IH.out q (k - 1) _ m1 b1 _ hq (by omega) hctx1 hm1 hr).mono ?_
      rintro e w1 ⟨rfl, hm2, hk2⟩
      have hctx2 := hctx1.keep hk2
      have hk3 := hk1.trans hk2
      have hcr := hctx2.cr
      have hcp := hctx2.cp
      have hcv := hctx2.cv
      obtain ⟨hrb0, hrb1⟩ := hctx2.rb (q * 65 + k) hgi1
      have hfew := hctx2.few
      have hlc := hctx2.lc
      have hmc := hctx2.mc
      obtain ⟨_, _, e1, hca⟩ := hctx2.ca.atN (k := q * 65 + k) (by rw [hctx2.rl]; exact hgi1)
      injection e1 with e1
      injection e1 with e1 e2
      subst e1; subst e2
      rw [Nat.zero_add] at hca
      have hcm := hm2.cell hgi1
      have hfm := hm2.fz (q * 65 + k)
      have hm3 := hm2.set (q * 65 + k) 2
      have hk4 := hk3.trans (keep_set w1 gm (q * 65 + k) (.int .i64 2))
      clear hr hctx hctx1 hm hm1 hk1 hk2 hcv1 hc hfz hb1 hb2
      cases b1 with
      | false =>
        injection hv with hv
        injection hv with e1 e2
        subst e1; subst e2
        clear hctx2
        go_wp2_with fail
        go_ret
        exact ⟨rfl, hm3, hk4⟩
      | true =>
        dsimp only at hv
        by_cases hpos : 0 < nth rc (gi q k)
        · rw [if_pos hpos] at hv
          unfold gi at hv hpos
          obtain ⟨i, hi⟩ : ∃ i : Nat, nth rc (q * 65 + k) = (i : Int) + 1 := ⟨(nth rc (q * 65 + k) - 1).toNat, by omega⟩
          have hil : i < az.length := by omega
          rw [hi, show ((i : Int) + 1 - 1).toNat = i by omega] at hv
          rw [hi] at hca hpos
          clear hrb0 hrb1 hi
          obtain ⟨ab, ao, rfl, ha0, ha1, ha2, ha3⟩ := hctx2.ar.at_ hil
          obtain ⟨hf1, hf2, hf3⟩ := hctx2.ab _ (arcOf_mem hil)
          obtain ⟨j, hj⟩ := Int.eq_ofNat_of_zero_le hf2
          have hj64 : j ≤ 64 := by omega
          rw [hj] at ha1
          rw [hj, Int.toNat_natCast] at hv
          cases hr2 : visF rc az f (arcOf az i).fr j m1 with
          | none => rw [hr2] at hv; cases hv
          | some bm =>
            obtain ⟨b2, m2⟩ := bm
            rw [hr2] at hv
            injection hv with hv
            injection hv with e1 e2
            subst e1; subst e2
            generalize (arcOf az i).fr = r at *
            generalize (arcOf az i).to = r2 at *
            generalize (arcOf az i).at_ = r3 at *
            clear hj hf2 hf3
            have hx := (Ext.refl' w1).alloc' (.cells #[.int .i64 (r : Int), .int .i64 (j : Int), .int .i64 (r2 : Int), .int .i64 r3] 57)
            have hctx3 := hctx2.keep (.ofExt hx)
            have hmx := hm2.ext hx
            have hcv3 := hctx3.cv
            have hwf : ((i : Int) + 1 - 1) = i := by omega
            have HWF := Lib.hid hwf
            clear hctx2 hwf hfm hcm hm3 hk4
            go_wp2_with fail
            refine (IH.out r j _ m2 b2 _ hf1 hj64 hctx3 hmx hr2).mono ?_
            rintro e w2 ⟨rfl, hm4, hk5⟩
            have hk6 := (hk3.trans (.ofExt hx)).trans hk5
            have hcm := hm4.cell hgi1
            have hfm := hm4.fz (q * 65 + k)
            have hm5 := hm4.set (q * 65 + k) 2
            have hk7 := hk6.trans (keep_set w2 gm (q * 65 + k) (.int .i64 2))
            clear hctx3 hmx hm4 hk5 hk6 hx hcv3 hr2
            go_wp2_with fail
            go_ret
            exact ⟨rfl, hm5, hk7⟩
        · rw [if_neg hpos] at hv
          unfold gi at hv hpos
          injection hv with hv
          injection hv with e1 e2
          subst e1; subst e2
          clear hctx2
          go_wp2_with fail
          go_ret
          exact ⟨rfl, hm3, hk4⟩
end Go.Proofs.Ytkflmichekpfbaa
