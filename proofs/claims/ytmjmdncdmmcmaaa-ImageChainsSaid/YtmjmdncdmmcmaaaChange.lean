/- change (rollbacknetlaw07): cells of the same number, in new memory. Conditions: at most a million cells. -/
import Derived.Test.YtmjmdncdmmcmaaaImgB
import Derived.Test.YtmjmdncdmmcmaaaCodesInt
namespace Go.Proofs.Ytmjmdncdmmcmaaa
open Go.RowKit
set_option linter.unusedVariables false

set_option maxHeartbeats 1600000 in
theorem change_any {S : Nat → Prop} (g : Nat) (r : List Int) (A : Option Addr) (c : Nat) (xs : List Int) (w : World) (h : Codes w g r) (ha : RI S w A xs) (hx : xs.length ≤ 1000000) :
    Calls Try.prog 17 #[.pointer (some ⟨g, 0, none⟩), .slice A xs.length c] w fun e w' =>
      ∃ L c' r', ∃ ys : List Int, e = .returned (.slice L ys.length c') ∧ ys.length = xs.length ∧ RI (fun k => w.heap.size ≤ k) w' L ys ∧ ys.length ≤ c' ∧ c' ≤ 9223372036854775807 ∧ Codes w' g r' ∧ Keep (fun k => k ≠ g) w w' := by
  have hl := h.lt
  go_enter Try.func17, Try.ntmps17
  go_wp2_with (at_builtin; refine wpList_app ety_int rfl _ _ rfl rfl (ownsRow_nil _ w.heap.size _ _) rfl ?c1 ha ?c2 ?c4 ?c5 ?_)
  case c1 => simp
  case c2 => exact oneCell_ints xs
  case c4 => omega
  case c5 => exact Nat.le_refl _
  intro v w1 hown happ
  have hx1 : Ext w w1 := (Ext.refl' w).app (Ext.refl' w) happ (by simp [Value.ownBlock])
  have hown1 : w1.ownsRow w.heap.size 3 1 v xs.length (ints xs) := by simpa using hown
  have hc1 := h.ext hx1
  have hz1 := hx1.size
  clear hown happ h ha
  obtain ⟨L, cp, rfl, hcp, hcp'⟩ := own_form hown1
  have hn4 := nxt_lt r (n := 4) (by omega)
  go_wp2_with fail
  refine (next_any g r 4 w1 hc1 (by omega) (by omega)).mono ?_
  rintro e w2 ⟨rfl, hc2, hk2, hs2⟩
  have hown2 := own_keep hown1 hk2 (fun b hb => by omega)
  have hk0 : Keep (fun k => k ≠ g) w w2 := (Keep.ofExt hx1).trans hk2
  clear hk2 hown1 hc1 hx1 hs2
  go_wp2_with fail
  go_loopw [6] (fun i wr => ∃ m : Nat, m ≤ 4 ∧ i = .int .i64 m ∧ (∃ ys : List Int, ys.length = xs.length ∧ wr.ownsRow w.heap.size 3 1 (.slice L xs.length cp) xs.length (ints ys)) ∧ (∃ r', Codes wr g r') ∧ Keep (fun k => k ≠ g) w wr) (fun i _ => (intOf i).toNat)
  case atStart => exact ⟨_, by omega, rfl, ⟨xs, rfl, hown2⟩, ⟨_, hc2⟩, hk0⟩
  case round =>
    clear hown2 hc2 hk0
    obtain ⟨m, hm, rfl, ⟨ys, hy, hown⟩, ⟨r', hc⟩, hk⟩ := hrel
    by_cases hgo : 0 < m ∧ 0 < xs.length
    · obtain ⟨hm0, hx0⟩ := hgo
      obtain ⟨gb, cp', hv, hgb, hcp1, hcp2⟩ := own_some hown hx0
      injection hv with hL hn hcc
      subst hL; subst hcc
      have hnl := nxt_lt r' hx0
      have HY := Lib.hid hy
      clear hy hn
      go_wp2_with fail
      refine (next_any g r' xs.length wr hc (by omega) (by omega)).mono ?_
      rintro e w3 ⟨rfl, hc3, hk3, hs3⟩
      go_wp2_with fail
      refine (int_any g r'.tail w3 hc3).mono ?_
      rintro e w4 ⟨rfl, hc4, hk4⟩
      have hown4 := own_keep (own_keep hown hk3 (fun b hb => by omega)) hk4 (fun b hb => by omega)
      have hk5 := (hk.trans hk3).trans hk4
      have hfz := hown4.frozenAt (nxt r' xs.length)
      have hcell : w4.cell? ⟨gb, nxt r' xs.length, none⟩ = some (.int .i64 (ys[nxt r' xs.length]'(by rw [HY.out]; exact hnl))) := (hown4.cellAt _ (by omega)).trans (by simp [HY.out, hnl])
      obtain ⟨hst, _⟩ := hown4.stored (nxt r' xs.length) (.int .i64 (intV r'.tail))
      have hst' : (w4.setCell ⟨gb, nxt r' xs.length, none⟩ (.int .i64 (intV r'.tail))).ownsRow w.heap.size 3 1 (.slice (some ⟨gb, 0, none⟩) xs.length cp) xs.length (ints (ys.set (nxt r' xs.length) (intV r'.tail))) := by
        rw [ints, List.map_set]; exact hst
      have hc5 : Codes (w4.setCell ⟨gb, nxt r' xs.length, none⟩ (.int .i64 (intV r'.tail))) g r'.tail.tail.tail := hc4.below (keep_above _ _ (by show g < gb; omega) _)
      have hk6 := hk5.setOwn (p := ⟨gb, nxt r' xs.length, none⟩) hgb (.int .i64 (intV r'.tail))
      clear hst hown4 hk3 hk4 hk5 hc4 hc3 hc hown hk hs3
      generalize intV r'.tail = y at *
      generalize nxt r' xs.length = q at *
      go_wp2
      go_roundw
      case rel => exact ⟨m - 1, by omega, by go_num, ⟨ys.set q y, by rw [List.length_set]; exact HY.out, hst'⟩, ⟨_, hc5⟩, hk6⟩
      case measure => simp [intOf]; omega
    · have hfin := RV.ofOwn hown
      have HY := Lib.hid hy
      clear hy
      by_cases hm0 : 0 < m
      · have hx0 : xs.length ≤ 0 := by omega
        clear hgo
        go_wp2
        go_ret
        exact ⟨L, cp, r', ys, ret_slice HY.out.symm, HY.out, hfin, by rw [HY.out]; exact hcp, hcp', hc, hk⟩
      · clear hgo
        go_wp2
        go_ret
        exact ⟨L, cp, r', ys, ret_slice HY.out.symm, HY.out, hfin, by rw [HY.out]; exact hcp, hcp', hc, hk⟩
end Go.Proofs.Ytmjmdncdmmcmaaa
