/- What the reference's Diff and Same, and both Costs, return. Conditions: lengths up to a million. -/
import Derived.Test.YtmjmdncdmmcmaaaImgB
namespace Go.Proofs.Ytmjmdncdmmcmaaa
open Go.RowKit
set_option linter.unusedVariables false

set_option maxHeartbeats 1600000 in
theorem same_any {S T : Nat → Prop} (A B : Option Addr) (c d : Nat) (ps qs : List Pg) (w : World) (ha : RP S w A ps) (hb : RP T w B qs) (hx : ps.length ≤ 1000000) (hy : qs.length ≤ 1000000) :
    Calls Try.prog 13 #[.slice A ps.length c, .slice B qs.length d] w fun e w' => e = .returned (.bool (decide (ps = qs))) ∧ ∃ n, w' = w.drewN n := by
  by_cases hl : ps.length = qs.length
  · have hl1 : ((ps.length : Int) != (qs.length : Int)) = false := by simp [hl]
    have hl2 : ps.length ≤ qs.length := by omega
    have HL := Lib.hid hl
    clear hl
    go_enter Try.func13, Try.ntmps13
    go_wp2
    clear hl1
    go_loopw [5] (fun i wr => ∃ k n : Nat, k ≤ ps.length ∧ i = .int .i64 k ∧ Hid (ps.take k = qs.take k) ∧ wr = w.drewN n) (fun i _ => ps.length - (intOf i).toNat)
    case atStart => exact ⟨0, 0, Nat.zero_le _, rfl, Lib.hid rfl, rfl⟩
    case round =>
      obtain ⟨k, n, hk, rfl, HK, rfl⟩ := hrel
      by_cases hlt : k < ps.length
      · have hlt2 : k < qs.length := by omega
        obtain ⟨b1, o1, A1, c1, rfl, hn1, hs1, hle1, hmx1, hr1⟩ := ha.at_ hlt
        obtain ⟨b2, o2, A2, c2, rfl, hn2, hs2, hle2, hmx2, hr2⟩ := hb.at_ hlt2
        have hlt' : (k : Int) < qs.length := by omega
        by_cases he : ps[k].1 = qs[k].1
        · have he1 : (ps[k].1 != qs[k].1) = false := by simp [he]
          have HE := Lib.hid he
          clear he
          by_cases hf : ps[k].2 = qs[k].2
          · have hpq : ps[k] = qs[k] := Prod.ext HE.out hf
            have HP := Lib.hid hpq
            have hd : decide (ps[k].2 = qs[k].2) = true := by simp [hf]
            have hc := fun m => sameInts_any A1 A2 c1 c2 ps[k].2 qs[k].2 (w.drewN m) hr1 hr2 (by omega) (by omega)
            rw [hd] at hc
            have HC := Lib.hid hc
            clear hc hd hpq hf
            generalize hpk : ps[k].1 = p1 at *
            generalize hqk : qs[k].1 = q1 at *
            generalize hpl : ps[k].2 = p2 at *
            generalize hql : qs[k].2 = q2 at *
            clear hpk hqk hpl hql
            go_wp2
            go_quiet ((go_at_call 20; exact quietAdd (HC.out _)))
            go_wp2
            go_roundw
            case rel => exact ⟨k + 1, _, by omega, by go_num, Lib.hid (take_eq_step hlt hlt2 HK.out HP.out), rfl⟩
            case measure => simp [intOf]; omega
          · have hd : decide (ps[k].2 = qs[k].2) = false := by simp [hf]
            have hc := fun m => sameInts_any A1 A2 c1 c2 ps[k].2 qs[k].2 (w.drewN m) hr1 hr2 (by omega) (by omega)
            rw [hd] at hc
            have HC := Lib.hid hc
            have hfin : decide (ps = qs) = false := by simp; intro h; exact hf (by simp [h])
            have HF := Lib.hid hfin
            clear hc hd hf hfin
            generalize hpk : ps[k].1 = p1 at *
            generalize hqk : qs[k].1 = q1 at *
            generalize hpl : ps[k].2 = p2 at *
            generalize hql : qs[k].2 = q2 at *
            clear hpk hqk hpl hql
            go_wp2
            go_quiet ((go_at_call 20; exact quietAdd (HC.out _)))
            go_wp2
            go_ret
            exact ⟨ret_bool HF.out.symm, _, World.drewN_drewN _ _ _⟩
        · have he1 : (ps[k].1 != qs[k].1) = true := by simp [he]
          have hfin : decide (ps = qs) = false := by simp; intro h; exact he (by simp [h])
          have HF := Lib.hid hfin
          clear he hfin
          generalize hpk : ps[k].1 = p1 at *
          generalize hqk : qs[k].1 = q1 at *
          clear hpk hqk
          go_wp2
          go_quiet (fail)
          go_wp2
          go_ret
          exact ⟨ret_bool HF.out.symm, _, World.drewN_drewN _ _ _⟩
      · go_wp2
        go_ret
        exact ⟨ret_bool (by simpa using eq_of_take HL.out (by omega) HK.out), n, rfl⟩
  · have hl1 : ((ps.length : Int) != (qs.length : Int)) = true := by simp; omega
    go_enter Try.func13, Try.ntmps13
    go_wp2
    go_ret
    exact ⟨ret_bool (by simp; intro h; exact hl (by rw [h])), 0, rfl⟩

/-- the cells of the first k pages -/
def costL (ps : List Pg) : Nat := (ps.map (fun p => p.2.length)).sum
theorem costL_take (ps : List Pg) {k : Nat} (hk : k < ps.length) : costL (ps.take (k + 1)) = costL (ps.take k) + ps[k].2.length := by
  rw [List.take_succ_eq_append_getElem hk]; simp only [costL, List.map_append, List.sum_append, List.map_cons, List.map_nil, List.sum_cons, List.sum_nil, Nat.add_zero]
theorem costL_take_le (ps : List Pg) (k : Nat) : costL (ps.take k) ≤ costL ps := by
  have : costL ps = costL (ps.take k) + costL (ps.drop k) := by
    rw [costL, costL, costL, ← List.sum_append, ← List.map_append, List.take_append_drop]
  omega
end Go.Proofs.Ytmjmdncdmmcmaaa
