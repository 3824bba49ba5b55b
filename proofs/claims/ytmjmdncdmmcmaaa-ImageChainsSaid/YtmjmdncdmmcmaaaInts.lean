/- What small functions over slices of numbers return: SameInts, Mod, Count, page, slices.Equal. Conditions: lengths that fit an int. -/
import Derived.Test.YtmjmdncdmmcmaaaRows
import Derived.Test.YtmjmdncdmmcmaaaMem
namespace Go.Proofs.Ytmjmdncdmmcmaaa
open Go.RowKit
set_option linter.unusedVariables false

set_option maxHeartbeats 400000 in
theorem sameInts_any {S T : Nat → Prop} (A B : Option Addr) (c d : Nat) (xs ys : List Int) (w : World) (ha : RI S w A xs) (hb : RI T w B ys) (hx : xs.length ≤ 9223372036854775807) (hy : ys.length ≤ 9223372036854775807) :
    Calls Try.prog 20 #[.slice A xs.length c, .slice B ys.length d] w fun e w' => e = .returned (.bool (decide (xs = ys))) ∧ ∃ n, w' = w.drewN n := by
  by_cases hl : xs.length = ys.length
  · have hl1 : ((xs.length : Int) != (ys.length : Int)) = false := by simp [hl]
    have hl2 : xs.length ≤ ys.length := by omega
    have HL := Lib.hid hl
    clear hl
    go_enter Try.func20, Try.ntmps20
    go_wp2
    clear hl1
    go_loopw [5] (fun i wr => ∃ k n : Nat, k ≤ xs.length ∧ i = .int .i64 k ∧ Hid (xs.take k = ys.take k) ∧ wr = w.drewN n) (fun i _ => xs.length - (intOf i).toNat)
    case atStart => exact ⟨0, 0, Nat.zero_le _, rfl, Lib.hid rfl, rfl⟩
    case round =>
      obtain ⟨k, n, hk, rfl, HK, rfl⟩ := hrel
      by_cases hlt : k < xs.length
      · obtain ⟨b1, o1, rfl, hca⟩ := ha.at_ hlt
        obtain ⟨b2, o2, rfl, hcb⟩ := hb.at_ (show k < ys.length by omega)
        have hlt' : (k : Int) < ys.length := by omega
        by_cases he : xs[k] = ys[k]
        · have he1 : (xs[k] != ys[k]) = false := by simp [he]
          have HE := Lib.hid he
          clear he
          go_wp2
          go_quiet (fail)
          go_wp2
          go_roundw
          case rel => exact ⟨k + 1, _, by omega, by go_num, Lib.hid (take_eq_step hlt (by omega) HK.out HE.out), rfl⟩
          case measure => simp [intOf]; omega
        · have he1 : (xs[k] != ys[k]) = true := by simp [he]
          have HE := Lib.hid he
          clear he
          go_wp2
          go_quiet (fail)
          go_wp2
          go_ret
          exact ⟨ret_bool (by simp; intro h; exact HE.out (by simp [h])), _, World.drewN_drewN _ _ _⟩
      · go_wp2
        go_ret
        exact ⟨ret_bool (by simpa using eq_of_take HL.out (by omega) HK.out), n, rfl⟩
  · have hl1 : ((xs.length : Int) != (ys.length : Int)) = true := by simp; omega
    go_enter Try.func20, Try.ntmps20
    go_wp2
    go_ret
    exact ⟨ret_bool (by simp; intro h; exact hl (by rw [h])), 0, rfl⟩
end Go.Proofs.Ytmjmdncdmmcmaaa
