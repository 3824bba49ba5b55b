/- What Count, page, Mod and slices.Equal return. Conditions: lengths that fit an int. -/
import Derived.Test.YtmjmdncdmmcmaaaInts
namespace Go.Proofs.Ytmjmdncdmmcmaaa
open Go.RowKit
set_option linter.unusedVariables false
/-- the number of pages of n cells -/
def cnt (n : Nat) : Nat := (n + 3) / 4
/-- page k -/
def pg (xs : List Int) (k : Nat) : List Int := (xs.drop (4 * k)).take 4
theorem pg_length (xs : List Int) (k : Nat) : (pg xs k).length = min 4 (xs.length - 4 * k) := by simp [pg]

set_option maxHeartbeats 400000 in
theorem count_any (A : Option Addr) (n c : Nat) (w : World) (hn : n ≤ 9223372036854775807) :
    Calls Try.prog 48 #[.slice A n c] w fun e w' => e = .returned (.int .i64 (cnt n : Int)) ∧ w = w' := by
  by_cases h : n % 4 = 0
  · have hb : (((n : Int) % 4) != 0) = false := by simp; omega
    go_enter Try.func48, Try.ntmps48
    go_wp2
    go_ret
    exact ⟨ret_int (by unfold cnt; omega), rfl⟩
  · have hb : (((n : Int) % 4) != 0) = true := by simp; omega
    go_enter Try.func48, Try.ntmps48
    go_wp2
    go_ret
    exact ⟨ret_int (by unfold cnt; omega), rfl⟩

def modI (x : Int) (n : Nat) : Int := if x.tmod n < 0 then x.tmod n + n else x.tmod n
set_option maxHeartbeats 400000 in
theorem mod_any (x : Int) (n : Nat) (w : World) (hn : 1 ≤ n) (hn' : n ≤ 1000000) (hx : -9223372036854775808 ≤ x) (hx' : x ≤ 9223372036854775807) :
    Calls Try.prog 12 #[.int .i64 x, .int .i64 n] w fun e w' => e = .returned (.int .i64 (modI x n)) ∧ w = w' := by
  have hb1 : (n : Int).natAbs = n := by omega
  have hlo : -(n : Int) < x.tmod n := Int.lt_tmod_of_pos _ (by omega)
  have hhi : x.tmod n < n := Int.tmod_lt_of_pos _ (by omega)
  clear hb1
  go_enter Try.func12, Try.ntmps12
  go_wp2
  · have h : x.tmod n < 0 := by assumption
    go_ret
    exact ⟨ret_int (by unfold modI; rw [if_pos h]), rfl⟩
  · have h : 0 ≤ x.tmod n := by assumption
    go_ret
    exact ⟨ret_int (by unfold modI; rw [if_neg (by omega)]), rfl⟩
theorem modI_bd (x : Int) {n : Nat} (hn : 1 ≤ n) : 0 ≤ modI x n ∧ modI x n < n := by
  have hlo : -(n : Int) < x.tmod n := Int.lt_tmod_of_pos _ (by omega)
  have hhi : x.tmod n < n := Int.tmod_lt_of_pos _ (by omega)
  unfold modI; split <;> omega

theorem RI.pg {S : Nat → Prop} {w : World} {A : Option Addr} {xs : List Int} (h : RI S w A xs) (k : Nat) : RI S w (Option.map (fun x => x.add (k * 4)) A) (pg xs k) := by
  unfold Ytmjmdncdmmcmaaa.pg; rw [Nat.mul_comm 4 k]; exact (h.dropO (k * 4)).take 4
set_option maxHeartbeats 400000 in
theorem page_any {S : Nat → Prop} (A : Option Addr) (c k : Nat) (xs : List Int) (w : World) (ha : RI S w A xs) (hk : 4 * k < xs.length) (hc : xs.length ≤ c) (hx : xs.length ≤ 1000000) (hc' : c ≤ 9223372036854775807) :
    Calls Try.prog 49 #[.slice A xs.length c, .int .i64 k] w fun e w' => (∃ A' d, e = .returned (.slice A' (pg xs k).length d) ∧ RI S w A' (pg xs k) ∧ (pg xs k).length ≤ d ∧ d ≤ c) ∧ w = w' := by
  have hl := pg_length xs k
  have HL := Lib.hid hl
  clear hl
  go_enter Try.func49, Try.ntmps49
  go_wp2
  all_goals
    have hl := HL.out
    go_ret
    exact ⟨⟨_, _, ret_slice (by omega), ha.pg k, by omega, by omega⟩, rfl⟩

set_option maxHeartbeats 400000 in
theorem equal_any {S T : Nat → Prop} (A B : Option Addr) (c d : Nat) (xs ys : List Int) (w : World) (ha : RI S w A xs) (hb : RI T w B ys) (hx : xs.length ≤ 9223372036854775807) (hy : ys.length ≤ 9223372036854775807) :
    Calls Try.prog 50 #[.slice A xs.length c, .slice B ys.length d] w fun e w' => e = .returned (.bool (decide (xs = ys))) ∧ ∃ n, w' = w.drewN n := by
  by_cases hl : xs.length = ys.length
  · have hl1 : ((xs.length : Int) != (ys.length : Int)) = false := by simp [hl]
    have hl2 : xs.length ≤ ys.length := by omega
    have HL := Lib.hid hl
    clear hl
    go_enter Try.func50, Try.ntmps50
    go_wp2
    clear hl1
    go_loopw [13] (fun i wr => ∃ k n : Nat, k ≤ xs.length ∧ i = .int .i64 k ∧ Hid (xs.take k = ys.take k) ∧ wr = w.drewN n) (fun i _ => xs.length - (intOf i).toNat)
    case atStart => exact ⟨0, 0, Nat.zero_le _, rfl, Lib.hid rfl, rfl⟩
    case round =>
      obtain ⟨k, n, hk, rfl, HK, rfl⟩ := hrel
      by_cases hlt : k < xs.length
      · obtain ⟨b1, o1, rfl, hca⟩ := ha.at_ hlt
        obtain ⟨b2, o2, rfl, hcb⟩ := hb.at_ (show k < ys.length by omega)
        have hlt' : (k : Int) < ys.length := by omega
        by_cases he : xs[k] = ys[k]
        · have he1 : (xs[k] != ys[k]) = false := by simp [he]
          have HE := Lib.hid he
          clear he
          go_wp2
          go_quiet (fail)
          go_wp2
          go_roundw
          case rel => exact ⟨k + 1, _, by omega, by go_num, Lib.hid (take_eq_step hlt (by omega) HK.out HE.out), rfl⟩
          case measure => simp [intOf]; omega
        · have he1 : (xs[k] != ys[k]) = true := by simp [he]
          have HE := Lib.hid he
          clear he
          go_wp2
          go_quiet (fail)
          go_wp2
          go_ret
          exact ⟨ret_bool (by simp; intro h; exact HE.out (by simp [h])), _, World.drewN_drewN _ _ _⟩
      · go_wp2
        go_ret
        exact ⟨ret_bool (by simpa using eq_of_take HL.out (by omega) HK.out), n, rfl⟩
  · have hl1 : ((xs.length : Int) != (ys.length : Int)) = true := by simp; omega
    go_enter Try.func50, Try.ntmps50
    go_wp2
    go_ret
    exact ⟨ret_bool (by simp; intro h; exact hl (by rw [h])), 0, rfl⟩
end Go.Proofs.Ytmjmdncdmmcmaaa
