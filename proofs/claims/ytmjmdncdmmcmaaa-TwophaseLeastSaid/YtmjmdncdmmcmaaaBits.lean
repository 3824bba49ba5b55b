/- Shifts and bitwise operations on small numbers, as operations of a walk. No condition. -/
import Derived.Test.YtmjmdncdmmcmaaaGc
import Derived.IntWalk
namespace Go.Proofs.Ytmjmdncdmmcmaaa
open Go.RowKit
set_option linter.unusedVariables false
set_option linter.unusedSectionVars false

theorem wr64 (n : Int) (h : -9223372036854775808 ≤ n ∧ n ≤ 9223372036854775807) : IntKind.i64.wrap n = n := by rw [IntKind.wrap_i64]; omega
section
variable {P : Program}
theorem run_shlN {t : TypeId} {k : Nat} (hk : k ≤ 62) (w : World) : (binOp .shl t (.int .i64 1) (.int .i64 (k : Int))).run P w = .ok (.int .i64 ((2 ^ k : Nat) : Int)) w := by
  have hlt : 2 ^ k ≤ 2 ^ 62 := Nat.pow_le_pow_right (by omega) hk
  have h1 : ¬ (k : Int) < 0 := by omega
  have h2 : min k 64 = k := by omega
  show (Op.shift .shl .i64 1 .i64 (k : Int)).run P w = _
  unfold Op.shift
  rw [if_neg h1]
  show Sem.run P (pure (Value.int .i64 (IntKind.i64.wrap (1 * 2 ^ (min (k : Int).toNat 64))))) w = _
  rw [Int.toNat_natCast, h2, Sem.run_pure, wr64]
  · rw [Int.one_mul]; simp
  · have : ((2 : Int) ^ k) = ((2 ^ k : Nat) : Int) := by simp
    rw [Int.one_mul, this]
    have h62 : (2 : Nat) ^ 62 = 4611686018427387904 := by decide
    rw [h62] at hlt
    generalize 2 ^ k = z at *
    omega
theorem run_shrN {t : TypeId} {m k : Nat} (hk : k ≤ 62) (w : World) : (binOp .shr t (.int .i64 (m : Int)) (.int .i64 (k : Int))).run P w = .ok (.int .i64 ((m / 2 ^ k : Nat) : Int)) w := by
  have h1 : ¬ (k : Int) < 0 := by omega
  have h2 : min k 64 = k := by omega
  show (Op.shift .shr .i64 (m : Int) .i64 (k : Int)).run P w = _
  unfold Op.shift
  rw [if_neg h1]
  show Sem.run P (pure (Value.int .i64 (Int.fdiv (m : Int) (2 ^ (min (k : Int).toNat 64))))) w = _
  rw [Int.toNat_natCast, h2, Sem.run_pure]
  have : ((2 : Int) ^ k) = ((2 ^ k : Nat) : Int) := by simp
  rw [this, Int.fdiv_eq_ediv_of_nonneg _ (Int.natCast_nonneg _)]
  rfl
theorem toNat64 {a : Nat} (ha : a < 9223372036854775808) : (BitVec.ofInt 64 (a : Int)).toNat = a := by
  rw [BitVec.ofInt_natCast, BitVec.toNat_ofNat]; exact Nat.mod_eq_of_lt (by omega)
theorem run_andN {t : TypeId} {a b : Nat} (ha : a < 9223372036854775808) (hb : b < 9223372036854775808) (w : World) : (binOp .and t (.int .i64 (a : Int)) (.int .i64 (b : Int))).run P w = .ok (.int .i64 ((a &&& b : Nat) : Int)) w := by
  have hx : a &&& b < 2 ^ 63 := Nat.and_lt_two_pow _ (by omega)
  show (Op.intBits .and .i64 (a : Int) (b : Int)).run P w = _
  show Sem.run P (pure (Value.int .i64 (IntKind.i64.wrap ((BitVec.ofInt 64 (a : Int) &&& BitVec.ofInt 64 (b : Int)).toNat : Int)))) w = _
  rw [Sem.run_pure, BitVec.toNat_and, toNat64 ha, toNat64 hb, wr64 _ (by omega)]
theorem run_orN {t : TypeId} {a b : Nat} (ha : a < 9223372036854775808) (hb : b < 9223372036854775808) (w : World) : (binOp .or t (.int .i64 (a : Int)) (.int .i64 (b : Int))).run P w = .ok (.int .i64 ((a ||| b : Nat) : Int)) w := by
  have hx : a ||| b < 2 ^ 63 := Nat.or_lt_two_pow (by omega) (by omega)
  show (Op.intBits .or .i64 (a : Int) (b : Int)).run P w = _
  show Sem.run P (pure (Value.int .i64 (IntKind.i64.wrap ((BitVec.ofInt 64 (a : Int) ||| BitVec.ofInt 64 (b : Int)).toNat : Int)))) w = _
  rw [Sem.run_pure, BitVec.toNat_or, toNat64 ha, toNat64 hb, wr64 _ (by omega)]
end
section
variable {P : Program} {ops : Array Oper} {Q : Exit → Act → World → Prop} {a : Act} {w : World} {rest : List Oper} {d : Option Tmp} {tt t yt : TypeId} {pos : String} {af : Array Edge} {gd : Option (Nat × Bool)} {x y : Operand} {u v r : Value} {o : BinOp}
theorem oBin (k : wpList P ops Q (⟨d, .binOp o t x y yt, tt, pos, af, gd⟩ :: rest) a w) : wpList P ops Q (⟨d, .binOp o t x y yt, tt, pos, af, gd⟩ :: rest) a w := k
theorem sBin (hr : ∀ w, (binOp o t u v).run P w = .ok r w) (hw : Region.wanted ⟨d, .binOp o t x y yt, tt, pos, af, gd⟩ (yielded ops a.tmps) = true) (hx' : oval a x = some u) (hy' : oval a y = some v) (hg : (match o with | .eql | .neq => true | _ => false) = false) (k : wpList P ops Q rest (a.put d r) w) :
    wpList P ops Q (⟨d, .binOp o t x y yt, tt, pos, af, gd⟩ :: rest) a w := by
  refine st_run hw ?_ k
  have he : (eqGuard o t x y u v).run P w = .ok () w := by
    cases o <;> first | rfl | cases hg
  simp only [execOp, oval_eval hx', oval_eval hy', Sem.run_bind, he, hr, Result.andThen_ok, Sem.run_pure]
end
end Go.Proofs.Ytmjmdncdmmcmaaa
