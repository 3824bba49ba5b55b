/- slices.Grow of nil, slices.Concat of two lists of notes. Conditions: the lists lie in memory. -/
import Derived.Test.YtmjmdncdmmcmaaaTwR
import Derived.Test.YtmjmdncdmmcmaaaSlFT
import Derived.Lib.AppendZeros
namespace Go.Proofs.Ytmjmdncdmmcmaaa
open Go.RowKit Tph
set_option linter.unusedVariables false
set_option linter.unusedSimpArgs false
set_option linter.unusedSectionVars false

section
variable {P : Program} {ops : Array Oper} {Q : Exit → Act → World → Prop} {a : Act} {w w0 : World} {M : Nat → Prop} {cs : List (Chunk w0 M)} {rest : List Oper} {d : Option Tmp} {tt t tn e : TypeId} {pos : String} {af : Array Edge} {x y : Operand}
/-- append(nil, make(T, n)...): a new row; no element of it is looked at -/
theorem sAppZ {sz bytes n : Nat} [hT : ElemC P t e sz bytes] (hS : St w0 M cs w) (htn : P.underlying tn = some (.int .i64)) (hx' : oval a x = some (.slice none 0 0)) (hy' : oval a y = some (.int .i64 (n : Int))) (h0 : 0 < n) (hb : n * bytes ≤ 140737488355328) (hn : n ≤ 1000000000)
    (k : ∀ g c' w', n ≤ c' → c' ≤ 9223372036854775807 → St w0 M (row (.slice (some ⟨g, 0, none⟩) 0 c') e sz 0 [] :: cs) w' → wpList P ops Q rest (a.put d (.slice (some ⟨g, 0, none⟩) n c')) w') :
    wpList P ops Q (⟨d, .call { callee := .builtin .append, args := #[x, y], argTypes := #[t, tn] }, tt, pos, af, none⟩ :: rest) a w := by
  obtain ⟨i, z, hi, hz, hsz, hby, hzs⟩ := hT.h.hi
  have hpos := hT.h.hsz
  have hr := Lib.run_append_nil_zeros (P := P) w t tn tt e i z .i64 .i64 hT.h.ht htn hi hz n h0 (by rw [hsz]; exact hpos) (by omega) (by rw [hby]; omega)
  have hG1 := grownCap_ge w n 0 e
  have hG2 := grownCap_le_maxLen w n 0 e (by unfold maxLen; omega)
  generalize grownCap w n 0 e = G at *
  unfold maxLen at hG2
  refine Lib.wpList_append_run w rfl x y t tn rfl _ _ (oval_eval hx') (oval_eval hy') _ _ hr (k w.heap.size G _ hG1 (by omega) ?_)
  have hh : (w.drew.alloc (.cells (Builtin.zeroCells z.cells n ++ Builtin.zeroCells z.cells (G - n)) e)).heap = w.heap.push (.cells (Builtin.zeroCells z.cells n ++ Builtin.zeroCells z.cells (G - n)) e) := rfl
  have hx : Ext w (w.drew.alloc (.cells (Builtin.zeroCells z.cells n ++ Builtin.zeroCells z.cells (G - n)) e)) := ⟨rfl, rfl, rfl, by rw [hh, Array.size_push]; omega, fun j hj => by rw [hh, Array.getElem?_push, if_neg (by omega)]⟩
  refine hS.addRow (n := 0) (vs := []) ⟨by simp, .inr ⟨w.heap.size, G, Builtin.zeroCells z.cells n ++ Builtin.zeroCells z.cells (G - n), rfl, Nat.le_refl _, by rw [hh, Array.getElem?_push, if_pos rfl], Nat.zero_le _, by unfold maxLen; omega, ?_, by simp⟩⟩ hx
  rw [Array.size_append, size_zeroCells, size_zeroCells, hzs, ← Nat.add_mul]
  congr 1
  omega
end
set_option maxRecDepth 100000 in
set_option maxHeartbeats 3200000 in
theorem grow0_any (n : Nat) (w0 : World) (hn : n ≤ 5000) :
    Calls Try.prog 98 #[.slice none 0 0, .int .i64 (n : Int)] w0 (RetRow w0 97 3 0 []) := by
  have hS := St.start w0 NoM
  have d0 : decide ((n : Int) < 0) = false := decide_eq_false (by omega)
  rcases Nat.eq_zero_or_pos n with rfl | h0
  · go_enter Try.func98, Try.ntmps98
    go_wp2_with (fail)
    go_ret
    exact ⟨none, 0, rfl, ownsRow_nil _ _ _ _, hS.toExt⟩
  · have d1 : decide ((0 : Int) < (n : Int)) = true := decide_eq_true (by omega)
    go_enter Try.func98, Try.ntmps98
    go_wp2_with (((refine sAppZ hS rfl rfl rfl h0 (by omega) (by omega) ?_; clear hS; intro g1 c1 w hc1 hc1' hS)))
    go_ret
    exact hS.ret rfl
/-- how many elements the first j of two lists have -/
def smN (a b : Nat) (j : Nat) : Nat := if j = 0 then 0 else if j = 1 then a else a + b
/-- the first j of two lists, one behind the other -/
def catN (va vb : List Value) (j : Nat) : List Value := if j = 0 then [] else if j = 1 then va else va ++ vb
set_option maxRecDepth 100000 in
set_option maxHeartbeats 3200000 in
theorem concat_any {S : Nat → Prop} (X : Option Addr) (cX : Nat) (A B : Option Addr) (a ca b cb : Nat) (va vb : List Value) (w0 : World) (hX : RV S w0 X [.slice A a ca, .slice B b cb]) (hA : RV S w0 A va) (hB : RV S w0 B vb) (hal : va.length = a * 3) (hbl : vb.length = b * 3) (h1a : ∀ u ∈ va, u.oneCell' = true) (h1b : ∀ u ∈ vb, u.oneCell' = true) (hl : a + b ≤ 5000) :
    Calls Try.prog 68 #[.slice X 2 cX] w0 (RetRow w0 97 3 (a + b) (va ++ vb)) := by
  have hS := St.start w0 NoM
  have HJ : ∀ j, j < 2 → ∃ Aj aj cj vj bx ox, X = some ⟨bx, ox, none⟩ ∧ w0.cell? ⟨bx, ox + j, none⟩ = some (.slice Aj aj cj) ∧ RV S w0 Aj vj ∧ vj.length = aj * 3 ∧ (∀ u ∈ vj, u.oneCell' = true) ∧ smN a b (j + 1) = smN a b j + aj ∧ catN va vb (j + 1) = catN va vb j ++ vj ∧ smN a b j + aj ≤ 5000 := by
    intro j hj
    rcases (show j = 0 ∨ j = 1 by omega) with rfl | rfl
    · obtain ⟨bx, ox, rfl, _, hc⟩ := hX 0 _ rfl
      exact ⟨A, a, ca, va, bx, ox, rfl, hc, hA, hal, h1a, by simp [smN], by simp [catN], by simp [smN]; omega⟩
    · obtain ⟨bx, ox, rfl, _, hc⟩ := hX 1 _ rfl
      exact ⟨B, b, cb, vb, bx, ox, rfl, hc, hB, hbl, h1b, by simp [smN], by simp [catN], by simp [smN]; omega⟩
  have HJJ := Lib.hid HJ
  have HSB := Lib.hid (show ∀ j, smN a b j ≤ 5000 by intro j; unfold smN; split; omega; split <;> omega)
  have HS2 := Lib.hid (show smN a b 2 = a + b ∧ catN va vb 2 = va ++ vb ∧ smN a b 0 = 0 ∧ catN va vb 0 = [] by simp [smN, catN])
  clear HJ hX hA hB hal hbl h1a h1b
  go_enter Try.func68, Try.ntmps68
  go_wp2_with (fail)
  go_loopw [3, 5, 11] (fun s3 s5 s11 wr => ∃ j : Nat, j ≤ 2 ∧ s11 = .int .i64 j ∧ s3 = .int .i64 (smN a b j : Nat) ∧ St w0 NoM [] wr) (fun _ _ s11 _ => 2 - (intOf s11).toNat)
  case atStart => exact ⟨0, by omega, rfl, by rw [HS2.out.2.2.1]; rfl, hS⟩
  case round =>
    clear hS
    obtain ⟨j, hj, rfl, rfl, hS⟩ := hrel
    have hsb := HSB.out j
    by_cases hlt : j < 2
    · have hlt' : (j : Int) < 2 := by omega
      obtain ⟨Aj, aj, cj, vj, bx, ox, rfl, hc, hv, hvl, h1, hs, hcat, hb⟩ := HJJ.out j hlt
      have HSS := Lib.hid hs
      have d0 : decide (((smN a b j + aj : Nat) : Int) < 0) = false := decide_eq_false (by omega)
      generalize smN a b j = sj at *
      clear hs hcat hv hvl h1
      go_wp2_with (((refine oL ?_; ((refine sL4 hS rfl rfl ?_)))))
      go_roundw
      case measure => simp [intOf]; try omega
      exact ⟨j + 1, by omega, by go_num, by rw [HSS.out]; go_num, hS⟩
    · have hlt' : ¬ (j : Int) < 2 := by omega
      obtain rfl : j = 2 := by omega
      clear hsb
      go_wp2_with (((go_at_call 98; refine (grow0_any (smN a b 2) _ (HSB.out 2)).mono ?_; rintro e w ⟨L, cl, rfl, ho, hx⟩; replace hS := hS.addRow ho hx; clear ho hx)))
      go_loopw [6, 8, 27] (fun s6 s8 s27 wr => ∃ (j : Nat) (L : Option Addr) (cl : Nat), j ≤ 2 ∧ s27 = .int .i64 j ∧ s6 = .slice L (smN a b j) cl ∧ St w0 NoM [row (.slice L (smN a b j) cl) 97 3 (smN a b j) (catN va vb j)] wr) (fun _ _ s27 _ => 2 - (intOf s27).toNat)
      case atStart => exact ⟨0, L, cl, by omega, rfl, by rw [HS2.out.2.2.1], by rw [HS2.out.2.2.1, HS2.out.2.2.2]; exact hS⟩
      case round =>
        clear hS
        obtain ⟨j, L, cl, hj, rfl, rfl, hS⟩ := hrel
        by_cases hlt : j < 2
        · have hlt' : (j : Int) < 2 := by omega
          obtain ⟨Aj, aj, cj, vj, bx, ox, rfl, hc, hv, hvl, h1, hs, hcat, hb⟩ := HJJ.out j hlt
          have HSS := Lib.hid (And.intro hs hcat)
          generalize smN a b j = sj at *
          generalize catN va vb j = vs at *
          have HV := Lib.hid (And.intro hv (And.intro hvl h1))
          clear hs hcat hv hvl h1
          go_wp2_with (first | (refine st_appG hS rfl rfl rfl (HV.out.1.ext hS.toExt) HV.out.2.1 HV.out.2.2 (by omega) ?_; clear hS; intro L2 c2 w hc2 hc2' hS) | (refine oL ?_; ((refine sL4 hS rfl rfl ?_))))
          go_roundw
          case measure => simp [intOf]; try omega
          exact ⟨j + 1, L2, c2, by omega, by go_num, by rw [HSS.out.1], by rw [HSS.out.1, HSS.out.2]; exact hS⟩
        · have hlt' : ¬ (j : Int) < 2 := by omega
          obtain rfl : j = 2 := by omega
          rw [HS2.out.1, HS2.out.2.1] at hS
          rw [HS2.out.1]
          go_wp2_with (fail)
          go_ret
          exact hS.ret rfl
end Go.Proofs.Ytmjmdncdmmcmaaa
