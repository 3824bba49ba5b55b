/- Calls over patterns that lie in data, for the laws of chapter 16; Mod. No condition. -/
import Derived.Test.YtjclgbkfnliiaaaLawPat
import Derived.Test.YtjclgbkfnliiaaaAwake16
import Derived.Test.YtjclgbkfnliiaaaRappend
import Derived.Test.YtjclgbkfnliiaaaMark
namespace Go.Proofs.Ytjclgbkfnliiaaa
open Go.RowKit
set_option linter.unusedVariables false
set_option linter.unusedSimpArgs false

/-- a pattern whose parts are short -/
structure Fits (p : Pat) : Prop where
  l : p.len.length ≤ 1000
  c : p.ck.length ≤ 1000
  r : ∀ l ∈ p.ck, l.length ≤ 1000
  a : p.arcs.length ≤ 1000
theorem Good.fits {p : Pat} (h : Good p) : Fits p := by
  refine ⟨by have := h.n5; omega, by have := h.n5; have := h.ckl; omega, fun l hl => ?_, by have := h.few; omega⟩
  obtain ⟨i, hi, rfl⟩ := List.getElem_of_mem hl
  have := h.rowLen (q := i) (by have := h.ckl; omega)
  rw [rowOf_eq hi] at this
  omega
theorem noPat_fits : Fits noPat := ⟨by simp [noPat], by simp [noPat], by simp [noPat], by simp [noPat]⟩
theorem appRes_fits {p : Pat} (h : Good p) (q fr se : Int) : Fits (appRes p q fr se).1 := by
  unfold appRes
  split
  · have hf := h.fits
    have := h.few
    unfold appPat
    split
    · exact ⟨by simpa [Pat.more] using hf.l, hf.c, hf.r, hf.a⟩
    · exact ⟨by simpa [Pat.more, Pat.send] using hf.l, hf.c, hf.r, by simp [Pat.more, Pat.send]; omega⟩
  · exact noPat_fits
theorem markI_good {p : Pat} (h : Good p) (q : Int) : Good (markI p q) := by
  unfold markI
  split
  · rename_i hq; exact h.mark (by omega)
  · exact h
section
variable {S T : Nat → Prop} {A1 A2 A3 B1 B2 B3 : Option Addr} {c1 c2 c3 d1 d2 d3 n1 n2 n3 m1 m2 m3 : Nat} {p : Pat} {q fr se : Int} {w : World}
theorem same_n (e1 : p.len.length = n1) (e2 : p.ck.length = n2) (e3 : p.arcs.length = n3) (f1 : p.len.length = m1) (f2 : p.ck.length = m2) (f3 : p.arcs.length = m3) (hp : PatAt S w ⟨A1, c1, A2, c2, A3, c3⟩ p) (hq : PatAt T w ⟨B1, d1, B2, d2, B3, d3⟩ p) (hf : Fits p) :
    Calls Try.prog 22 #[.agg #[.slice A1 n1 c1, .slice A2 n2 c2, .slice A3 n3 c3], .agg #[.slice B1 m1 d1, .slice B2 m2 d2, .slice B3 m3 d3]] w fun e w' => e = .returned (.bool true) ∧ Ext w w' := by
  subst e1 e2 e3 f1 f2 f3
  exact same_eq A1 A2 A3 B1 B2 B3 c1 c2 c3 d1 d2 d3 p w hp.len hp.ck hp.arcs hq.len hq.ck hq.arcs (by have := hf.l; omega) (by have := hf.c; omega) (fun l hl => by have := hf.r l hl; omega) (by have := hf.a; omega)
theorem append_n (e1 : p.len.length = n1) (e2 : p.ck.length = n2) (e3 : p.arcs.length = n3) (hp : PatAt S w ⟨A1, c1, A2, c2, A3, c3⟩ p) (hg : Good p) :
    Calls Try.prog 20 #[.agg #[.slice A1 n1 c1, .slice A2 n2 c2, .slice A3 n3 c3], .int .i64 q, .int .i64 fr, .int .i64 se] w (RetPB S w (appRes p q fr se).1 (appRes p q fr se).2) := by
  subst e1 e2 e3; exact append_any ⟨A1, c1, A2, c2, A3, c3⟩ p q fr se w hp hg
theorem rappend_n (e1 : p.len.length = n1) (e2 : p.ck.length = n2) (e3 : p.arcs.length = n3) (hp : PatAt S w ⟨A1, c1, A2, c2, A3, c3⟩ p) (hg : Good p) :
    Calls Try.prog 21 #[.agg #[.slice A1 n1 c1, .slice A2 n2 c2, .slice A3 n3 c3], .int .i64 q, .int .i64 fr, .int .i64 se] w (RetPB S w (appRes p q fr se).1 (appRes p q fr se).2) := by
  subst e1 e2 e3; exact rappend_any ⟨A1, c1, A2, c2, A3, c3⟩ p q fr se w hp hg
theorem mark_m (e1 : p.len.length = n1) (e2 : p.ck.length = n2) (e3 : p.arcs.length = n3) (hp : PatAt S w ⟨A1, c1, A2, c2, A3, c3⟩ p) (hg : Good p) :
    Calls Try.prog 23 #[.agg #[.slice A1 n1 c1, .slice A2 n2 c2, .slice A3 n3 c3], .int .i64 q] w (RetP S w (markI p q)) := by
  subst e1 e2 e3; exact mark_any ⟨A1, c1, A2, c2, A3, c3⟩ p q w hp hg
theorem rmark_m (e1 : p.len.length = n1) (e2 : p.ck.length = n2) (e3 : p.arcs.length = n3) (hp : PatAt S w ⟨A1, c1, A2, c2, A3, c3⟩ p) (hg : Good p) :
    Calls Try.prog 24 #[.agg #[.slice A1 n1 c1, .slice A2 n2 c2, .slice A3 n3 c3], .int .i64 q] w (RetP S w (markI p q)) := by
  subst e1 e2 e3; exact rmark_any ⟨A1, c1, A2, c2, A3, c3⟩ p q w hp hg
end
set_option maxHeartbeats 800000 in
theorem mod_any (x : Int) (n : Nat) (z : Int) (w0 : World) (hz : z = n) (hn : 1 ≤ n) (hn' : n ≤ 1000) :
    Calls Try.prog 19 #[.int .i64 x, .int .i64 z] w0 fun e w' => (∃ r : Nat, e = .returned (.int .i64 r) ∧ r < n) ∧ Ext w0 w' := by
  subst hz
  have hS := St.start w0 NoM
  have h1 : Int.tmod x n < n := Int.tmod_lt_of_pos x (by omega)
  have h2 : -(n : Int) < Int.tmod x n := by
    have := Int.tmod_lt_of_pos (-x) (show (0 : Int) < n by omega)
    rw [Int.neg_tmod] at this; omega
  generalize hy : Int.tmod x n = y at *
  by_cases h0 : y < 0
  · go_enter Try.func19, Try.ntmps19
    go_wp2_with (first | (guard_target =~ wpList _ _ _ (⟨_, Op.load _ _, _, _, _, _⟩ :: _) _ _; first | refine st_ld hS rfl rfl rfl ?_ | refine st_lds hS rfl rfl rfl ?_ | refine st_ldos hS rfl rfl (by assumption) (by rfl) (by first | exact id | assumption | omega) ?_ | refine st_ldo hS rfl rfl (by assumption) (by first | exact id | assumption | omega) ?_ | refine st_ldr hS rfl rfl (by assumption) ?_ | fail) | (guard_target =~ wpList _ _ _ (⟨_, Op.store _ _ _, _, _, _, _⟩ :: _) _ _; (first | refine st_st hS rfl rfl rfl rfl (by simp) ?_ | refine st_strI hS rfl rfl rfl (by first | omega | (simp; omega)) ?_ | refine st_str hS rfl rfl rfl rfl (by simp; omega) ?_ | refine st_storeW hS rfl rfl rfl rfl (by simp [Value.oneCell']) (by rfl) ?_ | refine st_stores hS rfl rfl rfl rfl (by simp [Value.oneCell']) (by simp) ?_ | fail); clear hS; intro w hS) | ((first | (guard_target =~ wpList _ _ _ (⟨_, Op.box _ _, _, _, _, _⟩ :: _) _ _; first | refine st_box hS rfl rfl ?_ | refine st_box1 hS rfl rfl rfl ?_ | fail) | (guard_target =~ wpList _ _ _ (⟨_, Op.alloc _, _, _, _, _⟩ :: _) _ _; first | refine st_alloc hS rfl ?_ | fail) | (guard_target =~ wpList _ _ _ (⟨_, Op.buildSlice _ _ _, _, _, _, _⟩ :: _) _ _; first | refine st_bs0 hS rfl ?_ | refine st_bs1 hS rfl rfl rfl (by rfl) ?_ | refine st_bs1A hS rfl rfl (by rfl) (by decide) ?_ | refine st_bs2 hS rfl rfl rfl rfl rfl (by rfl) ?_ | refine st_bs2A hS rfl rfl rfl (by rfl) (by rfl) (by decide) ?_ | fail) | (guard_target =~ wpList _ _ _ (⟨_, Op.makeSlice _ _ _, _, _, _, _⟩ :: _) _ _; first | refine st_mkI hS rfl rfl rfl (by first | rfl | omega | simp) (by first | rfl | omega | simp) (by omega) ?_ | fail) | fail); clear hS; first | ((fail_if_success (have _ := g1)); intro g1 w hS) | ((fail_if_success (have _ := g2)); intro g2 w hS) | ((fail_if_success (have _ := g3)); intro g3 w hS) | ((fail_if_success (have _ := g4)); intro g4 w hS) | ((fail_if_success (have _ := g5)); intro g5 w hS) | ((fail_if_success (have _ := g6)); intro g6 w hS) | ((fail_if_success (have _ := g7)); intro g7 w hS) | ((fail_if_success (have _ := g8)); intro g8 w hS) | ((fail_if_success (have _ := g9)); intro g9 w hS) | fail) | (guard_target =~ wpList _ _ _ (⟨_, Op.call { callee := Callee.builtin Builtin.append, args := _, argTypes := _ }, _, _, _, _⟩ :: _) _ _; (first | refine st_appI hS rfl rfl rfl (by omega) ?_ | refine st_app hS rfl rfl rfl rfl (by simp [Value.oneCell']) (by omega) ?_ | refine st_app0 hS rfl rfl rfl rfl (by simp [Value.oneCell']) (by omega) ?_ | fail); clear hS; first | ((fail_if_success (have _ := L1)); intro L1 cl1 w hL1 hM1 hS) | ((fail_if_success (have _ := L2)); intro L2 cl2 w hL2 hM2 hS) | ((fail_if_success (have _ := L3)); intro L3 cl3 w hL3 hM3 hS) | ((fail_if_success (have _ := L4)); intro L4 cl4 w hL4 hM4 hS) | ((fail_if_success (have _ := L5)); intro L5 cl5 w hL5 hM5 hS) | ((fail_if_success (have _ := L6)); intro L6 cl6 w hL6 hM6 hS) | fail) | fail)
    go_ret
    exact ⟨⟨(y + n).toNat, ret_int (by omega), by omega⟩, hS.toExt⟩
  · go_enter Try.func19, Try.ntmps19
    go_wp2_with (first | (guard_target =~ wpList _ _ _ (⟨_, Op.load _ _, _, _, _, _⟩ :: _) _ _; first | refine st_ld hS rfl rfl rfl ?_ | refine st_lds hS rfl rfl rfl ?_ | refine st_ldos hS rfl rfl (by assumption) (by rfl) (by first | exact id | assumption | omega) ?_ | refine st_ldo hS rfl rfl (by assumption) (by first | exact id | assumption | omega) ?_ | refine st_ldr hS rfl rfl (by assumption) ?_ | fail) | (guard_target =~ wpList _ _ _ (⟨_, Op.store _ _ _, _, _, _, _⟩ :: _) _ _; (first | refine st_st hS rfl rfl rfl rfl (by simp) ?_ | refine st_strI hS rfl rfl rfl (by first | omega | (simp; omega)) ?_ | refine st_str hS rfl rfl rfl rfl (by simp; omega) ?_ | refine st_storeW hS rfl rfl rfl rfl (by simp [Value.oneCell']) (by rfl) ?_ | refine st_stores hS rfl rfl rfl rfl (by simp [Value.oneCell']) (by simp) ?_ | fail); clear hS; intro w hS) | ((first | (guard_target =~ wpList _ _ _ (⟨_, Op.box _ _, _, _, _, _⟩ :: _) _ _; first | refine st_box hS rfl rfl ?_ | refine st_box1 hS rfl rfl rfl ?_ | fail) | (guard_target =~ wpList _ _ _ (⟨_, Op.alloc _, _, _, _, _⟩ :: _) _ _; first | refine st_alloc hS rfl ?_ | fail) | (guard_target =~ wpList _ _ _ (⟨_, Op.buildSlice _ _ _, _, _, _, _⟩ :: _) _ _; first | refine st_bs0 hS rfl ?_ | refine st_bs1 hS rfl rfl rfl (by rfl) ?_ | refine st_bs1A hS rfl rfl (by rfl) (by decide) ?_ | refine st_bs2 hS rfl rfl rfl rfl rfl (by rfl) ?_ | refine st_bs2A hS rfl rfl rfl (by rfl) (by rfl) (by decide) ?_ | fail) | (guard_target =~ wpList _ _ _ (⟨_, Op.makeSlice _ _ _, _, _, _, _⟩ :: _) _ _; first | refine st_mkI hS rfl rfl rfl (by first | rfl | omega | simp) (by first | rfl | omega | simp) (by omega) ?_ | fail) | fail); clear hS; first | ((fail_if_success (have _ := g1)); intro g1 w hS) | ((fail_if_success (have _ := g2)); intro g2 w hS) | ((fail_if_success (have _ := g3)); intro g3 w hS) | ((fail_if_success (have _ := g4)); intro g4 w hS) | ((fail_if_success (have _ := g5)); intro g5 w hS) | ((fail_if_success (have _ := g6)); intro g6 w hS) | ((fail_if_success (have _ := g7)); intro g7 w hS) | ((fail_if_success (have _ := g8)); intro g8 w hS) | ((fail_if_success (have _ := g9)); intro g9 w hS) | fail) | (guard_target =~ wpList _ _ _ (⟨_, Op.call { callee := Callee.builtin Builtin.append, args := _, argTypes := _ }, _, _, _, _⟩ :: _) _ _; (first | refine st_appI hS rfl rfl rfl (by omega) ?_ | refine st_app hS rfl rfl rfl rfl (by simp [Value.oneCell']) (by omega) ?_ | refine st_app0 hS rfl rfl rfl rfl (by simp [Value.oneCell']) (by omega) ?_ | fail); clear hS; first | ((fail_if_success (have _ := L1)); intro L1 cl1 w hL1 hM1 hS) | ((fail_if_success (have _ := L2)); intro L2 cl2 w hL2 hM2 hS) | ((fail_if_success (have _ := L3)); intro L3 cl3 w hL3 hM3 hS) | ((fail_if_success (have _ := L4)); intro L4 cl4 w hL4 hM4 hS) | ((fail_if_success (have _ := L5)); intro L5 cl5 w hL5 hM5 hS) | ((fail_if_success (have _ := L6)); intro L6 cl6 w hL6 hM6 hS) | fail) | fail)
    go_ret
    exact ⟨⟨y.toNat, ret_int (by omega), by omega⟩, hS.toExt⟩
end Go.Proofs.Ytjclgbkfnliiaaa
