/- Calls over patterns that lie in data, for the laws of chapter 16; Mod. No condition. -/
import Derived.Test.YtjclgbkfnliiaaaLawPat
import Derived.Test.YtjclgbkfnliiaaaAwake16
import Derived.Test.YtjclgbkfnliiaaaRappend
import Derived.Test.YtjclgbkfnliiaaaMark
namespace Go.Proofs.Ytjclgbkfnliiaaa
open Go.RowKit
set_option linter.unusedVariables false
set_option linter.unusedSimpArgs false

/-- a pattern whose parts are short -/
structure Fits (p : Pat) : Prop where
  l : p.len.length ≤ 1000
  c : p.ck.length ≤ 1000
  r : ∀ l ∈ p.ck, l.length ≤ 1000
  a : p.arcs.length ≤ 1000
theorem Good.fits {p : Pat} (h : Good p) : Fits p := by
  refine ⟨by have := h.n5; omega, by have := h.n5; have := h.ckl; omega, fun l hl => ?_, by have := h.few; omega⟩
  obtain ⟨i, hi, rfl⟩ := List.getElem_of_mem hl
  have := h.rowLen (q := i) (by have := h.ckl; omega)
  rw [rowOf_eq hi] at this
  omega
theorem noPat_fits : Fits noPat := ⟨by simp [noPat], by simp [noPat], by simp [noPat], by simp [noPat]⟩
theorem appRes_fits {p : Pat} (h : Good p) (q fr se : Int) : Fits (appRes p q fr se).1 := by
  unfold appRes
  split
  · have hf := h.fits
    have := h.few
    unfold appPat
    split
    · exact ⟨by simpa [Pat.more] using hf.l, hf.c, hf.r, hf.a⟩
    · exact ⟨by simpa [Pat.more, Pat.send] using hf.l, hf.c, hf.r, by simp [Pat.more, Pat.send]; omega⟩
  · exact noPat_fits
theorem markI_good {p : Pat} (h : Good p) (q : Int) : Good (markI p q) := by
  unfold markI
  split
  · rename_i hq; exact h.mark (by omega)
  · exact h
section
variable {S T : Nat → Prop} {A1 A2 A3 B1 B2 B3 : Option Addr} {c1 c2 c3 d1 d2 d3 n1 n2 n3 m1 m2 m3 : Nat} {p : Pat} {q fr se : Int} {w : World}
theorem same_n (e1 : p.len.length = n1) (e2 : p.ck.length = n2) (e3 : p.arcs.length = n3) (f1 : p.len.length = m1) (f2 : p.ck.length = m2) (f3 : p.arcs.length = m3) (hp : PatAt S w ⟨A1, c1, A2, c2, A3, c3⟩ p) (hq : PatAt T w ⟨B1, d1, B2, d2, B3, d3⟩ p) (hf : Fits p) :
    Calls Try.prog 22 #[.agg #[.slice A1 n1 c1, .slice A2 n2 c2, .slice A3 n3 c3], .agg #[.slice B1 m1 d1, .slice B2 m2 d2, .slice B3 m3 d3]] w fun e w' => e = .returned (.bool true) ∧ Ext w w' := by
  subst e1 e2 e3 f1 f2 f3
  exact same_eq A1 A2 A3 B1 B2 B3 c1 c2 c3 d1 d2 d3 p w hp.len hp.ck hp.arcs hq.len hq.ck hq.arcs (by have := hf.l; omega) (by have := hf.c; omega) (fun l hl => by have := hf.r l hl; omega) (by have := hf.a; omega)
theorem append_n (e1 : p.len.length = n1) (e2 : p.ck.length = n2) (e3 : p.arcs.length = n3) (hp : PatAt S w ⟨A1, c1, A2, c2, A3, c3⟩ p) (hg : Good p) :
    Calls Try.prog 20 #[.agg #[.slice A1 n1 c1, .slice A2 n2 c2, .slice A3 n3 c3], .int .i64 q, .int .i64 fr, .int .i64 se] w (RetPB S w (appRes p q fr se).1 (appRes p q fr se).2) := by
  subst e1 e2 e3; exact append_any ⟨A1, c1, A2, c2, A3, c3⟩ p q fr se w hp hg
theorem rappend_n (e1 : p.len.length = n1) (e2 : p.ck.length = n2) (e3 : p.arcs.length = n3) (hp : PatAt S w ⟨A1, c1, A2, c2, A3, c3⟩ p) (hg : Good p) :
    Calls Try.prog 21 #[.agg #[.slice A1 n1 c1, .slice A2 n2 c2, .slice A3 n3 c3], .int .i64 q, .int .i64 fr, .int .i64 se] w (RetPB S w (appRes p q fr se).1 (appRes p q fr se).2) := by
  subst e1 e2 e3; exact rappend_any ⟨A1, c1, A2, c2, A3, c3⟩ p q fr se w hp hg
theorem mark_m (e1 : p.len.length = n1) (e2 : p.ck.length = n2) (e3 : p.arcs.length = n3) (hp : PatAt S w ⟨A1, c1, A2, c2, A3, c3⟩ p) (hg : Good p) :
    Calls Try.prog 23 #[.agg #[.slice A1 n1 c1, .slice A2 n2 c2, .slice A3 n3 c3], .int .i64 q] w (RetP S w (markI p q)) := by
  subst e1 e2 e3; exact mark_any ⟨A1, c1, A2, c2, A3, c3⟩ p q w hp hg
theorem rmark_m (e1 : p.len.length = n1) (e2 : p.ck.length = n2) (e3 : p.arcs.length = n3) (hp : PatAt S w ⟨A1, c1, A2, c2, A3, c3⟩ p) (hg : Good p) :
    Calls Try.prog 24 #[.agg #[.slice A1 n1 c1, .slice A2 n2 c2, .slice A3 n3 c3], .int .i64 q] w (RetP S w (markI p q)) := by
  subst e1 e2 e3; exact rmark_any ⟨A1, c1, A2, c2, A3, c3⟩ p q w hp hg
end
set_option maxHeartbeats 800000 in
theorem mod_any (x : Int) (n : Nat) (z : Int) (w0 : World) (hz : z = n) (hn : 1 ≤ n) (hn' : n ≤ 1000) :
    Calls Try.prog 19 #[.int .i64 x, .int .i64 z] w0 fun e w' => (∃ r : Nat, e = .returned (.int .i64 r) ∧ r < n) ∧ Ext w0 w' := by
  subst hz
  have hS := St.start w0 NoM
  have h1 : Int.tmod x n < n := Int.tmod_lt_of_pos x (by omega)
  have h2 : -(n : Int) < Int.tmod x n := by
    have := Int.tmod_lt_of_pos (-x) (show (0 : Int) < n by omega)
    rw [Int.neg_tmod] at this; omega
  generalize hy : Int.tmod x n = y at *
  by_cases h0 : y < 0
  · go_enter Try.func19, Try.ntmps19
    go_wp2_with (fail)
    go_ret
    exact ⟨⟨(y + n).toNat, ret_int (by omega), by omega⟩, hS.toExt⟩
  · go_enter Try.func19, Try.ntmps19
    go_wp2_with (fail)
    go_ret
    exact ⟨⟨y.toNat, ret_int (by omega), by omega⟩, hS.toExt⟩
end Go.Proofs.Ytjclgbkfnliiaaa
