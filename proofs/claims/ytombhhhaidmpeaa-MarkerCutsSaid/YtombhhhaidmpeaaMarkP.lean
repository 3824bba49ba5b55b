/- The trace of a run, move by move. No condition. -/
import Derived.Test.YtombhhhaidmpeaaNoteD
import Derived.Test.YtombhhhaidmpeaaSnHead
namespace Go.Proofs.Ytombhhhaidmpeaa
open Go.RowKit
set_option linter.unusedVariables false
set_option linter.unusedSimpArgs false
set_option linter.unusedSectionVars false

/-- what holds of a run behind i moves -/
structure MC (n i na : Nat) (t : Int) (s : Snp) (p : Pat) (vs : List Int) (rs : List QR) : Prop where
  c : Cons n i t s
  tr : TrOk n s p vs (rs.map (·.2.2))
  na_ : p.arcs.length = na
  le : na ≤ i
section
variable {n i na : Nat} {t : Int} {s : Snp} {p : Pat} {vs : List Int} {rs : List QR} {p0 q0 : Nat} {tt val : Int}
theorem MC.mono (h : MC n i na t s p vs rs) : MC n (i + 1) na t s p vs rs := ⟨h.c.mono (Nat.le_succ i), h.tr, h.na_, by have := h.le; omega⟩
theorem MC.rl (h : MC n i na t s p vs rs) : rs.length = n * n := by have := h.tr.ql; simpa using this
theorem MC.pl (h : MC n i na t s p vs rs) : p.len.length = n := by rw [h.tr.len]; exact h.c.ok.lc
theorem MC.vl (h : MC n i na t s p vs rs) : vs.length = na := by rw [h.tr.vl, h.na_]
theorem MC.begin (h : MC n i na t s p vs rs) (hr : refS s ⟨3, (p0 : Int), tt, val⟩ = 0) (hp : p0 < n) : MC n (i + 1) na t (goS s ⟨3, (p0 : Int), tt, val⟩) p vs rs := by
  refine ⟨h.c.go hr, ?_, h.na_, by have := h.le; omega⟩
  have e : goS s ⟨3, (p0 : Int), tt, val⟩ = recS s p0 := by simp [goS]
  rw [e]
  exact h.tr.begin h.c.ok h.c.inv hp
theorem qrow (h : MC n i na t s p vs rs) (hi : i ≤ 50) {a c : Nat} (ha : a < n) (hc : c < n) : (qOf (rs.map (·.2.2)) (a * n + c)).length ≤ na := by
  rw [h.tr.q a c ha hc, ← h.na_]
  have := List.length_filter_le (fun i => waitB a c (arcOf p.arcs i)) (List.range p.arcs.length)
  simpa [sel] using this
theorem MC.ql (h : MC n i na t s p vs rs) (hi : i ≤ 50) : ∀ r ∈ rs, r.2.2.length ≤ 60 := fun r hr => by
  obtain ⟨k, hk, rfl⟩ := List.getElem_of_mem hr
  have hkn : k < n * n := by rw [← h.rl]; exact hk
  have hn : 0 < n := by
    rcases Nat.eq_zero_or_pos n with h0 | h0
    · rw [h0] at hkn; omega
    · exact h0
  have hq := qrow h hi (a := k / n) (c := k % n) (Nat.div_lt_of_lt_mul hkn) (Nat.mod_lt _ hn)
  rw [show k / n * n + k % n = k by rw [Nat.mul_comm]; exact Nat.div_add_mod k n] at hq
  have h2 : qOf (rs.map (·.2.2)) k = rs[k].2.2 := by simp [qOf, hk]
  rw [h2] at hq
  have := h.le
  omega
theorem MC.cnt (h : MC n i na t s p vs rs) (hi : i ≤ 50) (hp : p0 < n) : 0 ≤ nth p.len p0 ∧ nth p.len p0 ≤ 60 := by
  have := h.c.ok.cb p0 hp
  rw [h.tr.len]
  omega
theorem MC.send (h : MC n i na t s p vs rs) (hi : i ≤ 50) (hr : refS s ⟨1, (p0 : Int), (q0 : Int), val⟩ = 0) (hp : p0 < n) (hq : q0 < n) (hne : p0 ≠ q0) (A : Option Addr) (c : Nat) :
    MC n (i + 1) (na + 1) t (goS s ⟨1, (p0 : Int), (q0 : Int), val⟩) (sendP p p0 q0) (vs ++ [val]) (rs.set (p0 * n + q0) (A, c, qOf (rs.map (·.2.2)) (p0 * n + q0) ++ [na])) := by
  refine ⟨h.c.go hr, ?_, by simp [sendP, h.na_], by have := h.le; omega⟩
  have e : goS s ⟨1, (p0 : Int), (q0 : Int), val⟩ = sendS s p0 q0 val := by simp [goS]
  rw [e, List.map_set]
  have h1 := h.tr.send h.c.ok hi hp hq hne (by rw [h.na_]; exact h.le) val
  rw [h.na_] at h1
  exact h1
theorem MC.mark (h : MC n i na t s p vs rs) (hr : refS s ⟨2, (p0 : Int), (q0 : Int), val⟩ = 0) (hp : p0 < n) (hq : q0 < n) (hne : p0 ≠ q0) {v : Int} {l : List Pcl} (hx : chOf s.chs (p0 * n + q0) = (true, v) :: l) :
    MC n (i + 1) na t (goS s ⟨2, (p0 : Int), (q0 : Int), val⟩) p vs rs := by
  refine ⟨h.c.go hr, ?_, h.na_, by have := h.le; omega⟩
  have e : goS s ⟨2, (p0 : Int), (q0 : Int), val⟩ = markS s (p0 * n + q0) q0 := by simp [goS, h.c.ok.lv, hx]
  rw [e]
  exact h.tr.mark h.c.ok h.c.inv hp hq hne hx rfl
theorem MC.take (h : MC n i na t s p vs rs) (hi : i ≤ 50) (hr : refS s ⟨2, (p0 : Int), (q0 : Int), val⟩ = 0) (hp : p0 < n) (hq : q0 < n) (hne : p0 ≠ q0) {v : Int} {l : List Pcl} (hx : chOf s.chs (p0 * n + q0) = (false, v) :: l) :
    ∃ A0 c0 i0 Q0, rs[p0 * n + q0]? = some (A0, c0, i0 :: Q0) ∧ i0 < na ∧ Q0.length ≤ 60 ∧ ∀ A c, MC n (i + 1) na t (goS s ⟨2, (p0 : Int), (q0 : Int), val⟩) (takeP p i0 q0) vs (rs.set (p0 * n + q0) (A, c, Q0)) := by
  obtain ⟨i0, Q0, h1, h2, h3, h4, h5, h6, h7⟩ := h.tr.headQ hp hq hx (by simp)
  have hk : p0 * n + q0 < rs.length := by rw [h.rl]; exact ch_lt hp hq
  have hq1 : (rs[p0 * n + q0]).2.2 = i0 :: Q0 := by
    rw [← h1]; simp [qOf, hk]
  have hQl := qrow h hi hp hq
  rw [h1] at hQl
  simp only [List.length_cons] at hQl
  refine ⟨(rs[p0 * n + q0]).1, (rs[p0 * n + q0]).2.1, i0, Q0, by rw [List.getElem?_eq_getElem hk, ← hq1], by rw [← h.na_]; exact h4, by have := h.le; omega, fun A c => ?_⟩
  refine ⟨h.c.go hr, ?_, by simp [takeP, h.na_], by have := h.le; omega⟩
  have e : goS s ⟨2, (p0 : Int), (q0 : Int), val⟩ = takeS s (p0 * n + q0) q0 v := by simp [goS, h.c.ok.lv, hx]
  rw [e, List.map_set]
  exact h.tr.take h.c.ok h.c.inv hi hp hq hne hx (by simp) h1 h2 h3 h4 h5 h6 h7
end
end Go.Proofs.Ytombhhhaidmpeaa
