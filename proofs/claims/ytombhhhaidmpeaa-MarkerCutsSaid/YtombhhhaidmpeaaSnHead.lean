/- What an accepted move of the snapshot machine finds in memory. No condition. -/
import Derived.Test.YtombhhhaidmpeaaSnCons
import Derived.Test.YtombhhhaidmpeaaSnUns
namespace Go.Proofs.Ytombhhhaidmpeaa
open Go.RowKit
set_option linter.unusedVariables false
set_option linter.unusedSimpArgs false

/-- the head of channel k, in memory -/
def HeadAt (T : Nat → Prop) (u : World) (A3 : Option Addr) (s : Snp) (k : Nat) : Prop := ∃ bh oh bc oc cB x l, chOf s.chs k = x :: l ∧ l.length ≤ 1000000 ∧ A3 = some ⟨bh, oh, none⟩ ∧ FC T u bh (oh + k) (.slice (some ⟨bc, oc, none⟩) (l.length + 1) cB) ∧ FC T u bc oc (.bool x.1)
theorem head_at {T : Nat → Prop} {u : World} {v : SV} {s : Snp} {n b k : Nat} (hs : SnAt T u v s) (hok : SnOk n b s) (hb : b ≤ 100000) (hk : k < n * n) (h0 : 0 < (chOf s.chs k).length) : HeadAt T u v.A3 s k := by
  have hkl : k < s.chs.length := by rw [hok.lh]; exact hk
  obtain ⟨bh, oh, B, cB, hA3, hS, hcell, _, _, hrv⟩ := hs.chs.atC hkl
  have hl := hok.hbk hk
  cases hc : chOf s.chs k with
  | nil => rw [hc] at h0; simp at h0
  | cons x l =>
    rw [hc] at hcell hrv hl
    obtain ⟨bc, oc, rfl, hS2, hc2⟩ := hrv 0 (.bool x.1) (by rw [pcs_cons]; rfl)
    refine ⟨bh, oh, bc, oc, cB, x, l, hc, ?_, hA3, ⟨hS, hcell⟩, ⟨hS2, hc2⟩⟩
    simp only [List.length_cons] at hl
    omega
/-- what an accepted move may be -/
theorem mv_kinds {T : Nat → Prop} {u : World} {v : SV} {s : Snp} {n nn b : Nat} {kd fr tt val : Int} (hs : SnAt T u v s) (hok : SnOk n b s) (hb : b ≤ 100000) (hnn : n * n = nn) (hr : refS s ⟨kd, fr, tt, val⟩ = 0) :
    ∃ p : Nat, fr = p ∧ p < n ∧ (kd = 3 ∨ ∃ q : Nat, tt = q ∧ q < n ∧ p ≠ q ∧ p * n + q < nn ∧ (kd = 1 ∨ (kd = 2 ∧ HeadAt T u v.A3 s (p * n + q)))) := by
  obtain ⟨r1, r2, r3, r4, r5, r6, r7⟩ := refS_zero hr
  simp only [hok.lv] at r1 r2 r3 r4 r5 r6 r7
  refine ⟨fr.toNat, by omega, by omega, ?_⟩
  by_cases h3 : kd = 3
  · exact .inl h3
  · obtain ⟨q1, q2, q3⟩ := r5 h3
    have hk : fr.toNat * n + tt.toNat < nn := by rw [← hnn]; exact ch_lt (by omega) (by omega)
    refine .inr ⟨tt.toNat, by omega, by omega, by omega, hk, ?_⟩
    by_cases h1 : kd = 1
    · exact .inl h1
    · have h2 : kd = 2 := by omega
      exact .inr ⟨h2, head_at hs hok hb (by rw [hnn]; exact hk) (r7 h2)⟩
theorem plainM_one {n : Nat} {s : Snp} {fr tt val : Int} : plainM n s ⟨1, fr, tt, val⟩ = true := by simp [plainM]
theorem plainM_three {n : Nat} {s : Snp} {fr tt val : Int} : plainM n s ⟨3, fr, tt, val⟩ = false := by simp [plainM]
theorem plainM_two {n p q : Nat} {s : Snp} {val : Int} {x : Pcl} {l : List Pcl} (h : chOf s.chs (p * n + q) = x :: l) : plainM n s ⟨2, p, q, val⟩ = !x.1 := by simp [plainM, h]
end Go.Proofs.Ytombhhhaidmpeaa
