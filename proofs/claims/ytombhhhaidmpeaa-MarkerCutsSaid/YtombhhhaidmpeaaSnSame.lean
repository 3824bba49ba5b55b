/- rollbacknetref23: SameInts, SameBools, SameLists, Same, of equal things. Conditions: they lie in memory. -/
import Derived.Test.YtombhhhaidmpeaaSnNew
import Derived.Test.YtombhhhaidmpeaaSameI
namespace Go.Proofs.Ytombhhhaidmpeaa
open Go.RowKit
set_option linter.unusedVariables false
set_option linter.unusedSimpArgs false
set_option linter.unusedSectionVars false

theorem RB.at_ {S : Nat → Prop} {w : World} {A : Option Addr} {bs : List Bool} (h : RV S w A (bools bs)) {k : Nat} (hk : k < bs.length) : ∃ b o, A = some ⟨b, o, none⟩ ∧ S b ∧ w.cell? ⟨b, o + k, none⟩ = some (.bool (opOf bs k)) := h k _ (bools_get hk)
theorem RW2.atR {S : Nat → Prop} {w : World} {A : Option Addr} {ls : List (List Int)} (h : RW2 ReV S w A ls) {k : Nat} (hk : k < ls.length) : ∃ b o B c, A = some ⟨b, o, none⟩ ∧ S b ∧ w.cell? ⟨b, o + k, none⟩ = some (.slice B (rowOf ls k).length c) ∧ (rowOf ls k).length ≤ c ∧ c ≤ 9223372036854775807 ∧ RI S w B (rowOf ls k) := by
  obtain ⟨vs, h1, h2⟩ := h
  have hv : k < vs.length := by rw [h2.n]; exact hk
  obtain ⟨b, o, e, hs, hc⟩ := h1.row2 hv
  obtain ⟨B, c, hv2, h3, h4, h5⟩ := h2.k k hv hk
  rw [rowOf_eq hk]
  exact ⟨b, o, B, c, e, hs, by rw [hc, hv2], h3, h4, h5⟩
theorem RW2.atC {S : Nat → Prop} {w : World} {A : Option Addr} {ls : List (List Pcl)} (h : RW2 ChV S w A ls) {k : Nat} (hk : k < ls.length) : ∃ b o B c, A = some ⟨b, o, none⟩ ∧ S b ∧ w.cell? ⟨b, o + k, none⟩ = some (.slice B (chOf ls k).length c) ∧ (chOf ls k).length ≤ c ∧ c ≤ 9223372036854775807 ∧ RV S w B (pcs (chOf ls k)) := by
  obtain ⟨vs, h1, h2⟩ := h
  have hv : k < vs.length := by rw [h2.n]; exact hk
  obtain ⟨b, o, e, hs, hc⟩ := h1.row2 hv
  obtain ⟨B, c, hv2, h3, h4, h5⟩ := h2.k k hv hk
  rw [chOf_eq hk]
  exact ⟨b, o, B, c, e, hs, by rw [hc, hv2], h3, h4, h5⟩
theorem pcs_cells {S : Nat → Prop} {w : World} {B : Option Addr} {l : List Pcl} (h : RV S w B (pcs l)) {j : Nat} (hj : j < l.length) : ∃ b o, B = some ⟨b, o, none⟩ ∧ S b ∧ Cells w b (o + j * 2) [.bool l[j].1, .int .i64 l[j].2] := by
  obtain ⟨b, o, e, hs, hc⟩ := h (j * 2) _ (by have := pcs_at hj 0 _ rfl; simpa using this)
  refine ⟨b, o, e, hs, fun i u hu => ?_⟩
  obtain ⟨b', o', e', _, hc'⟩ := h (j * 2 + i) u (pcs_at hj i u hu)
  rw [e] at e'
  injection e' with e'
  injection e' with e1 e2
  subst e1 e2
  rw [Nat.add_assoc]; exact hc'
set_option maxHeartbeats 1600000 in
theorem sameL_eq {S T : Nat → Prop} (A B : Option Addr) (c d : Nat) (ls : List (List Int)) (w0 : World) (ha : RW2 ReV S w0 A ls) (hb : RW2 ReV T w0 B ls) (hl : ls.length ≤ 1000000) (hr : ∀ l ∈ ls, l.length ≤ 1000000) :
    Calls Try.prog 14 #[.slice A ls.length c, .slice B ls.length d] w0 fun e w' => e = .returned (.bool true) ∧ Ext w0 w' := by
  have hS := St.start w0 NoM
  have e2 : ((ls.length : Int) != (ls.length : Int)) = false := by simp
  have HR := Lib.hid hr
  clear hr
  go_enter Try.func14, Try.ntmps14
  go_wp2_with (fail)
  clear e2
  go_loopw [5] (fun i wr => ∃ k : Nat, k ≤ ls.length ∧ i = .int .i64 k ∧ St w0 NoM [] wr) (fun i _ => ls.length - (intOf i).toNat)
  case atStart => exact ⟨0, Nat.zero_le _, rfl, hS⟩
  case round =>
    obtain ⟨k, hk, rfl, hS⟩ := hrel
    by_cases hlt : k < ls.length
    · obtain ⟨b1, o1, B1, c1, rfl, _, hca, _, _, hra⟩ := ha.atR hlt
      obtain ⟨b2, o2, B2, c2, rfl, _, hcb, _, _, hrb⟩ := hb.atR hlt
      have hrl : (rowOf ls k).length ≤ 1000000 := by rw [rowOf_eq hlt]; exact HR.out _ (List.getElem_mem hlt)
      generalize rowOf ls k = l at *
      go_wp2_with (fail)
      refine dr_start0 []  hS (by kernel_rfl) rfl ?_; clear hS; intro w hS
      refine dM hS 0 rfl rfl rfl ?_
      (try simp only [Act.put, nA, nB, nC])
      refine dM hS 1 rfl rfl rfl ?_
      (try simp only [Act.put, nA, nB, nC])
      refine dP hS 2 rfl rfl ?_
      (try simp only [Act.put, nA, nB, nC])
      first | refine dL1 hS 3 rfl rfl rfl rfl ?_ | refine dL2 hS 3 rfl rfl rfl rfl ?_ | refine dL3 hS 3 rfl rfl rfl ?_ | refine dL4 hS 3 rfl rfl rfl ?_ | refine dL5 hS 3 rfl rfl rfl ?_ | refine dL6 hS 3 rfl rfl rfl ?_ | refine dL7 hS 3 rfl rfl rfl ?_
      (try simp only [Act.put, nA, nB, nC])
      refine dM hS 4 rfl rfl rfl ?_
      (try simp only [Act.put, nA, nB, nC])
      refine dM hS 5 rfl rfl rfl ?_
      (try simp only [Act.put, nA, nB, nC])
      refine dP hS 6 rfl rfl ?_
      (try simp only [Act.put, nA, nB, nC])
      first | refine dL1 hS 7 rfl rfl rfl rfl ?_ | refine dL2 hS 7 rfl rfl rfl rfl ?_ | refine dL3 hS 7 rfl rfl rfl ?_ | refine dL4 hS 7 rfl rfl rfl ?_ | refine dL5 hS 7 rfl rfl rfl ?_ | refine dL6 hS 7 rfl rfl rfl ?_ | refine dL7 hS 7 rfl rfl rfl ?_
      (try simp only [Act.put, nA, nB, nC])
      refine dr_one 8 (by kernel_rfl) rfl ?_
      (refine st_call rfl (by kernel_rfl) rfl ?_; go_at_call 24; refine (sameI_eq _ _ _ _ l _ (hra.ext hS.toExt) (hrb.ext hS.toExt) hrl).mono ?_; rintro e w ⟨rfl, hx1⟩; replace hS := hS.ext hx1)
      (try simp only [Act.put, nA, nB, nC])
      refine dr_end hS ?_
      refine dP hS 9 rfl rfl ?_
      (try simp only [Act.put, nA, nB, nC])
      refine dr_done (by kernel_rfl) ?_
      go_wp2_with (fail)
      go_roundw
      case measure => simp [intOf]; omega
      exact ⟨k + 1, by omega, by go_num, hS⟩
    · go_wp2_with (fail)
      go_ret
      exact ⟨rfl, hS.toExt⟩
/-- lists of a state, by their lengths -/
structure SnLen (n m : Nat) (s : Snp) : Prop where
  lv : s.vals.length = n
  lc : s.cnts.length = n
  lh : s.chs.length = m
  lk : s.cut.length = n
  ls : s.saved.length = n
  lo : s.opn.length = m
  lr : s.recs.length = m
  hb : ∀ l ∈ s.chs, l.length ≤ 1000000
  rb : ∀ l ∈ s.recs, l.length ≤ 1000000
theorem SnOk.len {n b : Nat} {s : Snp} (h : SnOk n b s) (hb : b ≤ 1000000) : SnLen n (n * n) s := ⟨h.lv, h.lc, h.lh, h.lk, h.ls, h.lo, h.lr, fun l hl => by have := h.hb l hl; omega, fun l hl => by have := h.rb l hl; omega⟩
theorem SnLen.none : SnLen 0 0 .none := ⟨rfl, rfl, rfl, rfl, rfl, rfl, rfl, by simp [Snp.none], by simp [Snp.none]⟩
theorem sameL_n {S T : Nat → Prop} {A B : Option Addr} {c d n : Nat} {ls : List (List Int)} {w0 : World} (hn : ls.length = n) (ha : RW2 ReV S w0 A ls) (hb : RW2 ReV T w0 B ls) (hl : n ≤ 1000000) (hr : ∀ l ∈ ls, l.length ≤ 1000000) :
    Calls Try.prog 14 #[.slice A n c, .slice B n d] w0 fun e w' => e = .returned (.bool true) ∧ Ext w0 w' := by subst hn; exact sameL_eq A B c d ls w0 ha hb hl hr
theorem RW2.ext2 {α : Type} {P : (Nat → Prop) → World → Value → α → Prop} {S : Nat → Prop} {w w' : World} {A : Option Addr} {ls : List α} (h : RW2 P S w A ls) (k : Ext w w') (hp : ∀ v l, P S w v l → P S w' v l) : RW2 P S w' A ls := h.into (Into.ofExt k) hp
end Go.Proofs.Ytombhhhaidmpeaa
