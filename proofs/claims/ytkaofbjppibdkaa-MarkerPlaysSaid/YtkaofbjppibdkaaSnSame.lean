/- rollbacknetref23: SameInts, SameBools, SameLists, Same, of equal things. Conditions: they lie in memory. -/
import Derived.Test.YtkaofbjppibdkaaSnNew
namespace Go.Proofs.Ytkaofbjppibdkaa
open Go.RowKit
set_option linter.unusedVariables false
set_option linter.unusedSimpArgs false
set_option linter.unusedSectionVars false

set_option maxHeartbeats 1600000 in
theorem sameI_eq {S T : Nat → Prop} (A B : Option Addr) (c d : Nat) (xs : List Int) (w0 : World) (ha : RI S w0 A xs) (hb : RI T w0 B xs) (hl : xs.length ≤ 1000000) :
    Calls Try.prog 21 #[.slice A xs.length c, .slice B xs.length d] w0 fun e w' => e = .returned (.bool true) ∧ Ext w0 w' := by
  have hS := St.start w0 NoM
  have e2 : ((xs.length : Int) != (xs.length : Int)) = false := by simp
  go_enter Try.func21, Try.ntmps21
  go_wp2_with (fail)
  clear e2
  go_loopw [5] (fun i wr => ∃ k : Nat, k ≤ xs.length ∧ i = .int .i64 k ∧ St w0 NoM [] wr) (fun i _ => xs.length - (intOf i).toNat)
  case atStart => exact ⟨0, Nat.zero_le _, rfl, hS⟩
  case round =>
    obtain ⟨k, hk, rfl, hS⟩ := hrel
    by_cases hlt : k < xs.length
    · obtain ⟨b1, o1, rfl, _, hca⟩ := ha.atNS hlt
      obtain ⟨b2, o2, rfl, _, hcb⟩ := hb.atNS hlt
      generalize nth xs k = x at *
      have e3 : (x != x) = false := by simp
      go_wp2_with (fail)
      refine dr_start0 []  hS (by kernel_rfl) rfl ?_; clear hS; intro w hS
      refine dM hS 0 rfl rfl rfl ?_
      (try simp only [Act.put, nA, nB, nC])
      refine dM hS 1 rfl rfl rfl ?_
      (try simp only [Act.put, nA, nB, nC])
      refine dP hS 2 rfl rfl ?_
      (try simp only [Act.put, nA, nB, nC])
      first | refine dL1 hS 3 rfl rfl rfl rfl ?_ | refine dL2 hS 3 rfl rfl rfl rfl ?_ | refine dL3 hS 3 rfl rfl rfl ?_ | refine dL4 hS 3 rfl rfl rfl ?_ | refine dL5 hS 3 rfl rfl rfl ?_ | refine dL6 hS 3 rfl rfl rfl ?_ | refine dL7 hS 3 rfl rfl rfl ?_
      (try simp only [Act.put, nA, nB, nC])
      refine dM hS 4 rfl rfl rfl ?_
      (try simp only [Act.put, nA, nB, nC])
      refine dM hS 5 rfl rfl rfl ?_
      (try simp only [Act.put, nA, nB, nC])
      refine dP hS 6 rfl rfl ?_
      (try simp only [Act.put, nA, nB, nC])
      first | refine dL1 hS 7 rfl rfl rfl rfl ?_ | refine dL2 hS 7 rfl rfl rfl rfl ?_ | refine dL3 hS 7 rfl rfl rfl ?_ | refine dL4 hS 7 rfl rfl rfl ?_ | refine dL5 hS 7 rfl rfl rfl ?_ | refine dL6 hS 7 rfl rfl rfl ?_ | refine dL7 hS 7 rfl rfl rfl ?_
      (try simp only [Act.put, nA, nB, nC])
      refine dP hS 8 rfl rfl ?_
      (try simp only [Act.put, nA, nB, nC])
      refine dr_done (by kernel_rfl) ?_
      go_wp2_with (fail)
      go_roundw
      case measure => simp [intOf]; omega
      exact ⟨k + 1, by omega, by go_num, hS⟩
    · go_wp2_with (fail)
      go_ret
      exact ⟨rfl, hS.toExt⟩
theorem RB.at_ {S : Nat → Prop} {w : World} {A : Option Addr} {bs : List Bool} (h : RV S w A (bools bs)) {k : Nat} (hk : k < bs.length) : ∃ b o, A = some ⟨b, o, none⟩ ∧ S b ∧ w.cell? ⟨b, o + k, none⟩ = some (.bool (opOf bs k)) := h k _ (bools_get hk)
set_option maxHeartbeats 1600000 in
theorem sameB_eq {S T : Nat → Prop} (A B : Option Addr) (c d : Nat) (bs : List Bool) (w0 : World) (ha : RV S w0 A (bools bs)) (hb : RV T w0 B (bools bs)) (hl : bs.length ≤ 1000000) :
    Calls Try.prog 29 #[.slice A bs.length c, .slice B bs.length d] w0 fun e w' => e = .returned (.bool true) ∧ Ext w0 w' := by
  have hS := St.start w0 NoM
  have e2 : ((bs.length : Int) != (bs.length : Int)) = false := by simp
  go_enter Try.func29, Try.ntmps29
  go_wp2_with (fail)
  clear e2
  go_loopw [5] (fun i wr => ∃ k : Nat, k ≤ bs.length ∧ i = .int .i64 k ∧ St w0 NoM [] wr) (fun i _ => bs.length - (intOf i).toNat)
  case atStart => exact ⟨0, Nat.zero_le _, rfl, hS⟩
  case round =>
    obtain ⟨k, hk, rfl, hS⟩ := hrel
    by_cases hlt : k < bs.length
    · obtain ⟨b1, o1, rfl, _, hca⟩ := RB.at_ ha hlt
      obtain ⟨b2, o2, rfl, _, hcb⟩ := RB.at_ hb hlt
      generalize opOf bs k = x at *
      have e3 : (x != x) = false := by simp
      go_wp2_with (fail)
      refine dr_start0 []  hS (by kernel_rfl) rfl ?_; clear hS; intro w hS
      refine dM hS 0 rfl rfl rfl ?_
      (try simp only [Act.put, nA, nB, nC])
      refine dM hS 1 rfl rfl rfl ?_
      (try simp only [Act.put, nA, nB, nC])
      refine dP hS 2 rfl rfl ?_
      (try simp only [Act.put, nA, nB, nC])
      first | refine dL1 hS 3 rfl rfl rfl rfl ?_ | refine dL2 hS 3 rfl rfl rfl rfl ?_ | refine dL3 hS 3 rfl rfl rfl ?_ | refine dL4 hS 3 rfl rfl rfl ?_ | refine dL5 hS 3 rfl rfl rfl ?_ | refine dL6 hS 3 rfl rfl rfl ?_ | refine dL7 hS 3 rfl rfl rfl ?_
      (try simp only [Act.put, nA, nB, nC])
      refine dM hS 4 rfl rfl rfl ?_
      (try simp only [Act.put, nA, nB, nC])
      refine dM hS 5 rfl rfl rfl ?_
      (try simp only [Act.put, nA, nB, nC])
      refine dP hS 6 rfl rfl ?_
      (try simp only [Act.put, nA, nB, nC])
      first | refine dL1 hS 7 rfl rfl rfl rfl ?_ | refine dL2 hS 7 rfl rfl rfl rfl ?_ | refine dL3 hS 7 rfl rfl rfl ?_ | refine dL4 hS 7 rfl rfl rfl ?_ | refine dL5 hS 7 rfl rfl rfl ?_ | refine dL6 hS 7 rfl rfl rfl ?_ | refine dL7 hS 7 rfl rfl rfl ?_
      (try simp only [Act.put, nA, nB, nC])
      refine dP hS 8 rfl rfl ?_
      (try simp only [Act.put, nA, nB, nC])
      refine dr_done (by kernel_rfl) ?_
      go_wp2_with (fail)
      go_roundw
      case measure => simp [intOf]; omega
      exact ⟨k + 1, by omega, by go_num, hS⟩
    · go_wp2_with (fail)
      go_ret
      exact ⟨rfl, hS.toExt⟩
theorem RW2.atR {S : Nat → Prop} {w : World} {A : Option Addr} {ls : List (List Int)} (h : RW2 ReV S w A ls) {k : Nat} (hk : k < ls.length) : ∃ b o B c, A = some ⟨b, o, none⟩ ∧ S b ∧ w.cell? ⟨b, o + k, none⟩ = some (.slice B (rowOf ls k).length c) ∧ (rowOf ls k).length ≤ c ∧ c ≤ 9223372036854775807 ∧ RI S w B (rowOf ls k) := by
  obtain ⟨vs, h1, h2⟩ := h
  have hv : k < vs.length := by rw [h2.n]; exact hk
  obtain ⟨b, o, e, hs, hc⟩ := h1.row2 hv
  obtain ⟨B, c, hv2, h3, h4, h5⟩ := h2.k k hv hk
  rw [rowOf_eq hk]
  exact ⟨b, o, B, c, e, hs, by rw [hc, hv2], h3, h4, h5⟩
theorem RW2.atC {S : Nat → Prop} {w : World} {A : Option Addr} {ls : List (List Pcl)} (h : RW2 ChV S w A ls) {k : Nat} (hk : k < ls.length) : ∃ b o B c, A = some ⟨b, o, none⟩ ∧ S b ∧ w.cell? ⟨b, o + k, none⟩ = some (.slice B (chOf ls k).length c) ∧ (chOf ls k).length ≤ c ∧ c ≤ 9223372036854775807 ∧ RV S w B (pcs (chOf ls k)) := by
  obtain ⟨vs, h1, h2⟩ := h
  have hv : k < vs.length := by rw [h2.n]; exact hk
  obtain ⟨b, o, e, hs, hc⟩ := h1.row2 hv
  obtain ⟨B, c, hv2, h3, h4, h5⟩ := h2.k k hv hk
  rw [chOf_eq hk]
  exact ⟨b, o, B, c, e, hs, by rw [hc, hv2], h3, h4, h5⟩
theorem pcs_cells {S : Nat → Prop} {w : World} {B : Option Addr} {l : List Pcl} (h : RV S w B (pcs l)) {j : Nat} (hj : j < l.length) : ∃ b o, B = some ⟨b, o, none⟩ ∧ S b ∧ Cells w b (o + j * 2) [.bool l[j].1, .int .i64 l[j].2] := by
  obtain ⟨b, o, e, hs, hc⟩ := h (j * 2) _ (by have := pcs_at hj 0 _ rfl; simpa using this)
  refine ⟨b, o, e, hs, fun i u hu => ?_⟩
  obtain ⟨b', o', e', _, hc'⟩ := h (j * 2 + i) u (pcs_at hj i u hu)
  rw [e] at e'
  injection e' with e'
  injection e' with e1 e2
  subst e1 e2
  rw [Nat.add_assoc]; exact hc'
set_option maxHeartbeats 1600000 in
theorem sameL_eq {S T : Nat → Prop} (A B : Option Addr) (c d : Nat) (ls : List (List Int)) (w0 : World) (ha : RW2 ReV S w0 A ls) (hb : RW2 ReV T w0 B ls) (hl : ls.length ≤ 1000000) (hr : ∀ l ∈ ls, l.length ≤ 1000000) :
    Calls Try.prog 27 #[.slice A ls.length c, .slice B ls.length d] w0 fun e w' => e = .returned (.bool true) ∧ Ext w0 w' := by
  have hS := St.start w0 NoM
  have e2 : ((ls.length : Int) != (ls.length : Int)) = false := by simp
  have HR := Lib.hid hr
  clear hr
  go_enter Try.func27, Try.ntmps27
  go_wp2_with (fail)
  clear e2
  go_loopw [5] (fun i wr => ∃ k : Nat, k ≤ ls.length ∧ i = .int .i64 k ∧ St w0 NoM [] wr) (fun i _ => ls.length - (intOf i).toNat)
  case atStart => exact ⟨0, Nat.zero_le _, rfl, hS⟩
  case round =>
    obtain ⟨k, hk, rfl, hS⟩ := hrel
    by_cases hlt : k < ls.length
    · obtain ⟨b1, o1, B1, c1, rfl, _, hca, _, _, hra⟩ := ha.atR hlt
      obtain ⟨b2, o2, B2, c2, rfl, _, hcb, _, _, hrb⟩ := hb.atR hlt
      have hrl : (rowOf ls k).length ≤ 1000000 := by rw [rowOf_eq hlt]; exact HR.out _ (List.getElem_mem hlt)
      generalize rowOf ls k = l at *
      go_wp2_with (fail)
      refine dr_start0 []  hS (by kernel_rfl) rfl ?_; clear hS; intro w hS
      refine dM hS 0 rfl rfl rfl ?_
      (try simp only [Act.put, nA, nB, nC])
      refine dM hS 1 rfl rfl rfl ?_
      (try simp only [Act.put, nA, nB, nC])
      refine dP hS 2 rfl rfl ?_
      (try simp only [Act.put, nA, nB, nC])
      first | refine dL1 hS 3 rfl rfl rfl rfl ?_ | refine dL2 hS 3 rfl rfl rfl rfl ?_ | refine dL3 hS 3 rfl rfl rfl ?_ | refine dL4 hS 3 rfl rfl rfl ?_ | refine dL5 hS 3 rfl rfl rfl ?_ | refine dL6 hS 3 rfl rfl rfl ?_ | refine dL7 hS 3 rfl rfl rfl ?_
      (try simp only [Act.put, nA, nB, nC])
      refine dM hS 4 rfl rfl rfl ?_
      (try simp only [Act.put, nA, nB, nC])
      refine dM hS 5 rfl rfl rfl ?_
      (try simp only [Act.put, nA, nB, nC])
      refine dP hS 6 rfl rfl ?_
      (try simp only [Act.put, nA, nB, nC])
      first | refine dL1 hS 7 rfl rfl rfl rfl ?_ | refine dL2 hS 7 rfl rfl rfl rfl ?_ | refine dL3 hS 7 rfl rfl rfl ?_ | refine dL4 hS 7 rfl rfl rfl ?_ | refine dL5 hS 7 rfl rfl rfl ?_ | refine dL6 hS 7 rfl rfl rfl ?_ | refine dL7 hS 7 rfl rfl rfl ?_
      (try simp only [Act.put, nA, nB, nC])
      refine dr_one 8 (by kernel_rfl) rfl ?_
      (refine st_call rfl (by kernel_rfl) rfl ?_; go_at_call 21; refine (sameI_eq _ _ _ _ l _ (hra.ext hS.toExt) (hrb.ext hS.toExt) hrl).mono ?_; rintro e w ⟨rfl, hx1⟩; replace hS := hS.ext hx1)
      (try simp only [Act.put, nA, nB, nC])
      refine dr_end hS ?_
      refine dP hS 9 rfl rfl ?_
      (try simp only [Act.put, nA, nB, nC])
      refine dr_done (by kernel_rfl) ?_
      go_wp2_with (fail)
      go_roundw
      case measure => simp [intOf]; omega
      exact ⟨k + 1, by omega, by go_num, hS⟩
    · go_wp2_with (fail)
      go_ret
      exact ⟨rfl, hS.toExt⟩
/-- lists of a state, by their lengths -/
structure SnLen (n m : Nat) (s : Snp) : Prop where
  lv : s.vals.length = n
  lc : s.cnts.length = n
  lh : s.chs.length = m
  lk : s.cut.length = n
  ls : s.saved.length = n
  lo : s.opn.length = m
  lr : s.recs.length = m
  hb : ∀ l ∈ s.chs, l.length ≤ 1000000
  rb : ∀ l ∈ s.recs, l.length ≤ 1000000
theorem SnOk.len {n b : Nat} {s : Snp} (h : SnOk n b s) (hb : b ≤ 1000000) : SnLen n (n * n) s := ⟨h.lv, h.lc, h.lh, h.lk, h.ls, h.lo, h.lr, fun l hl => by have := h.hb l hl; omega, fun l hl => by have := h.rb l hl; omega⟩
theorem SnLen.none : SnLen 0 0 .none := ⟨rfl, rfl, rfl, rfl, rfl, rfl, rfl, by simp [Snp.none], by simp [Snp.none]⟩
theorem sameI_n {S T : Nat → Prop} {A B : Option Addr} {c d n : Nat} {xs : List Int} {w0 : World} (hn : xs.length = n) (ha : RI S w0 A xs) (hb : RI T w0 B xs) (hl : n ≤ 1000000) :
    Calls Try.prog 21 #[.slice A n c, .slice B n d] w0 fun e w' => e = .returned (.bool true) ∧ Ext w0 w' := by subst hn; exact sameI_eq A B c d xs w0 ha hb hl
theorem sameB_n {S T : Nat → Prop} {A B : Option Addr} {c d n : Nat} {bs : List Bool} {w0 : World} (hn : bs.length = n) (ha : RV S w0 A (bools bs)) (hb : RV T w0 B (bools bs)) (hl : n ≤ 1000000) :
    Calls Try.prog 29 #[.slice A n c, .slice B n d] w0 fun e w' => e = .returned (.bool true) ∧ Ext w0 w' := by subst hn; exact sameB_eq A B c d bs w0 ha hb hl
theorem sameL_n {S T : Nat → Prop} {A B : Option Addr} {c d n : Nat} {ls : List (List Int)} {w0 : World} (hn : ls.length = n) (ha : RW2 ReV S w0 A ls) (hb : RW2 ReV T w0 B ls) (hl : n ≤ 1000000) (hr : ∀ l ∈ ls, l.length ≤ 1000000) :
    Calls Try.prog 27 #[.slice A n c, .slice B n d] w0 fun e w' => e = .returned (.bool true) ∧ Ext w0 w' := by subst hn; exact sameL_eq A B c d ls w0 ha hb hl hr
theorem RW2.ext2 {α : Type} {P : (Nat → Prop) → World → Value → α → Prop} {S : Nat → Prop} {w w' : World} {A : Option Addr} {ls : List α} (h : RW2 P S w A ls) (k : Ext w w') (hp : ∀ v l, P S w v l → P S w' v l) : RW2 P S w' A ls := h.into (Into.ofExt k) hp
set_option maxRecDepth 100000 in
set_option maxHeartbeats 6400000 in
theorem same_sn {S T : Nat → Prop} (v u : SV) (s : Snp) (n m : Nat) (w0 : World) (ha : SnAt S w0 v s) (hb : SnAt T w0 u s) (hl : SnLen n m s) (hn : n ≤ 1000) (hm : m ≤ 1000) :
    Calls Try.prog 13 #[v.val n m, u.val n m] w0 fun e w' => e = .returned (.bool true) ∧ Ext w0 w' := by
  have hS := St.start w0 NoM
  have HP := Lib.hid (And.intro ha (And.intro hb hl))
  clear ha hb hl
  obtain ⟨A1, c1, A2, c2, A3, c3, A4, c4, A5, c5, A6, c6, A7, c7⟩ := v
  obtain ⟨B1, d1, B2, d2, B3, d3, B4, d4, B5, d5, B6, d6, B7, d7⟩ := u
  simp only [SV.val, SV.cells] at *
  have e2 : ((m : Int) != (m : Int)) = false := by simp
  go_enter Try.func13, Try.ntmps13
  go_upto_region 1 with (first | (refine oL ?_; (first | refine sL1 hS rfl rfl rfl ?_ | refine sL2 hS rfl rfl rfl ?_ | refine sL3 hS rfl rfl ?_ | refine sL4 hS rfl rfl ?_ | refine sL5 hS rfl rfl ?_ | refine sL6 hS rfl rfl ?_ | refine sL7 hS rfl rfl ?_)) | ((first | (refine oB ?_; first | refine sB1 hS rfl rfl ?_ | refine sB2 hS rfl rfl ?_)); clear hS; first | ((fail_if_success guard_hyp g1); intro g1 w hS) | ((fail_if_success guard_hyp g2); intro g2 w hS) | ((fail_if_success guard_hyp g3); intro g3 w hS) | fail) | fail)
  refine lR ?_
  refine lP rfl ?_
  (try simp only [Act.put, nA, nB, nC])
  (refine ⟨?_⟩; ((first | refine sL1 hS rfl rfl rfl ?_ | refine sL2 hS rfl rfl rfl ?_ | refine sL3 hS rfl rfl ?_ | refine sL4 hS rfl rfl ?_ | refine sL5 hS rfl rfl ?_ | refine sL6 hS rfl rfl ?_ | refine sL7 hS rfl rfl ?_)); refine WL.h ?_)
  (try simp only [Act.put, nA, nB, nC])
  refine lP rfl ?_
  (try simp only [Act.put, nA, nB, nC])
  (refine ⟨?_⟩; ((first | refine sL1 hS rfl rfl rfl ?_ | refine sL2 hS rfl rfl rfl ?_ | refine sL3 hS rfl rfl ?_ | refine sL4 hS rfl rfl ?_ | refine sL5 hS rfl rfl ?_ | refine sL6 hS rfl rfl ?_ | refine sL7 hS rfl rfl ?_)); refine WL.h ?_)
  (try simp only [Act.put, nA, nB, nC])
  (refine ⟨?_⟩; (refine st_call rfl (by kernel_rfl) rfl ?_; go_at_call 21; refine (sameI_n HP.out.2.2.lv (HP.out.1.vals.ext hS.toExt) (HP.out.2.1.vals.ext hS.toExt) (by omega)).mono ?_; rintro e w ⟨rfl, hx1⟩; replace hS := hS.ext hx1); refine WL.h ?_)
  (try simp only [Act.put, nA, nB, nC])
  refine lP rfl ?_
  (try simp only [Act.put, nA, nB, nC])
  refine lM rfl rfl ?_
  (try simp only [Act.put, nA, nB, nC])
  first | refine lQ rfl ?_ | refine lP rfl ?_ | fail
  (try simp only [Act.put, nA, nB, nC])
  first | refine lQ rfl ?_ | (refine ⟨?_⟩; ((first | refine sL1 hS rfl rfl rfl ?_ | refine sL2 hS rfl rfl rfl ?_ | refine sL3 hS rfl rfl ?_ | refine sL4 hS rfl rfl ?_ | refine sL5 hS rfl rfl ?_ | refine sL6 hS rfl rfl ?_ | refine sL7 hS rfl rfl ?_)); refine WL.h ?_) | fail
  (try simp only [Act.put, nA, nB, nC])
  first | refine lQ rfl ?_ | refine lP rfl ?_ | fail
  (try simp only [Act.put, nA, nB, nC])
  first | refine lQ rfl ?_ | (refine ⟨?_⟩; ((first | refine sL1 hS rfl rfl rfl ?_ | refine sL2 hS rfl rfl rfl ?_ | refine sL3 hS rfl rfl ?_ | refine sL4 hS rfl rfl ?_ | refine sL5 hS rfl rfl ?_ | refine sL6 hS rfl rfl ?_ | refine sL7 hS rfl rfl ?_)); refine WL.h ?_) | fail
  (try simp only [Act.put, nA, nB, nC])
  first | refine lQ rfl ?_ | (refine ⟨?_⟩; (refine st_call rfl (by kernel_rfl) rfl ?_; go_at_call 21; refine (sameI_n HP.out.2.2.lc (HP.out.1.cnts.ext hS.toExt) (HP.out.2.1.cnts.ext hS.toExt) (by omega)).mono ?_; rintro e w ⟨rfl, hx1⟩; replace hS := hS.ext hx1); refine WL.h ?_) | fail
  (try simp only [Act.put, nA, nB, nC])
  first | refine lQ rfl ?_ | refine lP rfl ?_ | fail
  (try simp only [Act.put, nA, nB, nC])
  refine lP rfl ?_
  (try simp only [Act.put, nA, nB, nC])
  refine lM rfl rfl ?_
  (try simp only [Act.put, nA, nB, nC])
  first | refine lQ rfl ?_ | refine lP rfl ?_ | fail
  (try simp only [Act.put, nA, nB, nC])
  first | refine lQ rfl ?_ | (refine ⟨?_⟩; ((first | refine sL1 hS rfl rfl rfl ?_ | refine sL2 hS rfl rfl rfl ?_ | refine sL3 hS rfl rfl ?_ | refine sL4 hS rfl rfl ?_ | refine sL5 hS rfl rfl ?_ | refine sL6 hS rfl rfl ?_ | refine sL7 hS rfl rfl ?_)); refine WL.h ?_) | fail
  (try simp only [Act.put, nA, nB, nC])
  first | refine lQ rfl ?_ | refine lP rfl ?_ | fail
  (try simp only [Act.put, nA, nB, nC])
  first | refine lQ rfl ?_ | (refine ⟨?_⟩; ((first | refine sL1 hS rfl rfl rfl ?_ | refine sL2 hS rfl rfl rfl ?_ | refine sL3 hS rfl rfl ?_ | refine sL4 hS rfl rfl ?_ | refine sL5 hS rfl rfl ?_ | refine sL6 hS rfl rfl ?_ | refine sL7 hS rfl rfl ?_)); refine WL.h ?_) | fail
  (try simp only [Act.put, nA, nB, nC])
  first | refine lQ rfl ?_ | (refine ⟨?_⟩; (refine st_call rfl (by kernel_rfl) rfl ?_; go_at_call 21; refine (sameI_n HP.out.2.2.lk (HP.out.1.cut.ext hS.toExt) (HP.out.2.1.cut.ext hS.toExt) (by omega)).mono ?_; rintro e w ⟨rfl, hx1⟩; replace hS := hS.ext hx1); refine WL.h ?_) | fail
  (try simp only [Act.put, nA, nB, nC])
  first | refine lQ rfl ?_ | refine lP rfl ?_ | fail
  (try simp only [Act.put, nA, nB, nC])
  refine lP rfl ?_
  (try simp only [Act.put, nA, nB, nC])
  refine lM rfl rfl ?_
  (try simp only [Act.put, nA, nB, nC])
  first | refine lQ rfl ?_ | refine lP rfl ?_ | fail
  (try simp only [Act.put, nA, nB, nC])
  first | refine lQ rfl ?_ | (refine ⟨?_⟩; ((first | refine sL1 hS rfl rfl rfl ?_ | refine sL2 hS rfl rfl rfl ?_ | refine sL3 hS rfl rfl ?_ | refine sL4 hS rfl rfl ?_ | refine sL5 hS rfl rfl ?_ | refine sL6 hS rfl rfl ?_ | refine sL7 hS rfl rfl ?_)); refine WL.h ?_) | fail
  (try simp only [Act.put, nA, nB, nC])
  first | refine lQ rfl ?_ | refine lP rfl ?_ | fail
  (try simp only [Act.put, nA, nB, nC])
  first | refine lQ rfl ?_ | (refine ⟨?_⟩; ((first | refine sL1 hS rfl rfl rfl ?_ | refine sL2 hS rfl rfl rfl ?_ | refine sL3 hS rfl rfl ?_ | refine sL4 hS rfl rfl ?_ | refine sL5 hS rfl rfl ?_ | refine sL6 hS rfl rfl ?_ | refine sL7 hS rfl rfl ?_)); refine WL.h ?_) | fail
  (try simp only [Act.put, nA, nB, nC])
  first | refine lQ rfl ?_ | (refine ⟨?_⟩; (refine st_call rfl (by kernel_rfl) rfl ?_; go_at_call 21; refine (sameI_n HP.out.2.2.ls (HP.out.1.saved.ext hS.toExt) (HP.out.2.1.saved.ext hS.toExt) (by omega)).mono ?_; rintro e w ⟨rfl, hx1⟩; replace hS := hS.ext hx1); refine WL.h ?_) | fail
  (try simp only [Act.put, nA, nB, nC])
  first | refine lQ rfl ?_ | refine lP rfl ?_ | fail
  (try simp only [Act.put, nA, nB, nC])
  refine lP rfl ?_
  (try simp only [Act.put, nA, nB, nC])
  refine lM rfl rfl ?_
  (try simp only [Act.put, nA, nB, nC])
  first | refine lQ rfl ?_ | refine lP rfl ?_ | fail
  (try simp only [Act.put, nA, nB, nC])
  first | refine lQ rfl ?_ | (refine ⟨?_⟩; ((first | refine sL1 hS rfl rfl rfl ?_ | refine sL2 hS rfl rfl rfl ?_ | refine sL3 hS rfl rfl ?_ | refine sL4 hS rfl rfl ?_ | refine sL5 hS rfl rfl ?_ | refine sL6 hS rfl rfl ?_ | refine sL7 hS rfl rfl ?_)); refine WL.h ?_) | fail
  (try simp only [Act.put, nA, nB, nC])
  first | refine lQ rfl ?_ | refine lP rfl ?_ | fail
  (try simp only [Act.put, nA, nB, nC])
  first | refine lQ rfl ?_ | (refine ⟨?_⟩; ((first | refine sL1 hS rfl rfl rfl ?_ | refine sL2 hS rfl rfl rfl ?_ | refine sL3 hS rfl rfl ?_ | refine sL4 hS rfl rfl ?_ | refine sL5 hS rfl rfl ?_ | refine sL6 hS rfl rfl ?_ | refine sL7 hS rfl rfl ?_)); refine WL.h ?_) | fail
  (try simp only [Act.put, nA, nB, nC])
  first | refine lQ rfl ?_ | (refine ⟨?_⟩; (refine st_call rfl (by kernel_rfl) rfl ?_; go_at_call 29; refine (sameB_n HP.out.2.2.lo (HP.out.1.opn.ext hS.toExt) (HP.out.2.1.opn.ext hS.toExt) (by omega)).mono ?_; rintro e w ⟨rfl, hx1⟩; replace hS := hS.ext hx1); refine WL.h ?_) | fail
  (try simp only [Act.put, nA, nB, nC])
  first | refine lQ rfl ?_ | refine lP rfl ?_ | fail
  (try simp only [Act.put, nA, nB, nC])
  refine lP rfl ?_
  (try simp only [Act.put, nA, nB, nC])
  refine lM rfl rfl ?_
  (try simp only [Act.put, nA, nB, nC])
  first | refine lQ rfl ?_ | refine lP rfl ?_ | fail
  (try simp only [Act.put, nA, nB, nC])
  first | refine lQ rfl ?_ | (refine ⟨?_⟩; ((first | refine sL1 hS rfl rfl rfl ?_ | refine sL2 hS rfl rfl rfl ?_ | refine sL3 hS rfl rfl ?_ | refine sL4 hS rfl rfl ?_ | refine sL5 hS rfl rfl ?_ | refine sL6 hS rfl rfl ?_ | refine sL7 hS rfl rfl ?_)); refine WL.h ?_) | fail
  (try simp only [Act.put, nA, nB, nC])
  first | refine lQ rfl ?_ | refine lP rfl ?_ | fail
  (try simp only [Act.put, nA, nB, nC])
  first | refine lQ rfl ?_ | (refine ⟨?_⟩; ((first | refine sL1 hS rfl rfl rfl ?_ | refine sL2 hS rfl rfl rfl ?_ | refine sL3 hS rfl rfl ?_ | refine sL4 hS rfl rfl ?_ | refine sL5 hS rfl rfl ?_ | refine sL6 hS rfl rfl ?_ | refine sL7 hS rfl rfl ?_)); refine WL.h ?_) | fail
  (try simp only [Act.put, nA, nB, nC])
  first | refine lQ rfl ?_ | (refine ⟨?_⟩; (refine st_call rfl (by kernel_rfl) rfl ?_; go_at_call 27; refine (sameL_n HP.out.2.2.lr (HP.out.1.ext hS.toExt).recs (HP.out.2.1.ext hS.toExt).recs (by omega) HP.out.2.2.rb).mono ?_; rintro e w ⟨rfl, hx1⟩; replace hS := hS.ext hx1); refine WL.h ?_) | fail
  (try simp only [Act.put, nA, nB, nC])
  first | refine lQ rfl ?_ | refine lP rfl ?_ | fail
  (try simp only [Act.put, nA, nB, nC])
  refine lP rfl ?_
  (try simp only [Act.put, nA, nB, nC])
  refine lM rfl rfl ?_
  (try simp only [Act.put, nA, nB, nC])
  first | refine lQ rfl ?_ | refine lP rfl ?_ | fail
  (try simp only [Act.put, nA, nB, nC])
  first | refine lQ rfl ?_ | (refine ⟨?_⟩; ((first | refine sL1 hS rfl rfl rfl ?_ | refine sL2 hS rfl rfl rfl ?_ | refine sL3 hS rfl rfl ?_ | refine sL4 hS rfl rfl ?_ | refine sL5 hS rfl rfl ?_ | refine sL6 hS rfl rfl ?_ | refine sL7 hS rfl rfl ?_)); refine WL.h ?_) | fail
  (try simp only [Act.put, nA, nB, nC])
  first | refine lQ rfl ?_ | refine lP rfl ?_ | fail
  (try simp only [Act.put, nA, nB, nC])
  first | refine lQ rfl ?_ | refine lP rfl ?_ | fail
  (try simp only [Act.put, nA, nB, nC])
  first | refine lQ rfl ?_ | (refine ⟨?_⟩; ((first | refine sL1 hS rfl rfl rfl ?_ | refine sL2 hS rfl rfl rfl ?_ | refine sL3 hS rfl rfl ?_ | refine sL4 hS rfl rfl ?_ | refine sL5 hS rfl rfl ?_ | refine sL6 hS rfl rfl ?_ | refine sL7 hS rfl rfl ?_)); refine WL.h ?_) | fail
  (try simp only [Act.put, nA, nB, nC])
  first | refine lQ rfl ?_ | refine lP rfl ?_ | fail
  (try simp only [Act.put, nA, nB, nC])
  first | refine lQ rfl ?_ | refine lP rfl ?_ | fail
  (try simp only [Act.put, nA, nB, nC])
  refine lP rfl ?_
  (try simp only [Act.put, nA, nB, nC])
  refine lZ ?_
  clear e2
  go_wp2_with (first | (refine oL ?_; (first | refine sL1 hS rfl rfl rfl ?_ | refine sL2 hS rfl rfl rfl ?_ | refine sL3 hS rfl rfl ?_ | refine sL4 hS rfl rfl ?_ | refine sL5 hS rfl rfl ?_ | refine sL6 hS rfl rfl ?_ | refine sL7 hS rfl rfl ?_)) | ((first | (refine oB ?_; first | refine sB1 hS rfl rfl ?_ | refine sB2 hS rfl rfl ?_)); clear hS; first | ((fail_if_success guard_hyp g1); intro g1 w hS) | ((fail_if_success guard_hyp g2); intro g2 w hS) | ((fail_if_success guard_hyp g3); intro g3 w hS) | fail) | fail)
  go_loopw [5] (fun i wr => ∃ k : Nat, k ≤ m ∧ i = .int .i64 k ∧ St w0 NoM [blk g2 [.slice B1 n d1, .slice B2 n d2, .slice B3 m d3, .slice B4 n d4, .slice B5 n d5, .slice B6 m d6, .slice B7 m d7] 28, blk g1 [.slice A1 n c1, .slice A2 n c2, .slice A3 m c3, .slice A4 n c4, .slice A5 n c5, .slice A6 m c6, .slice A7 m c7] 28] wr) (fun i _ => m - (intOf i).toNat)
  case atStart => exact ⟨0, Nat.zero_le _, rfl, hS⟩
  case round =>
    obtain ⟨k, hk, rfl, hS⟩ := hrel
    by_cases hlt : k < m
    · have hlc : k < s.chs.length := by rw [HP.out.2.2.lh]; exact hlt
      obtain ⟨b1, o1, C1, f1, e1, _, hca, _, _, hra⟩ := HP.out.1.chs.atC hlc
      obtain ⟨b2, o2, C2, f2, e3, _, hcb, _, _, hrb⟩ := HP.out.2.1.chs.atC hlc
      simp only at e1 e3
      subst e1
      subst e3
      have hrl : (chOf s.chs k).length ≤ 1000000 := by rw [chOf_eq hlc]; exact HP.out.2.2.hb _ (List.getElem_mem hlc)
      have HRA := Lib.hid (And.intro hra hrb)
      clear hra hrb hlc
      generalize chOf s.chs k = l at *
      have hkm : (k : Int) < m := by omega
      have e4 : ((l.length : Int) != (l.length : Int)) = false := by simp
      go_wp2_with (first | (refine oL ?_; (first | refine sL1 hS rfl rfl rfl ?_ | refine sL2 hS rfl rfl rfl ?_ | refine sL3 hS rfl rfl ?_ | refine sL4 hS rfl rfl ?_ | refine sL5 hS rfl rfl ?_ | refine sL6 hS rfl rfl ?_ | refine sL7 hS rfl rfl ?_)) | ((first | (refine oB ?_; first | refine sB1 hS rfl rfl ?_ | refine sB2 hS rfl rfl ?_)); clear hS; first | ((fail_if_success guard_hyp g1); intro g1 w hS) | ((fail_if_success guard_hyp g2); intro g2 w hS) | ((fail_if_success guard_hyp g3); intro g3 w hS) | fail) | fail)
      refine dr_start0 []  hS (by kernel_rfl) rfl ?_; clear hS; intro w hS
      refine dP hS 0 rfl rfl ?_
      (try simp only [Act.put, nA, nB, nC])
      first | refine dL1 hS 1 rfl rfl rfl rfl ?_ | refine dL2 hS 1 rfl rfl rfl rfl ?_ | refine dL3 hS 1 rfl rfl rfl ?_ | refine dL4 hS 1 rfl rfl rfl ?_ | refine dL5 hS 1 rfl rfl rfl ?_ | refine dL6 hS 1 rfl rfl rfl ?_ | refine dL7 hS 1 rfl rfl rfl ?_
      (try simp only [Act.put, nA, nB, nC])
      refine dM hS 2 rfl rfl rfl ?_
      (try simp only [Act.put, nA, nB, nC])
      refine dP hS 3 rfl rfl ?_
      (try simp only [Act.put, nA, nB, nC])
      first | refine dL1 hS 4 rfl rfl rfl rfl ?_ | refine dL2 hS 4 rfl rfl rfl rfl ?_ | refine dL3 hS 4 rfl rfl rfl ?_ | refine dL4 hS 4 rfl rfl rfl ?_ | refine dL5 hS 4 rfl rfl rfl ?_ | refine dL6 hS 4 rfl rfl rfl ?_ | refine dL7 hS 4 rfl rfl rfl ?_
      (try simp only [Act.put, nA, nB, nC])
      refine dP hS 5 rfl rfl ?_
      (try simp only [Act.put, nA, nB, nC])
      refine dP hS 6 rfl rfl ?_
      (try simp only [Act.put, nA, nB, nC])
      first | refine dL1 hS 7 rfl rfl rfl rfl ?_ | refine dL2 hS 7 rfl rfl rfl rfl ?_ | refine dL3 hS 7 rfl rfl rfl ?_ | refine dL4 hS 7 rfl rfl rfl ?_ | refine dL5 hS 7 rfl rfl rfl ?_ | refine dL6 hS 7 rfl rfl rfl ?_ | refine dL7 hS 7 rfl rfl rfl ?_
      (try simp only [Act.put, nA, nB, nC])
      refine dM hS 8 rfl rfl rfl ?_
      (try simp only [Act.put, nA, nB, nC])
      refine dP hS 9 rfl rfl ?_
      (try simp only [Act.put, nA, nB, nC])
      first | refine dL1 hS 10 rfl rfl rfl rfl ?_ | refine dL2 hS 10 rfl rfl rfl rfl ?_ | refine dL3 hS 10 rfl rfl rfl ?_ | refine dL4 hS 10 rfl rfl rfl ?_ | refine dL5 hS 10 rfl rfl rfl ?_ | refine dL6 hS 10 rfl rfl rfl ?_ | refine dL7 hS 10 rfl rfl rfl ?_
      (try simp only [Act.put, nA, nB, nC])
      refine dP hS 11 rfl rfl ?_
      (try simp only [Act.put, nA, nB, nC])
      refine dP hS 12 rfl rfl ?_
      (try simp only [Act.put, nA, nB, nC])
      refine dr_done (by kernel_rfl) ?_
      clear e4
      go_wp2_with (first | (refine oL ?_; (first | refine sL1 hS rfl rfl rfl ?_ | refine sL2 hS rfl rfl rfl ?_ | refine sL3 hS rfl rfl ?_ | refine sL4 hS rfl rfl ?_ | refine sL5 hS rfl rfl ?_ | refine sL6 hS rfl rfl ?_ | refine sL7 hS rfl rfl ?_)) | ((first | (refine oB ?_; first | refine sB1 hS rfl rfl ?_ | refine sB2 hS rfl rfl ?_)); clear hS; first | ((fail_if_success guard_hyp g1); intro g1 w hS) | ((fail_if_success guard_hyp g2); intro g2 w hS) | ((fail_if_success guard_hyp g3); intro g3 w hS) | fail) | fail)
      go_loopw [6] (fun i wr => ∃ j : Nat, j ≤ l.length ∧ i = .int .i64 j ∧ St w0 NoM [blk g2 [.slice B1 n d1, .slice B2 n d2, .slice (some ⟨b2, o2, none⟩) m d3, .slice B4 n d4, .slice B5 n d5, .slice B6 m d6, .slice B7 m d7] 28, blk g1 [.slice A1 n c1, .slice A2 n c2, .slice (some ⟨b1, o1, none⟩) m c3, .slice A4 n c4, .slice A5 n c5, .slice A6 m c6, .slice A7 m c7] 28] wr) (fun i _ => l.length - (intOf i).toNat)
      case atStart => exact ⟨0, Nat.zero_le _, rfl, hS⟩
      case round =>
        obtain ⟨j, hj, rfl, hS⟩ := hrel
        by_cases hjl : j < l.length
        · obtain ⟨b3, o3, rfl, _, hc3⟩ := pcs_cells HRA.out.1 hjl
          obtain ⟨b4, o4, rfl, _, hc4⟩ := pcs_cells HRA.out.2 hjl
          generalize l[j] = x at *
          obtain ⟨mk, xv⟩ := x
          simp only at hc3 hc4
          have hjl' : (j : Int) < l.length := by omega
          go_wp2_with (first | (refine oL ?_; (first | refine sL1 hS rfl rfl rfl ?_ | refine sL2 hS rfl rfl rfl ?_ | refine sL3 hS rfl rfl ?_ | refine sL4 hS rfl rfl ?_ | refine sL5 hS rfl rfl ?_ | refine sL6 hS rfl rfl ?_ | refine sL7 hS rfl rfl ?_)) | ((first | (refine oB ?_; first | refine sB1 hS rfl rfl ?_ | refine sB2 hS rfl rfl ?_)); clear hS; first | ((fail_if_success guard_hyp g1); intro g1 w hS) | ((fail_if_success guard_hyp g2); intro g2 w hS) | ((fail_if_success guard_hyp g3); intro g3 w hS) | fail) | fail)
          refine dr_start0 []  hS (by kernel_rfl) rfl ?_; clear hS; intro w hS
          refine dP hS 0 rfl rfl ?_
          (try simp only [Act.put, nA, nB, nC])
          first | refine dL1 hS 1 rfl rfl rfl rfl ?_ | refine dL2 hS 1 rfl rfl rfl rfl ?_ | refine dL3 hS 1 rfl rfl rfl ?_ | refine dL4 hS 1 rfl rfl rfl ?_ | refine dL5 hS 1 rfl rfl rfl ?_ | refine dL6 hS 1 rfl rfl rfl ?_ | refine dL7 hS 1 rfl rfl rfl ?_
          (try simp only [Act.put, nA, nB, nC])
          refine dM hS 2 rfl rfl rfl ?_
          (try simp only [Act.put, nA, nB, nC])
          refine dP hS 3 rfl rfl ?_
          (try simp only [Act.put, nA, nB, nC])
          first | refine dL1 hS 4 rfl rfl rfl rfl ?_ | refine dL2 hS 4 rfl rfl rfl rfl ?_ | refine dL3 hS 4 rfl rfl rfl ?_ | refine dL4 hS 4 rfl rfl rfl ?_ | refine dL5 hS 4 rfl rfl rfl ?_ | refine dL6 hS 4 rfl rfl rfl ?_ | refine dL7 hS 4 rfl rfl rfl ?_
          (try simp only [Act.put, nA, nB, nC])
          refine dM hS 5 rfl rfl rfl ?_
          (try simp only [Act.put, nA, nB, nC])
          refine dP hS 6 rfl rfl ?_
          (try simp only [Act.put, nA, nB, nC])
          first | refine dL1 hS 7 rfl rfl rfl rfl ?_ | refine dL2 hS 7 rfl rfl rfl rfl ?_ | refine dL3 hS 7 rfl rfl rfl ?_ | refine dL4 hS 7 rfl rfl rfl ?_ | refine dL5 hS 7 rfl rfl rfl ?_ | refine dL6 hS 7 rfl rfl rfl ?_ | refine dL7 hS 7 rfl rfl rfl ?_
          (try simp only [Act.put, nA, nB, nC])
          refine dP hS 8 rfl rfl ?_
          (try simp only [Act.put, nA, nB, nC])
          first | refine dL1 hS 9 rfl rfl rfl rfl ?_ | refine dL2 hS 9 rfl rfl rfl rfl ?_ | refine dL3 hS 9 rfl rfl rfl ?_ | refine dL4 hS 9 rfl rfl rfl ?_ | refine dL5 hS 9 rfl rfl rfl ?_ | refine dL6 hS 9 rfl rfl rfl ?_ | refine dL7 hS 9 rfl rfl rfl ?_
          (try simp only [Act.put, nA, nB, nC])
          refine dM hS 10 rfl rfl rfl ?_
          (try simp only [Act.put, nA, nB, nC])
          refine dP hS 11 rfl rfl ?_
          (try simp only [Act.put, nA, nB, nC])
          first | refine dL1 hS 12 rfl rfl rfl rfl ?_ | refine dL2 hS 12 rfl rfl rfl rfl ?_ | refine dL3 hS 12 rfl rfl rfl ?_ | refine dL4 hS 12 rfl rfl rfl ?_ | refine dL5 hS 12 rfl rfl rfl ?_ | refine dL6 hS 12 rfl rfl rfl ?_ | refine dL7 hS 12 rfl rfl rfl ?_
          (try simp only [Act.put, nA, nB, nC])
          refine dM hS 13 rfl rfl rfl ?_
          (try simp only [Act.put, nA, nB, nC])
          refine dP hS 14 rfl rfl ?_
          (try simp only [Act.put, nA, nB, nC])
          first | refine dL1 hS 15 rfl rfl rfl rfl ?_ | refine dL2 hS 15 rfl rfl rfl rfl ?_ | refine dL3 hS 15 rfl rfl rfl ?_ | refine dL4 hS 15 rfl rfl rfl ?_ | refine dL5 hS 15 rfl rfl rfl ?_ | refine dL6 hS 15 rfl rfl rfl ?_ | refine dL7 hS 15 rfl rfl rfl ?_
          (try simp only [Act.put, nA, nB, nC])
          refine dP hS 16 rfl rfl ?_
          (try simp only [Act.put, nA, nB, nC])
          refine dr_done (by kernel_rfl) ?_
          go_wp2_with (first | (refine oL ?_; (first | refine sL1 hS rfl rfl rfl ?_ | refine sL2 hS rfl rfl rfl ?_ | refine sL3 hS rfl rfl ?_ | refine sL4 hS rfl rfl ?_ | refine sL5 hS rfl rfl ?_ | refine sL6 hS rfl rfl ?_ | refine sL7 hS rfl rfl ?_)) | ((first | (refine oB ?_; first | refine sB1 hS rfl rfl ?_ | refine sB2 hS rfl rfl ?_)); clear hS; first | ((fail_if_success guard_hyp g1); intro g1 w hS) | ((fail_if_success guard_hyp g2); intro g2 w hS) | ((fail_if_success guard_hyp g3); intro g3 w hS) | fail) | fail)
          go_roundw
          case measure => simp [intOf]; omega
          exact ⟨j + 1, by omega, by go_num, hS⟩
        · go_wp2_with (first | (refine oL ?_; (first | refine sL1 hS rfl rfl rfl ?_ | refine sL2 hS rfl rfl rfl ?_ | refine sL3 hS rfl rfl ?_ | refine sL4 hS rfl rfl ?_ | refine sL5 hS rfl rfl ?_ | refine sL6 hS rfl rfl ?_ | refine sL7 hS rfl rfl ?_)) | ((first | (refine oB ?_; first | refine sB1 hS rfl rfl ?_ | refine sB2 hS rfl rfl ?_)); clear hS; first | ((fail_if_success guard_hyp g1); intro g1 w hS) | ((fail_if_success guard_hyp g2); intro g2 w hS) | ((fail_if_success guard_hyp g3); intro g3 w hS) | fail) | fail)
          go_roundw
          case measure => simp [intOf]; omega
          exact ⟨k + 1, by omega, by go_num, hS⟩
    · go_wp2_with (first | (refine oL ?_; (first | refine sL1 hS rfl rfl rfl ?_ | refine sL2 hS rfl rfl rfl ?_ | refine sL3 hS rfl rfl ?_ | refine sL4 hS rfl rfl ?_ | refine sL5 hS rfl rfl ?_ | refine sL6 hS rfl rfl ?_ | refine sL7 hS rfl rfl ?_)) | ((first | (refine oB ?_; first | refine sB1 hS rfl rfl ?_ | refine sB2 hS rfl rfl ?_)); clear hS; first | ((fail_if_success guard_hyp g1); intro g1 w hS) | ((fail_if_success guard_hyp g2); intro g2 w hS) | ((fail_if_success guard_hyp g3); intro g3 w hS) | fail) | fail)
      go_ret
      exact ⟨rfl, hS.toExt⟩
end Go.Proofs.Ytkaofbjppibdkaa
