/- numbers and Received, for the laws of chapter 19. Conditions: the pattern is good and lies in memory. -/
import Derived.Test.YtkflmichekpfbaaGg
namespace Go.Proofs.Ytkflmichekpfbaa
open Go.RowKit
set_option linter.unusedVariables false
set_option linter.unusedSimpArgs false
set_option linter.unusedSectionVars false

/-- the numbers that choices give: one for each row -/
def numL (r : List Int) : List (List Int) → List Int
  | [] => []
  | l :: ls => ((l.length : Int) - (nxt r (l.length + 1) : Int)) :: numL r.tail ls
theorem numL_length : ∀ (ls : List (List Int)) (r : List Int), (numL r ls).length = ls.length
  | [], _ => rfl
  | l :: ls, r => by simp [numL, numL_length ls r.tail]
theorem numL_ok : ∀ (ls : List (List Int)) (r : List Int) (k : Nat), k < ls.length → 0 ≤ nth (numL r ls) k ∧ nth (numL r ls) k ≤ (rowOf ls k).length
  | [], r, k, h => by simp at h
  | l :: ls, r, 0, _ => by
    have := nxt_lt r (n := l.length + 1) (by omega)
    simp [numL, nth, rowOf]; omega
  | l :: ls, r, k + 1, h => by
    have := numL_ok ls r.tail k (by simpa using h)
    simpa [numL, nth, rowOf] using this
theorem numL_snoc : ∀ (ls : List (List Int)) (l : List Int) (r : List Int), numL r (ls ++ [l]) = numL r ls ++ [((l.length : Int) - (nxt (r.drop ls.length) (l.length + 1) : Int))]
  | [], l, r => by simp [numL]
  | x :: ls, l, r => by simp [numL, numL_snoc ls l r.tail, List.drop_tail]
set_option maxRecDepth 100000 in
set_option maxHeartbeats 3200000 in
theorem numbers_any {S : Nat → Prop} (g : Nat) (κ : CK) (r : List Int) (A1 A2 A3 : Option Addr) (c1 c2 c3 n1 n3 : Nat) (ck : List (List Int)) (w0 : World) (hc : CdsAt w0 g κ r) (h2 : RR S w0 A2 ck) (hS0 : ∀ k, S k → k ≠ g) (hn : ck.length ≤ 5) (hl : ∀ q, q < ck.length → (rowOf ck q).length ≤ 100) :
    Calls Try.prog 48 #[.pointer (some ⟨g, 0, none⟩), .agg #[.slice A1 n1 c1, .slice A2 ck.length c2, .slice A3 n3 c3]] w0 fun e w' => ∃ L c r', e = .returned (.slice L ck.length c) ∧ w'.ownsRow w0.heap.size 3 1 (.slice L ck.length c) ck.length (ints (numL r ck)) ∧ CdsAt w' g κ r' ∧ Keep (fun k => k ≠ g) w0 w' := by
  have hS := St.startC hc
  clear hc
  go_enter Try.func48, Try.ntmps48
  go_wp2_with (first | (refine oL ?_; (first | refine sL1 hS rfl rfl rfl ?_ | refine sL2 hS rfl rfl rfl ?_ | refine sL3 hS rfl rfl ?_ | refine sL4 hS rfl rfl ?_ | refine sL5 hS rfl rfl ?_ | refine sL6 hS rfl rfl ?_ | refine sL7 hS rfl rfl ?_)) | ((first | (refine oB ?_; first | refine sB1 hS rfl rfl ?_ | refine sB2 hS rfl rfl ?_)); clear hS; first | ((fail_if_success guard_hyp g1); intro g1 w hS) | ((fail_if_success guard_hyp g2); intro g2 w hS) | ((fail_if_success guard_hyp g3); intro g3 w hS) | fail) | fail)
  go_loopw [5, 10] (fun s5 s10 wr => ∃ (k : Nat) (L : Option Addr) (cl : Nat) (zs : List Int), k ≤ ck.length ∧ s10 = .int .i64 k ∧ s5 = .slice L zs.length cl ∧ Hid (zs = numL r (ck.take k)) ∧ zs.length = k ∧ St w0 (fun k => k = g) [irow 3 L cl zs, cds g κ (r.drop k), blk g1 [.slice A1 n1 c1, .slice A2 ck.length c2, .slice A3 n3 c3] 28] wr) (fun _ s10 _ => ck.length - (intOf s10).toNat)
  case atStart => exact ⟨0, none, 0, [], by omega, rfl, rfl, Lib.hid (by simp [numL]), rfl, St.addNil (by simpa using hS.re) _ _⟩
  case round =>
    obtain ⟨k, L, cl, zs, hk, rfl, rfl, HZ, hzk, hS⟩ := hrel
    by_cases hlt : k < ck.length
    · obtain ⟨b2, o2, B, cB, rfl, hsb, hcb, _, _, hrb⟩ := h2.atS hlt
      have hrl := hl k hlt
      have hbg := hS0 b2 hsb
      have HT := Lib.hid (show ck.take (k + 1) = ck.take k ++ [rowOf ck k] by rw [List.take_succ_eq_append_getElem hlt, rowOf_eq hlt])
      have HTL := Lib.hid (show (ck.take k).length = k by simp; omega)
      rw [← rowOf_eq hlt] at hcb hrb
      have HZK := Lib.hid hzk
      have hzb : zs.length ≤ 5 := by omega
      clear hzk
      generalize rowOf ck k = l at *
      go_wp2_with (first | (refine oL ?_; (first | refine sL1 hS rfl rfl rfl ?_ | refine sL2 hS rfl rfl rfl ?_ | refine sL3 hS rfl rfl ?_ | refine sL4 hS rfl rfl ?_ | refine sL5 hS rfl rfl ?_ | refine sL6 hS rfl rfl ?_ | refine sL7 hS rfl rfl ?_)) | ((first | (refine oB ?_; first | refine sB1 hS rfl rfl ?_ | refine sB2 hS rfl rfl ?_)); clear hS; first | ((fail_if_success guard_hyp g1); intro g1 w hS) | ((fail_if_success guard_hyp g2); intro g2 w hS) | ((fail_if_success guard_hyp g3); intro g3 w hS) | fail) | fail)
      refine dr_start2 [] 0 0 hS (by kernel_rfl) rfl ?_; clear hS; intro w hS
      refine dM hS 0 rfl rfl rfl ?_
      (try simp only [Act.put, nA, nB, nC])
      refine dP hS 1 rfl rfl ?_
      (try simp only [Act.put, nA, nB, nC])
      first | refine dL1 hS 2 rfl rfl rfl rfl ?_ | refine dL2 hS 2 rfl rfl rfl rfl ?_ | refine dL3 hS 2 rfl rfl rfl ?_ | refine dL4 hS 2 rfl rfl rfl ?_ | refine dL5 hS 2 rfl rfl rfl ?_ | refine dL6 hS 2 rfl rfl rfl ?_ | refine dL7 hS 2 rfl rfl rfl ?_
      (try simp only [Act.put, nA, nB, nC])
      refine dM hS 3 rfl rfl rfl ?_
      (try simp only [Act.put, nA, nB, nC])
      refine dP hS 4 rfl rfl ?_
      (try simp only [Act.put, nA, nB, nC])
      first | refine dL1 hS 5 rfl rfl rfl rfl ?_ | refine dL2 hS 5 rfl rfl rfl rfl ?_ | refine dL3 hS 5 rfl rfl rfl ?_ | refine dL4 hS 5 rfl rfl rfl ?_ | refine dL5 hS 5 rfl rfl rfl ?_ | refine dL6 hS 5 rfl rfl rfl ?_ | refine dL7 hS 5 rfl rfl rfl ?_
      (try simp only [Act.put, nA, nB, nC])
      refine dP hS 6 rfl rfl ?_
      (try simp only [Act.put, nA, nB, nC])
      refine dM hS 7 rfl rfl rfl ?_
      (try simp only [Act.put, nA, nB, nC])
      refine dP hS 8 rfl rfl ?_
      (try simp only [Act.put, nA, nB, nC])
      first | refine dL1 hS 9 rfl rfl rfl rfl ?_ | refine dL2 hS 9 rfl rfl rfl rfl ?_ | refine dL3 hS 9 rfl rfl rfl ?_ | refine dL4 hS 9 rfl rfl rfl ?_ | refine dL5 hS 9 rfl rfl rfl ?_ | refine dL6 hS 9 rfl rfl rfl ?_ | refine dL7 hS 9 rfl rfl rfl ?_
      (try simp only [Act.put, nA, nB, nC])
      refine dM hS 10 rfl rfl rfl ?_
      (try simp only [Act.put, nA, nB, nC])
      refine dP hS 11 rfl rfl ?_
      (try simp only [Act.put, nA, nB, nC])
      first | refine dL1 hS 12 rfl rfl rfl rfl ?_ | refine dL2 hS 12 rfl rfl rfl rfl ?_ | refine dL3 hS 12 rfl rfl rfl ?_ | refine dL4 hS 12 rfl rfl rfl ?_ | refine dL5 hS 12 rfl rfl rfl ?_ | refine dL6 hS 12 rfl rfl rfl ?_ | refine dL7 hS 12 rfl rfl rfl ?_
      (try simp only [Act.put, nA, nB, nC])
      refine dP hS 13 rfl rfl ?_
      (try simp only [Act.put, nA, nB, nC])
      refine dP hS 14 rfl rfl ?_
      (try simp only [Act.put, nA, nB, nC])
      refine dr_one 15 (by kernel_rfl) rfl ?_
      (refine st_call rfl (by kernel_rfl) rfl ?_; go_at_call 59; refine (next_z (l.length + 1) hS (by simp) (by omega) (by omega)).mono ?_; rintro e w ⟨rfl, hS1⟩; clear hS; have hS := hS1; clear hS1; have hnx := nxt_lt (r.drop k) (n := l.length + 1) (by omega); have HNX := Lib.hid (Eq.refl (nxt (r.drop k) (l.length + 1))); generalize hzz : nxt (r.drop k) (l.length + 1) = z at *)
      (try simp only [Act.put, nA, nB, nC])
      refine dr_end hS ?_
      refine dP hS 16 rfl rfl ?_
      (try simp only [Act.put, nA, nB, nC])
      refine dr_one 17 (by kernel_rfl) rfl ?_
      ((first | refine sC0 hS rfl ?_ | refine sC1 hS rfl rfl ?_ | refine sC2 hS rfl rfl ?_ | refine sC3 hS rfl rfl rfl ?_ | refine sC4 hS rfl rfl rfl ?_); clear hS; first | ((fail_if_success guard_hyp g1); intro g1 w hS) | ((fail_if_success guard_hyp g2); intro g2 w hS) | ((fail_if_success guard_hyp g3); intro g3 w hS) | fail)
      (try simp only [Act.put, nA, nB, nC])
      refine dr_end hS ?_
      refine dr_one 18 (by kernel_rfl) rfl ?_
      ((first | refine sP1 hS rfl rfl rfl ?_ | refine sP2 hS rfl rfl rfl ?_ | refine sP3 hS rfl rfl rfl ?_); clear hS; first | ((fail_if_success guard_hyp L1); intro L1 cl1 w hL1 hM1 hS) | ((fail_if_success guard_hyp L2); intro L2 cl2 w hL2 hM2 hS) | fail)
      (try simp only [Act.put, nA, nB, nC])
      refine dr_end hS ?_
      refine dA hS 19 rfl rfl rfl ?_
      (try simp only [Act.put, nA, nB, nC])
      refine dr_done (by kernel_rfl) ?_
      go_wp2_with (first | (refine oL ?_; (first | refine sL1 hS rfl rfl rfl ?_ | refine sL2 hS rfl rfl rfl ?_ | refine sL3 hS rfl rfl ?_ | refine sL4 hS rfl rfl ?_ | refine sL5 hS rfl rfl ?_ | refine sL6 hS rfl rfl ?_ | refine sL7 hS rfl rfl ?_)) | ((first | (refine oB ?_; first | refine sB1 hS rfl rfl ?_ | refine sB2 hS rfl rfl ?_)); clear hS; first | ((fail_if_success guard_hyp g1); intro g1 w hS) | ((fail_if_success guard_hyp g2); intro g2 w hS) | ((fail_if_success guard_hyp g3); intro g3 w hS) | fail) | fail)
      go_roundw
      case measure => simp [intOf]; omega
      refine ⟨k + 1, L1, cl1, zs ++ [(l.length : Int) - (z : Int)], by omega, by go_num, by simp, Lib.hid ?_, by simp [HZK.out], ?_⟩
      · rw [HT.out, numL_snoc, ← HZ.out, HTL.out, hzz]
      · rw [show r.drop (k + 1) = (r.drop k).tail by rw [List.tail_drop]]
        exact hS.re
    · go_wp2_with (first | (refine oL ?_; (first | refine sL1 hS rfl rfl rfl ?_ | refine sL2 hS rfl rfl rfl ?_ | refine sL3 hS rfl rfl ?_ | refine sL4 hS rfl rfl ?_ | refine sL5 hS rfl rfl ?_ | refine sL6 hS rfl rfl ?_ | refine sL7 hS rfl rfl ?_)) | ((first | (refine oB ?_; first | refine sB1 hS rfl rfl ?_ | refine sB2 hS rfl rfl ?_)); clear hS; first | ((fail_if_success guard_hyp g1); intro g1 w hS) | ((fail_if_success guard_hyp g2); intro g2 w hS) | ((fail_if_success guard_hyp g3); intro g3 w hS) | fail) | fail)
      go_ret
      have hz := HZ.out
      rw [List.take_of_length_le (by omega)] at hz
      subst hz
      have hke : (numL r ck).length = ck.length := numL_length ck r
      refine ⟨L, cl, r.drop k, by rw [hke]; rfl, ?_, hS.codes, hS.keep⟩
      have := hS.rowFresh (v := .slice L (numL r ck).length cl) (κ := κ) (r := r.drop k)
      rw [hke] at this
      exact this
theorem numbers_st {w0 w : World} {M : Nat → Prop} {cs : List (Chunk w0 M)} {f : Chunk w0 M → List (Chunk w0 M)} {S : Nat → Prop} {g : Nat} {κ : CK} {r : List Int} {A1 A2 A3 : Option Addr} {c1 c2 c3 n1 n2 n3 : Nat} {ck : List (List Int)} (h : St w0 M cs w) [hp : PickC g cs κ r f] (hn2 : ck.length = n2) (h2 : RR S w A2 ck) (hS : ∀ k, S k → k ≠ g) (hn : ck.length ≤ 5) (hl : ∀ q, q < ck.length → (rowOf ck q).length ≤ 100) :
    Calls Try.prog 48 #[.pointer (some ⟨g, 0, none⟩), .agg #[.slice A1 n1 c1, .slice A2 n2 c2, .slice A3 n3 c3]] w fun e w' => ∃ L c r', e = .returned (.slice L n2 c) ∧ St w0 M (row (.slice L n2 c) 3 1 n2 (ints (numL r ck)) :: f (cds g κ r')) w' := by
  subst hn2
  refine (numbers_any g κ r A1 A2 A3 c1 c2 c3 n1 n3 ck w (h.codes (g := g) (κ := κ) (r := r) (f := f)) h2 hS hn hl).mono ?_
  rintro e w' ⟨L, c, r', rfl, ho, hc, hk⟩
  exact ⟨L, c, r', rfl, h.usedAdd (r := r) hc hk (d := row (.slice L ck.length c) 3 1 ck.length (ints (numL r ck))) (own_base ho (Nat.zero_le _)) (fun k e => own_block ho k e)⟩
end Go.Proofs.Ytkflmichekpfbaa
