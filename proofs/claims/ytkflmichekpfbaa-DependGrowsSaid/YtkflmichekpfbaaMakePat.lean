/- A pattern by choices (rollbacknetmake.Codes.Pattern): it is a good one. Conditions: the choices lie in memory; at most 24 steps. -/
import Derived.Test.YtkflmichekpfbaaMakeA
namespace Go.Proofs.Ytkflmichekpfbaa
open Go.RowKit
set_option linter.unusedVariables false
set_option linter.unusedSimpArgs false

/-- a good pattern of at most m steps -/
structure Small (p : Pat) (m : Nat) : Prop where
  good : Good p
  n4 : p.len.length ≤ 4
  ev : ∀ q, q < p.len.length → nth p.len q ≤ m
  few : p.arcs.length ≤ m
theorem Pat.mark_len (p : Pat) (q : Nat) : (p.mark q).len = p.len := by unfold Pat.mark; split <;> rfl
theorem Pat.mark_arcs (p : Pat) (q : Nat) : (p.mark q).arcs = p.arcs := by unfold Pat.mark; split <;> rfl
theorem Pat.mark_ckl (p : Pat) (q : Nat) : (p.mark q).ck.length = p.ck.length := by unfold Pat.mark; split <;> simp
theorem other_mod {q j k : Nat} (hq : q < k) (hj : j < k - 1) : (q + 1 + j) % k < k ∧ (q + 1 + j) % k ≠ q := by
  have hk : 0 < k := by omega
  refine ⟨Nat.mod_lt _ hk, ?_⟩
  by_cases h : q + 1 + j < k
  · rw [Nat.mod_eq_of_lt h]; omega
  · rw [Nat.mod_eq_sub_mod (by omega), Nat.mod_eq_of_lt (by omega)]; omega
theorem Small.mono {p : Pat} {m m' : Nat} (h : Small p m) (hm : m ≤ m') : Small p m' := ⟨h.good, h.n4, fun q hq => by have := h.ev q hq; omega, by have := h.few; omega⟩
theorem Small.mark {p : Pat} {m q : Nat} (h : Small p m) (hq : q < p.len.length) : Small (p.mark q) (m + 1) := by
  have e1 : (p.mark q).len = p.len := by unfold Pat.mark; split <;> rfl
  have e3 : (p.mark q).arcs = p.arcs := by unfold Pat.mark; split <;> rfl
  refine ⟨h.good.mark hq, by rw [e1]; exact h.n4, fun k hk => ?_, by rw [e3]; have := h.few; omega⟩
  rw [e1] at hk ⊢
  have := h.ev k hk; omega
theorem Small.more {p : Pat} {m q : Nat} (h : Small p m) (hq : q < p.len.length) (hm : m < 64) : Small (p.more q) (m + 1) := by
  have h1 := h.ev q hq
  refine ⟨h.good.more hq (by omega), by rw [p.more_length]; exact h.n4, fun k hk => ?_, by have := h.few; simp [Pat.more]; omega⟩
  rw [p.more_length] at hk
  rw [nth_more hq]
  have := h.ev k hk
  split <;> omega
theorem Small.send0 {p : Pat} {m s q : Nat} {k : Int} (h : Small p m) (hs : s < p.len.length) (hq : q < p.len.length) (hne : s ≠ q) (hk : 0 ≤ k) (hk' : k ≤ nth p.len s) (hm : m < 64) : Small (p.send ⟨s, k, q, 0⟩) (m + 1) := by
  have h1 := h.few
  exact ⟨h.good.send0 hs hq hne hk hk' (by omega), h.n4, fun q hq => by have := h.ev q hq; show nth p.len q ≤ _; omega, by simp [Pat.send]; omega⟩
theorem Small.recv {p : Pat} {m s q : Nat} {k : Int} (h : Small p m) (hs : s < p.len.length) (hq : q < p.len.length) (hne : s ≠ q) (hk : 0 ≤ k) (hk' : k ≤ nth p.len s) (hm : m < 64) : Small ((p.more q).send ⟨s, k, q, nth p.len q + 1⟩) (m + 1) := by
  have h1 := h.few
  have h2 := h.ev q hq
  have h3 := h.more hq hm
  exact ⟨h.good.recv hs hq hne hk hk' (by omega) (by omega), h3.n4, h3.ev, by simp [Pat.send, Pat.more]; omega⟩
/-- a new good pattern is returned; choices were used up -/
def RetMade (w : World) (g : Nat) (κ : CK) (m : Nat) (e : Ending) (w' : World) : Prop :=
  ∃ v p r', e = .returned (v.val p) ∧ Small p m ∧ PatAt (fun k => w.heap.size ≤ k) w' v p ∧ CdsAt w' g κ r' ∧ Keep (fun k => k ≠ g) w w'

set_option maxRecDepth 100000 in
set_option maxHeartbeats 3200000 in
theorem pattern_any (g0 : Nat) (κ : CK) (r : List Int) (m : Nat) (w0 : World) (hc : CdsAt w0 g0 κ r) (hm : m ≤ 24) :
    Calls Try.prog 17 #[.pointer (some ⟨g0, 0, none⟩), .int .i64 (m : Int)] w0 (RetMade w0 g0 κ m) := by
  have hS := St.startC hc
  clear hc
  have hnx := nxt_lt r (n := 3) (by omega)
  go_enter Try.func17, Try.ntmps17
  go_wp2_with (first | (refine oL ?_; (first | refine sL1 hS rfl rfl rfl ?_ | refine sL2 hS rfl rfl rfl ?_ | refine sL3 hS rfl rfl ?_ | refine sL4 hS rfl rfl ?_ | refine sL5 hS rfl rfl ?_ | refine sL6 hS rfl rfl ?_ | refine sL7 hS rfl rfl ?_)) | (refine oS ?_; ((first | refine sS1 hS rfl rfl rfl ?_ | refine sS2 hS rfl rfl rfl ?_ | refine sS3 hS rfl rfl rfl ?_ | refine sS4 hS rfl rfl rfl ?_ | refine sS5 hS rfl rfl rfl ?_); clear hS; intro w hS)) | (refine oP ?_; ((first | refine sP1 hS rfl rfl rfl ?_ | refine sP2 hS rfl rfl rfl ?_ | refine sP3 hS rfl rfl rfl ?_); clear hS; first | ((fail_if_success guard_hyp L1); intro L1 cl1 w hL1 hM1 hS) | ((fail_if_success guard_hyp L2); intro L2 cl2 w hL2 hM2 hS) | ((fail_if_success guard_hyp L3); intro L3 cl3 w hL3 hM3 hS) | fail)) | ((first | refine sN1 hS rfl ?_ | (refine oC ?_; first | refine sC0 hS rfl ?_ | refine sC1 hS rfl rfl ?_ | refine sC2 hS rfl rfl ?_ | refine sC3 hS rfl rfl rfl ?_ | refine sC4 hS rfl rfl rfl ?_) | refine sM1 hS rfl rfl rfl ?_); clear hS; first | ((fail_if_success guard_hyp g1); intro g1 w hS) | ((fail_if_success guard_hyp g2); intro g2 w hS) | ((fail_if_success guard_hyp g3); intro g3 w hS) | ((fail_if_success guard_hyp g4); intro g4 w hS) | ((fail_if_success guard_hyp g5); intro g5 w hS) | ((fail_if_success guard_hyp g6); intro g6 w hS) | ((fail_if_success guard_hyp g7); intro g7 w hS) | fail) | fail)
  refine (next_z 3 hS (by omega) (by omega) (by omega)).mono ?_
  rintro e w ⟨rfl, hS⟩
  obtain ⟨n, hn⟩ : ∃ n, n = 2 + nxt r 3 := ⟨_, rfl⟩
  have HN := Lib.hid hn
  have hn2 : 2 ≤ n := by omega
  have hn4 : n ≤ 4 := by omega
  have hni : (2 : Int) + (nxt r 3 : Int) = n := by omega
  clear hn hnx
  go_wp2_with (first | (refine oL ?_; (first | refine sL1 hS rfl rfl rfl ?_ | refine sL2 hS rfl rfl rfl ?_ | refine sL3 hS rfl rfl ?_ | refine sL4 hS rfl rfl ?_ | refine sL5 hS rfl rfl ?_ | refine sL6 hS rfl rfl ?_ | refine sL7 hS rfl rfl ?_)) | (refine oS ?_; ((first | refine sS1 hS rfl rfl rfl ?_ | refine sS2 hS rfl rfl rfl ?_ | refine sS3 hS rfl rfl rfl ?_ | refine sS4 hS rfl rfl rfl ?_ | refine sS5 hS rfl rfl rfl ?_); clear hS; intro w hS)) | (refine oP ?_; ((first | refine sP1 hS rfl rfl rfl ?_ | refine sP2 hS rfl rfl rfl ?_ | refine sP3 hS rfl rfl rfl ?_); clear hS; first | ((fail_if_success guard_hyp L1); intro L1 cl1 w hL1 hM1 hS) | ((fail_if_success guard_hyp L2); intro L2 cl2 w hL2 hM2 hS) | ((fail_if_success guard_hyp L3); intro L3 cl3 w hL3 hM3 hS) | fail)) | ((first | refine sN1 hS rfl ?_ | (refine oC ?_; first | refine sC0 hS rfl ?_ | refine sC1 hS rfl rfl ?_ | refine sC2 hS rfl rfl ?_ | refine sC3 hS rfl rfl rfl ?_ | refine sC4 hS rfl rfl rfl ?_) | refine sM1 hS rfl rfl rfl ?_); clear hS; first | ((fail_if_success guard_hyp g1); intro g1 w hS) | ((fail_if_success guard_hyp g2); intro g2 w hS) | ((fail_if_success guard_hyp g3); intro g3 w hS) | ((fail_if_success guard_hyp g4); intro g4 w hS) | ((fail_if_success guard_hyp g5); intro g5 w hS) | ((fail_if_success guard_hyp g6); intro g6 w hS) | ((fail_if_success guard_hyp g7); intro g7 w hS) | fail) | fail)
  clear hni
  go_loopw [7] (fun s7 wr => ∃ (k c : Nat) (L : Option Addr) (vs : List Value) (T : Nat → Prop) (u : World), k ≤ n ∧ s7 = .int .i64 k ∧ Hid (Reps (repRow T u) 1 vs (List.replicate k [0])) ∧
    St w0 (fun k => k = g0) [froz T u, row (.slice L k c) 24 1 k vs, blk g3 [.slice (some ⟨g2, 0, none⟩) n n, .slice L k c, .slice none 0 0] 28, row (.slice (some ⟨g2, 0, none⟩) n n) 3 1 n (ints (List.replicate n 0)),
      blk g1 [.slice none 0 0, .slice none 0 0, .slice none 0 0] 28, cds g0 κ r.tail] wr) (fun s7 _ => n - (intOf s7).toNat)
  case atStart => exact ⟨0, 0, none, [], _, _, Nat.zero_le _, rfl, Lib.hid rfl, (hS.addNil _ _).frozNil⟩
  case round =>
    obtain ⟨k, c, L, vs, T, u, hk, rfl, HR, hS⟩ := hrel
    by_cases hlt : k < n
    · go_wp2_with (first | (refine oL ?_; (first | refine sL1 hS rfl rfl rfl ?_ | refine sL2 hS rfl rfl rfl ?_ | refine sL3 hS rfl rfl ?_ | refine sL4 hS rfl rfl ?_ | refine sL5 hS rfl rfl ?_ | refine sL6 hS rfl rfl ?_ | refine sL7 hS rfl rfl ?_)) | (refine oS ?_; ((first | refine sS1 hS rfl rfl rfl ?_ | refine sS2 hS rfl rfl rfl ?_ | refine sS3 hS rfl rfl rfl ?_ | refine sS4 hS rfl rfl rfl ?_ | refine sS5 hS rfl rfl rfl ?_); clear hS; intro w hS)) | (refine oP ?_; ((first | refine sP1 hS rfl rfl rfl ?_ | refine sP2 hS rfl rfl rfl ?_ | refine sP3 hS rfl rfl rfl ?_); clear hS; first | ((fail_if_success guard_hyp L1); intro L1 cl1 w hL1 hM1 hS) | ((fail_if_success guard_hyp L2); intro L2 cl2 w hL2 hM2 hS) | ((fail_if_success guard_hyp L3); intro L3 cl3 w hL3 hM3 hS) | fail)) | ((first | refine sN1 hS rfl ?_ | (refine oC ?_; first | refine sC0 hS rfl ?_ | refine sC1 hS rfl rfl ?_ | refine sC2 hS rfl rfl ?_ | refine sC3 hS rfl rfl rfl ?_ | refine sC4 hS rfl rfl rfl ?_) | refine sM1 hS rfl rfl rfl ?_); clear hS; first | ((fail_if_success guard_hyp g1); intro g1 w hS) | ((fail_if_success guard_hyp g2); intro g2 w hS) | ((fail_if_success guard_hyp g3); intro g3 w hS) | ((fail_if_success guard_hyp g4); intro g4 w hS) | ((fail_if_success guard_hyp g5); intro g5 w hS) | ((fail_if_success guard_hyp g6); intro g6 w hS) | ((fail_if_success guard_hyp g7); intro g7 w hS) | fail) | fail)
      go_roundw
      case measure => simp [intOf]; omega
      have hb := hS.head
      have hI := hS.frozInto
      have hS2 := hS.freeze
      refine ⟨k + 1, _, _, _, _, _, by omega, by go_num, Lib.hid ?_, hS2⟩
      rw [List.replicate_succ']
      refine ((HR.out.mono (repRow.into (hI.widen (fun k hk => .inr hk)))).snoc rfl ?_)
      refine ⟨some ⟨g4, 0, none⟩, 1, rfl, by simp, by omega, ?_⟩
      intro j x hx
      refine ⟨g4, 0, rfl, .inl rfl, ?_⟩
      rw [Nat.zero_add]
      exact cell_of_heap hb (by simpa using hx)
    · have hkn : k = n := by omega
      subst hkn
      have hI := hS.frozInto
      have hvs := hS.rv (A := L)
      have hcf : k ≤ c ∧ c ≤ 9223372036854775807 := hS.rowForm L
      have hS2 := ((hS.perm (List.Perm.swap _ _ _)).freeze).addNil 57 4
      have HC := Lib.hid hcf
      have hRR : RR (fun k' => (row (w0 := w0) (M := fun k => k = g0) (.slice L k c) 24 1 k vs).own k' ∨ T k') wr L (List.replicate k [0]) := by
        refine ⟨vs, ?_, HR.out.mono (repRow.into (hI.widen (fun k hk => .inr hk)))⟩
        intro j x hx
        obtain ⟨b, o, e, _, hcell⟩ := hvs j x hx
        exact ⟨b, o, e, .inl (by rw [e]; rfl), hcell⟩
      have hsm : Small (Pat.none k) 0 := ⟨Good.none hn2 (by omega), by simp [Pat.none]; omega, fun q hq => by simp [Pat.none] at hq; simp [Pat.none, nth, List.getElem?_replicate, hq], by simp [Pat.none]⟩
      have hS3 := hS2.re (ds := [froz (fun k' => (row (w0 := w0) (M := fun k => k = g0) (.slice L k c) 24 1 k vs).own k' ∨ T k') wr, row (.slice (some ⟨g2, 0, none⟩) k k) 3 1 k (ints (List.replicate k 0)), row (.slice none 0 0) 57 4 0 [], blk g3 [.slice (some ⟨g2, 0, none⟩) k k, .slice L k c, .slice none 0 0] 28, blk g1 [.slice none 0 0, .slice none 0 0, .slice none 0 0] 28, cds g0 κ r.tail])
      clear hS hI hvs hcf HR hS2
      go_wp2_with (first | (refine oL ?_; (first | refine sL1 hS rfl rfl rfl ?_ | refine sL2 hS rfl rfl rfl ?_ | refine sL3 hS rfl rfl ?_ | refine sL4 hS rfl rfl ?_ | refine sL5 hS rfl rfl ?_ | refine sL6 hS rfl rfl ?_ | refine sL7 hS rfl rfl ?_)) | (refine oS ?_; ((first | refine sS1 hS rfl rfl rfl ?_ | refine sS2 hS rfl rfl rfl ?_ | refine sS3 hS rfl rfl rfl ?_ | refine sS4 hS rfl rfl rfl ?_ | refine sS5 hS rfl rfl rfl ?_); clear hS; intro w hS)) | (refine oP ?_; ((first | refine sP1 hS rfl rfl rfl ?_ | refine sP2 hS rfl rfl rfl ?_ | refine sP3 hS rfl rfl rfl ?_); clear hS; first | ((fail_if_success guard_hyp L1); intro L1 cl1 w hL1 hM1 hS) | ((fail_if_success guard_hyp L2); intro L2 cl2 w hL2 hM2 hS) | ((fail_if_success guard_hyp L3); intro L3 cl3 w hL3 hM3 hS) | fail)) | ((first | refine sN1 hS rfl ?_ | (refine oC ?_; first | refine sC0 hS rfl ?_ | refine sC1 hS rfl rfl ?_ | refine sC2 hS rfl rfl ?_ | refine sC3 hS rfl rfl rfl ?_ | refine sC4 hS rfl rfl rfl ?_) | refine sM1 hS rfl rfl rfl ?_); clear hS; first | ((fail_if_success guard_hyp g1); intro g1 w hS) | ((fail_if_success guard_hyp g2); intro g2 w hS) | ((fail_if_success guard_hyp g3); intro g3 w hS) | ((fail_if_success guard_hyp g4); intro g4 w hS) | ((fail_if_success guard_hyp g5); intro g5 w hS) | ((fail_if_success guard_hyp g6); intro g6 w hS) | ((fail_if_success guard_hyp g7); intro g7 w hS) | fail) | fail)
      go_loopw [8] (fun s8 wr => ∃ (i na k1 k2 k3 : Nat) (L1 L2 L3 : Option Addr) (p : Pat) (T : Nat → Prop) (u : World) (r' : List Int), i ≤ m ∧ s8 = .int .i64 i ∧ na ≤ 24 ∧ k ≤ k2 ∧ k2 ≤ 9223372036854775807 ∧ Hid (Small p i ∧ p.len.length = k ∧ p.arcs.length = na ∧ RR T u L2 p.ck) ∧
        St w0 (fun k => k = g0) [froz T u, row (.slice L1 k k1) 3 1 k (ints p.len), row (.slice L3 na k3) 57 4 na (p.arcs.flatMap arcCells), blk g3 [.slice L1 k k1, .slice L2 k k2, .slice L3 na k3] 28, blk g1 [.slice none 0 0, .slice none 0 0, .slice none 0 0] 28, cds g0 κ r'] wr) (fun s8 _ => m - (intOf s8).toNat)
      case atStart =>
        exact ⟨0, 0, k, c, 0, some ⟨g2, 0, none⟩, L, none, Pat.none k, _, _, r.tail, by omega, rfl, by omega, HC.out.1, HC.out.2, Lib.hid ⟨hsm, by simp [Pat.none], rfl, hRR⟩, hS3⟩
      case round =>
        obtain ⟨i, na, k1, k2, k3, L1, L2, L3, p, T2, u2, r', hi, rfl, hna, hk2, hk2', HP, hS⟩ := hrel
        have hret : ¬ (i < m ∧ r' ≠ []) → ∀ w, St w0 (fun k => k = g0) [froz T2 u2, row (.slice L1 k k1) 3 1 k (ints p.len), row (.slice L3 na k3) 57 4 na (p.arcs.flatMap arcCells), blk g3 [.slice L1 k k1, .slice L2 k k2, .slice L3 na k3] 28, blk g1 [.slice L1 k k1, .slice L2 k k2, .slice L3 na k3] 28, cds g0 κ r'] w →
            RetMade w0 g0 κ m (.returned (.agg #[.slice L1 k k1, .slice L2 k k2, .slice L3 na k3])) w := by
          intro _ w hS
          obtain ⟨hsm, e1, e3, hRR⟩ := HP.out
          have f1 := hS.rowForm L1
          have f3 := hS.rowForm L3
          have n1 := hS.newC (κ := κ) (r := r') (row (.slice L1 k k1) 3 1 k (ints p.len))
          have n2 := hS.newC (κ := κ) (r := r') (froz T2 u2)
          have n3 := hS.newC (κ := κ) (r := r') (row (.slice L3 na k3) 57 4 na (p.arcs.flatMap arcCells))
          have v1 := hS.rv (A := L1)
          have v3 := hS.rv (A := L3)
          refine ⟨⟨L1, k1, L2, k2, L3, k3⟩, p, r', ?_, hsm.mono hi, ⟨?_, ?_, ?_, by rw [e1]; exact f1.1, f1.2, by rw [hsm.good.ckl, e1]; exact hk2, hk2', by rw [e3]; exact f3.1, f3.2⟩, hS.codes, hS.keep⟩
          · rw [PV.val, hsm.good.ckl, e1, e3]
          · intro j x hx
            obtain ⟨b, o, e, _, hc⟩ := v1 j x hx
            exact ⟨b, o, e, n1 b (by rw [e]; rfl), hc⟩
          · exact hRR.into (hS.frozInto.widen n2)
          · refine ⟨_, ?_, reps_arcs w p.arcs⟩
            intro j x hx
            obtain ⟨b, o, e, _, hc⟩ := v3 j x hx
            exact ⟨b, o, e, n3 b (by rw [e]; rfl), hc⟩
        have HRET := Lib.hid hret
        clear hret
        by_cases him : i < m
        · have d1 : decide ((i : Int) < (m : Int)) = true := by simp; omega
          cases hr : r' with
          | nil =>
            subst hr
            go_wp2_with (first | (go_at_call 60; refine (left_st hS).mono ?_; rintro e w ⟨rfl, hS⟩; rw [List.isEmpty_nil]) | (refine oL ?_; (first | refine sL1 hS rfl rfl rfl ?_ | refine sL2 hS rfl rfl rfl ?_ | refine sL3 hS rfl rfl ?_ | refine sL4 hS rfl rfl ?_ | refine sL5 hS rfl rfl ?_ | refine sL6 hS rfl rfl ?_ | refine sL7 hS rfl rfl ?_)) | (refine oS ?_; ((first | refine sS1 hS rfl rfl rfl ?_ | refine sS2 hS rfl rfl rfl ?_ | refine sS3 hS rfl rfl rfl ?_ | refine sS4 hS rfl rfl rfl ?_ | refine sS5 hS rfl rfl rfl ?_); clear hS; intro w hS)) | (refine oP ?_; ((first | refine sP1 hS rfl rfl rfl ?_ | refine sP2 hS rfl rfl rfl ?_ | refine sP3 hS rfl rfl rfl ?_); clear hS; first | ((fail_if_success guard_hyp L1); intro L1 cl1 w hL1 hM1 hS) | ((fail_if_success guard_hyp L2); intro L2 cl2 w hL2 hM2 hS) | ((fail_if_success guard_hyp L3); intro L3 cl3 w hL3 hM3 hS) | fail)) | ((first | refine sN1 hS rfl ?_ | (refine oC ?_; first | refine sC0 hS rfl ?_ | refine sC1 hS rfl rfl ?_ | refine sC2 hS rfl rfl ?_ | refine sC3 hS rfl rfl rfl ?_ | refine sC4 hS rfl rfl rfl ?_) | refine sM1 hS rfl rfl rfl ?_); clear hS; first | ((fail_if_success guard_hyp g1); intro g1 w hS) | ((fail_if_success guard_hyp g2); intro g2 w hS) | ((fail_if_success guard_hyp g3); intro g3 w hS) | ((fail_if_success guard_hyp g4); intro g4 w hS) | ((fail_if_success guard_hyp g5); intro g5 w hS) | ((fail_if_success guard_hyp g6); intro g6 w hS) | ((fail_if_success guard_hyp g7); intro g7 w hS) | fail) | fail)
            exact st_retC hS rfl rfl rfl rfl (HRET.out (by simp) _ hS)
          | cons b rr =>
            have hqlt := nxt_lt r' (n := k) (by omega)
            have hklt := nxt_lt r'.tail (n := 8) (by omega)
            have hne : (!r'.isEmpty) = true := by rw [hr]; rfl
            clear hr
            go_wp2_with (first | (go_at_call 60; refine (left_st hS).mono ?_; rintro e w ⟨rfl, hS⟩; rw [hne]) | (refine oL ?_; (first | refine sL1 hS rfl rfl rfl ?_ | refine sL2 hS rfl rfl rfl ?_ | refine sL3 hS rfl rfl ?_ | refine sL4 hS rfl rfl ?_ | refine sL5 hS rfl rfl ?_ | refine sL6 hS rfl rfl ?_ | refine sL7 hS rfl rfl ?_)) | (refine oS ?_; ((first | refine sS1 hS rfl rfl rfl ?_ | refine sS2 hS rfl rfl rfl ?_ | refine sS3 hS rfl rfl rfl ?_ | refine sS4 hS rfl rfl rfl ?_ | refine sS5 hS rfl rfl rfl ?_); clear hS; intro w hS)) | (refine oP ?_; ((first | refine sP1 hS rfl rfl rfl ?_ | refine sP2 hS rfl rfl rfl ?_ | refine sP3 hS rfl rfl rfl ?_); clear hS; first | ((fail_if_success guard_hyp L1); intro L1 cl1 w hL1 hM1 hS) | ((fail_if_success guard_hyp L2); intro L2 cl2 w hL2 hM2 hS) | ((fail_if_success guard_hyp L3); intro L3 cl3 w hL3 hM3 hS) | fail)) | ((first | refine sN1 hS rfl ?_ | (refine oC ?_; first | refine sC0 hS rfl ?_ | refine sC1 hS rfl rfl ?_ | refine sC2 hS rfl rfl ?_ | refine sC3 hS rfl rfl rfl ?_ | refine sC4 hS rfl rfl rfl ?_) | refine sM1 hS rfl rfl rfl ?_); clear hS; first | ((fail_if_success guard_hyp g1); intro g1 w hS) | ((fail_if_success guard_hyp g2); intro g2 w hS) | ((fail_if_success guard_hyp g3); intro g3 w hS) | ((fail_if_success guard_hyp g4); intro g4 w hS) | ((fail_if_success guard_hyp g5); intro g5 w hS) | ((fail_if_success guard_hyp g6); intro g6 w hS) | ((fail_if_success guard_hyp g7); intro g7 w hS) | fail) | fail)
            refine (next_z k hS rfl (by omega) (by omega)).mono ?_
            rintro e w ⟨rfl, hS⟩
            generalize nxt r' k = q at *
            go_wp2_with (first | (refine oL ?_; (first | refine sL1 hS rfl rfl rfl ?_ | refine sL2 hS rfl rfl rfl ?_ | refine sL3 hS rfl rfl ?_ | refine sL4 hS rfl rfl ?_ | refine sL5 hS rfl rfl ?_ | refine sL6 hS rfl rfl ?_ | refine sL7 hS rfl rfl ?_)) | (refine oS ?_; ((first | refine sS1 hS rfl rfl rfl ?_ | refine sS2 hS rfl rfl rfl ?_ | refine sS3 hS rfl rfl rfl ?_ | refine sS4 hS rfl rfl rfl ?_ | refine sS5 hS rfl rfl rfl ?_); clear hS; intro w hS)) | (refine oP ?_; ((first | refine sP1 hS rfl rfl rfl ?_ | refine sP2 hS rfl rfl rfl ?_ | refine sP3 hS rfl rfl rfl ?_); clear hS; first | ((fail_if_success guard_hyp L1); intro L1 cl1 w hL1 hM1 hS) | ((fail_if_success guard_hyp L2); intro L2 cl2 w hL2 hM2 hS) | ((fail_if_success guard_hyp L3); intro L3 cl3 w hL3 hM3 hS) | fail)) | ((first | refine sN1 hS rfl ?_ | (refine oC ?_; first | refine sC0 hS rfl ?_ | refine sC1 hS rfl rfl ?_ | refine sC2 hS rfl rfl ?_ | refine sC3 hS rfl rfl rfl ?_ | refine sC4 hS rfl rfl rfl ?_) | refine sM1 hS rfl rfl rfl ?_); clear hS; first | ((fail_if_success guard_hyp g1); intro g1 w hS) | ((fail_if_success guard_hyp g2); intro g2 w hS) | ((fail_if_success guard_hyp g3); intro g3 w hS) | ((fail_if_success guard_hyp g4); intro g4 w hS) | ((fail_if_success guard_hyp g5); intro g5 w hS) | ((fail_if_success guard_hyp g6); intro g6 w hS) | ((fail_if_success guard_hyp g7); intro g7 w hS) | fail) | fail)
            refine (next_z 8 hS rfl (by omega) (by omega)).mono ?_
            rintro e w ⟨rfl, hS⟩
            generalize nxt r'.tail 8 = kk at *
            have HN := Lib.hid (And.intro HP.out.1 (And.intro HP.out.2.1 (And.intro HP.out.2.2.1 (HP.out.1.good.ckl.trans HP.out.2.1))))
            have hev := HP.out.1.ev q (by rw [HP.out.2.1]; exact hqlt)
            have hev0 := HP.out.1.good.lo q (by rw [HP.out.2.1]; exact hqlt)
            have hna' : na ≤ i := by have := HP.out.1.few; have := HP.out.2.2.1; omega
            by_cases hkk : kk < 2
            · go_wp2_with (first | (refine oL ?_; (first | refine sL1 hS rfl rfl rfl ?_ | refine sL2 hS rfl rfl rfl ?_ | refine sL3 hS rfl rfl ?_ | refine sL4 hS rfl rfl ?_ | refine sL5 hS rfl rfl ?_ | refine sL6 hS rfl rfl ?_ | refine sL7 hS rfl rfl ?_)) | (refine oS ?_; ((first | refine sS1 hS rfl rfl rfl ?_ | refine sS2 hS rfl rfl rfl ?_ | refine sS3 hS rfl rfl rfl ?_ | refine sS4 hS rfl rfl rfl ?_ | refine sS5 hS rfl rfl rfl ?_); clear hS; intro w hS)) | (refine oP ?_; ((first | refine sP1 hS rfl rfl rfl ?_ | refine sP2 hS rfl rfl rfl ?_ | refine sP3 hS rfl rfl rfl ?_); clear hS; first | ((fail_if_success guard_hyp L1); intro L1 cl1 w hL1 hM1 hS) | ((fail_if_success guard_hyp L2); intro L2 cl2 w hL2 hM2 hS) | ((fail_if_success guard_hyp L3); intro L3 cl3 w hL3 hM3 hS) | fail)) | ((first | refine sN1 hS rfl ?_ | (refine oC ?_; first | refine sC0 hS rfl ?_ | refine sC1 hS rfl rfl ?_ | refine sC2 hS rfl rfl ?_ | refine sC3 hS rfl rfl rfl ?_ | refine sC4 hS rfl rfl rfl ?_) | refine sM1 hS rfl rfl rfl ?_); clear hS; first | ((fail_if_success guard_hyp g1); intro g1 w hS) | ((fail_if_success guard_hyp g2); intro g2 w hS) | ((fail_if_success guard_hyp g3); intro g3 w hS) | ((fail_if_success guard_hyp g4); intro g4 w hS) | ((fail_if_success guard_hyp g5); intro g5 w hS) | ((fail_if_success guard_hyp g6); intro g6 w hS) | ((fail_if_success guard_hyp g7); intro g7 w hS) | fail) | fail)
              have hRR : RR (fun k' => w.heap.size ≤ k' ∨ T2 k') w L2 p.ck := HP.out.2.2.2.into (hS.frozInto.widen (fun _ h => .inr h))
              refine (rmark_n (S := fun k' => w.heap.size ≤ k' ∨ T2 k') p q rfl HN.out.2.1 HN.out.2.2.2 HN.out.2.2.1 (fun _ h => .inl h) hS.ri hRR hk2 hk2' HN.out.1.good hqlt).mono ?_
              rintro e w' ⟨L2', k2', rfl, hRR', hl, hm', hx1⟩
              have hS := hS.frozGrow hx1
              have HR' := Lib.hid (hRR'.into (Into.subLt (S' := fun k' => (w.heap.size ≤ k' ∧ k' < w'.heap.size) ∨ T2 k') w' (fun k' hk' hlt' => hk'.imp (fun h => ⟨h, hlt'⟩) id)))
              clear hRR hRR'
              go_wp2_with (first | (refine oL ?_; (first | refine sL1 hS rfl rfl rfl ?_ | refine sL2 hS rfl rfl rfl ?_ | refine sL3 hS rfl rfl ?_ | refine sL4 hS rfl rfl ?_ | refine sL5 hS rfl rfl ?_ | refine sL6 hS rfl rfl ?_ | refine sL7 hS rfl rfl ?_)) | (refine oS ?_; ((first | refine sS1 hS rfl rfl rfl ?_ | refine sS2 hS rfl rfl rfl ?_ | refine sS3 hS rfl rfl rfl ?_ | refine sS4 hS rfl rfl rfl ?_ | refine sS5 hS rfl rfl rfl ?_); clear hS; intro w hS)) | (refine oP ?_; ((first | refine sP1 hS rfl rfl rfl ?_ | refine sP2 hS rfl rfl rfl ?_ | refine sP3 hS rfl rfl rfl ?_); clear hS; first | ((fail_if_success guard_hyp L1); intro L1 cl1 w hL1 hM1 hS) | ((fail_if_success guard_hyp L2); intro L2 cl2 w hL2 hM2 hS) | ((fail_if_success guard_hyp L3); intro L3 cl3 w hL3 hM3 hS) | fail)) | ((first | refine sN1 hS rfl ?_ | (refine oC ?_; first | refine sC0 hS rfl ?_ | refine sC1 hS rfl rfl ?_ | refine sC2 hS rfl rfl ?_ | refine sC3 hS rfl rfl rfl ?_ | refine sC4 hS rfl rfl rfl ?_) | refine sM1 hS rfl rfl rfl ?_); clear hS; first | ((fail_if_success guard_hyp g1); intro g1 w hS) | ((fail_if_success guard_hyp g2); intro g2 w hS) | ((fail_if_success guard_hyp g3); intro g3 w hS) | ((fail_if_success guard_hyp g4); intro g4 w hS) | ((fail_if_success guard_hyp g5); intro g5 w hS) | ((fail_if_success guard_hyp g6); intro g6 w hS) | ((fail_if_success guard_hyp g7); intro g7 w hS) | fail) | fail)
              go_roundw
              case measure => simp [intOf]; omega
              refine ⟨i + 1, na, k1, k2', k3, L1, L2', L3, p.mark q, _, _, r'.tail.tail, by omega, by go_num, hna, hl, hm', Lib.hid ⟨HN.out.1.mark (by rw [HN.out.2.1]; exact hqlt), by rw [Pat.mark_len]; exact HN.out.2.1, by rw [Pat.mark_arcs]; exact HN.out.2.2.1, HR'.out⟩, ?_⟩
              rw [Pat.mark_len, Pat.mark_arcs]
              exact hS
            by_cases hk2e : kk = 2
            · subst hk2e
              go_wp2_with (first | (refine oL ?_; (first | refine sL1 hS rfl rfl rfl ?_ | refine sL2 hS rfl rfl rfl ?_ | refine sL3 hS rfl rfl ?_ | refine sL4 hS rfl rfl ?_ | refine sL5 hS rfl rfl ?_ | refine sL6 hS rfl rfl ?_ | refine sL7 hS rfl rfl ?_)) | (refine oS ?_; ((first | refine sS1 hS rfl rfl rfl ?_ | refine sS2 hS rfl rfl rfl ?_ | refine sS3 hS rfl rfl rfl ?_ | refine sS4 hS rfl rfl rfl ?_ | refine sS5 hS rfl rfl rfl ?_); clear hS; intro w hS)) | (refine oP ?_; ((first | refine sP1 hS rfl rfl rfl ?_ | refine sP2 hS rfl rfl rfl ?_ | refine sP3 hS rfl rfl rfl ?_); clear hS; first | ((fail_if_success guard_hyp L1); intro L1 cl1 w hL1 hM1 hS) | ((fail_if_success guard_hyp L2); intro L2 cl2 w hL2 hM2 hS) | ((fail_if_success guard_hyp L3); intro L3 cl3 w hL3 hM3 hS) | fail)) | ((first | refine sN1 hS rfl ?_ | (refine oC ?_; first | refine sC0 hS rfl ?_ | refine sC1 hS rfl rfl ?_ | refine sC2 hS rfl rfl ?_ | refine sC3 hS rfl rfl rfl ?_ | refine sC4 hS rfl rfl rfl ?_) | refine sM1 hS rfl rfl rfl ?_); clear hS; first | ((fail_if_success guard_hyp g1); intro g1 w hS) | ((fail_if_success guard_hyp g2); intro g2 w hS) | ((fail_if_success guard_hyp g3); intro g3 w hS) | ((fail_if_success guard_hyp g4); intro g4 w hS) | ((fail_if_success guard_hyp g5); intro g5 w hS) | ((fail_if_success guard_hyp g6); intro g6 w hS) | ((fail_if_success guard_hyp g7); intro g7 w hS) | fail) | fail)
              refine (with_event p q rfl HN.out.2.1 HN.out.2.2.2 HN.out.2.2.1 hS.ri hS.ra HN.out.1.good hqlt (by omega)).mono ?_
              rintro e w' ⟨L1', k1', L3', k3', rfl, ho1, ho3, hx1⟩
              have hS := hS.addRow2 ho1 ho3 (by decide) hx1
              go_wp2_with (first | (refine oL ?_; (first | refine sL1 hS rfl rfl rfl ?_ | refine sL2 hS rfl rfl rfl ?_ | refine sL3 hS rfl rfl ?_ | refine sL4 hS rfl rfl ?_ | refine sL5 hS rfl rfl ?_ | refine sL6 hS rfl rfl ?_ | refine sL7 hS rfl rfl ?_)) | (refine oS ?_; ((first | refine sS1 hS rfl rfl rfl ?_ | refine sS2 hS rfl rfl rfl ?_ | refine sS3 hS rfl rfl rfl ?_ | refine sS4 hS rfl rfl rfl ?_ | refine sS5 hS rfl rfl rfl ?_); clear hS; intro w hS)) | (refine oP ?_; ((first | refine sP1 hS rfl rfl rfl ?_ | refine sP2 hS rfl rfl rfl ?_ | refine sP3 hS rfl rfl rfl ?_); clear hS; first | ((fail_if_success guard_hyp L1); intro L1 cl1 w hL1 hM1 hS) | ((fail_if_success guard_hyp L2); intro L2 cl2 w hL2 hM2 hS) | ((fail_if_success guard_hyp L3); intro L3 cl3 w hL3 hM3 hS) | fail)) | ((first | refine sN1 hS rfl ?_ | (refine oC ?_; first | refine sC0 hS rfl ?_ | refine sC1 hS rfl rfl ?_ | refine sC2 hS rfl rfl ?_ | refine sC3 hS rfl rfl rfl ?_ | refine sC4 hS rfl rfl rfl ?_) | refine sM1 hS rfl rfl rfl ?_); clear hS; first | ((fail_if_success guard_hyp g1); intro g1 w hS) | ((fail_if_success guard_hyp g2); intro g2 w hS) | ((fail_if_success guard_hyp g3); intro g3 w hS) | ((fail_if_success guard_hyp g4); intro g4 w hS) | ((fail_if_success guard_hyp g5); intro g5 w hS) | ((fail_if_success guard_hyp g6); intro g6 w hS) | ((fail_if_success guard_hyp g7); intro g7 w hS) | fail) | fail)
              go_roundw
              case measure => simp [intOf]; omega
              exact ⟨i + 1, na, k1', k2, k3', L1', L2, L3', p.more q, _, _, r'.tail.tail, by omega, by go_num, hna, hk2, hk2', Lib.hid ⟨HN.out.1.more (by rw [HN.out.2.1]; exact hqlt) (by omega), by rw [Pat.more_length]; exact HN.out.2.1, HN.out.2.2.1, HP.out.2.2.2⟩, hS.re⟩
            have hjlt := nxt_lt r'.tail.tail (n := k - 1) (by omega)
            have hkz : ((k : Int) - 1) = ((k - 1 : Nat) : Int) := by omega
            have hoth := other_mod (q := q) (k := k) hqlt hjlt
            generalize hjj : nxt r'.tail.tail (k - 1) = j at *
            have HJ := Lib.hid hjj
            have hse : ((q : Int) + 1 + (j : Int)) % (k : Int) = (((q + 1 + j) % k : Nat) : Int) := by simp [Int.natCast_emod]
            clear hjj hklt
            generalize (q + 1 + j) % k = s at *
            have hs0 := HP.out.1.good.lo s (by rw [HP.out.2.1]; exact hoth.1)
            have hs1 := HP.out.1.ev s (by rw [HP.out.2.1]; exact hoth.1)
            have hsl : (ints p.len)[s]? = some (.int .i64 (nth p.len s)) := by rw [nth_eq (by rw [HP.out.2.1]; exact hoth.1)]; exact ints_get _
            have HK := Lib.hid (show nth p.len s = nth p.len s from rfl)
            generalize hns : nth p.len s = ns at *
            obtain ⟨n0, rfl⟩ := Int.eq_ofNat_of_zero_le hs0
            have HNS := Lib.hid hns
            obtain ⟨gl, rfl⟩ := hS.rowSome L1 (by omega)
            clear hns
            by_cases hk3e : kk = 3
            · subst hk3e
              go_wp2_with (first | (refine oL ?_; (first | refine sL1 hS rfl rfl rfl ?_ | refine sL2 hS rfl rfl rfl ?_ | refine sL3 hS rfl rfl ?_ | refine sL4 hS rfl rfl ?_ | refine sL5 hS rfl rfl ?_ | refine sL6 hS rfl rfl ?_ | refine sL7 hS rfl rfl ?_)) | (refine oS ?_; ((first | refine sS1 hS rfl rfl rfl ?_ | refine sS2 hS rfl rfl rfl ?_ | refine sS3 hS rfl rfl rfl ?_ | refine sS4 hS rfl rfl rfl ?_ | refine sS5 hS rfl rfl rfl ?_); clear hS; intro w hS)) | (refine oP ?_; ((first | refine sP1 hS rfl rfl rfl ?_ | refine sP2 hS rfl rfl rfl ?_ | refine sP3 hS rfl rfl rfl ?_); clear hS; first | ((fail_if_success guard_hyp L1); intro L1 cl1 w hL1 hM1 hS) | ((fail_if_success guard_hyp L2); intro L2 cl2 w hL2 hM2 hS) | ((fail_if_success guard_hyp L3); intro L3 cl3 w hL3 hM3 hS) | fail)) | ((first | refine sN1 hS rfl ?_ | (refine oC ?_; first | refine sC0 hS rfl ?_ | refine sC1 hS rfl rfl ?_ | refine sC2 hS rfl rfl ?_ | refine sC3 hS rfl rfl rfl ?_ | refine sC4 hS rfl rfl rfl ?_) | refine sM1 hS rfl rfl rfl ?_); clear hS; first | ((fail_if_success guard_hyp g1); intro g1 w hS) | ((fail_if_success guard_hyp g2); intro g2 w hS) | ((fail_if_success guard_hyp g3); intro g3 w hS) | ((fail_if_success guard_hyp g4); intro g4 w hS) | ((fail_if_success guard_hyp g5); intro g5 w hS) | ((fail_if_success guard_hyp g6); intro g6 w hS) | ((fail_if_success guard_hyp g7); intro g7 w hS) | fail) | fail)
              refine (next_z (k - 1) hS rfl (by omega) (by omega)).mono ?_
              rintro e w ⟨rfl, hS⟩
              rw [HJ.out]
              have hxlt := nxt_lt r'.tail.tail.tail (n := n0 + 1) (by omega)
              generalize hxx : nxt r'.tail.tail.tail (n0 + 1) = xi at *
              have HX := Lib.hid hxx
              clear hxx
              go_wp2_with (first | (refine oL ?_; (first | refine sL1 hS rfl rfl rfl ?_ | refine sL2 hS rfl rfl rfl ?_ | refine sL3 hS rfl rfl ?_ | refine sL4 hS rfl rfl ?_ | refine sL5 hS rfl rfl ?_ | refine sL6 hS rfl rfl ?_ | refine sL7 hS rfl rfl ?_)) | (refine oS ?_; ((first | refine sS1 hS rfl rfl rfl ?_ | refine sS2 hS rfl rfl rfl ?_ | refine sS3 hS rfl rfl rfl ?_ | refine sS4 hS rfl rfl rfl ?_ | refine sS5 hS rfl rfl rfl ?_); clear hS; intro w hS)) | (refine oP ?_; ((first | refine sP1 hS rfl rfl rfl ?_ | refine sP2 hS rfl rfl rfl ?_ | refine sP3 hS rfl rfl rfl ?_); clear hS; first | ((fail_if_success guard_hyp L1); intro L1 cl1 w hL1 hM1 hS) | ((fail_if_success guard_hyp L2); intro L2 cl2 w hL2 hM2 hS) | ((fail_if_success guard_hyp L3); intro L3 cl3 w hL3 hM3 hS) | fail)) | ((first | refine sN1 hS rfl ?_ | (refine oC ?_; first | refine sC0 hS rfl ?_ | refine sC1 hS rfl rfl ?_ | refine sC2 hS rfl rfl ?_ | refine sC3 hS rfl rfl rfl ?_ | refine sC4 hS rfl rfl rfl ?_) | refine sM1 hS rfl rfl rfl ?_); clear hS; first | ((fail_if_success guard_hyp g1); intro g1 w hS) | ((fail_if_success guard_hyp g2); intro g2 w hS) | ((fail_if_success guard_hyp g3); intro g3 w hS) | ((fail_if_success guard_hyp g4); intro g4 w hS) | ((fail_if_success guard_hyp g5); intro g5 w hS) | ((fail_if_success guard_hyp g6); intro g6 w hS) | ((fail_if_success guard_hyp g7); intro g7 w hS) | fail) | fail)
              refine dr_start2 [16] 2 4 hS (by kernel_rfl) rfl ?_; clear hS; intro w hS
              refine dP hS 0 rfl rfl ?_
              (try simp only [Act.put, nA, nB, nC])
              first | refine dL1 hS 1 rfl rfl rfl rfl ?_ | refine dL2 hS 1 rfl rfl rfl rfl ?_ | refine dL3 hS 1 rfl rfl rfl ?_ | refine dL4 hS 1 rfl rfl rfl ?_ | refine dL5 hS 1 rfl rfl rfl ?_ | refine dL6 hS 1 rfl rfl rfl ?_ | refine dL7 hS 1 rfl rfl rfl ?_
              (try simp only [Act.put, nA, nB, nC])
              refine dM hS 2 rfl rfl rfl ?_
              (try simp only [Act.put, nA, nB, nC])
              refine dM hS 3 rfl rfl rfl ?_
              (try simp only [Act.put, nA, nB, nC])
              refine dP hS 4 rfl rfl ?_
              (try simp only [Act.put, nA, nB, nC])
              first | refine dL1 hS 5 rfl rfl rfl rfl ?_ | refine dL2 hS 5 rfl rfl rfl rfl ?_ | refine dL3 hS 5 rfl rfl rfl ?_ | refine dL4 hS 5 rfl rfl rfl ?_ | refine dL5 hS 5 rfl rfl rfl ?_ | refine dL6 hS 5 rfl rfl rfl ?_ | refine dL7 hS 5 rfl rfl rfl ?_
              (try simp only [Act.put, nA, nB, nC])
              refine dM hS 6 rfl rfl rfl ?_
              (try simp only [Act.put, nA, nB, nC])
              refine dP hS 7 rfl rfl ?_
              (try simp only [Act.put, nA, nB, nC])
              first | refine dL1 hS 8 rfl rfl rfl rfl ?_ | refine dL2 hS 8 rfl rfl rfl rfl ?_ | refine dL3 hS 8 rfl rfl rfl ?_ | refine dL4 hS 8 rfl rfl rfl ?_ | refine dL5 hS 8 rfl rfl rfl ?_ | refine dL6 hS 8 rfl rfl rfl ?_ | refine dL7 hS 8 rfl rfl rfl ?_
              (try simp only [Act.put, nA, nB, nC])
              refine dP hS 9 rfl rfl ?_
              (try simp only [Act.put, nA, nB, nC])
              refine dM hS 11 rfl rfl rfl ?_
              (try simp only [Act.put, nA, nB, nC])
              refine dr_one 10 (by kernel_rfl) rfl ?_
              (refine st_call rfl (by kernel_rfl) rfl ?_; go_at_call 59; refine (next_z (n0 + 1) hS (by omega) (by omega) (by omega)).mono ?_; rintro e w ⟨rfl, hS⟩; rw [HX.out])
              (try simp only [Act.put, nA, nB, nC])
              refine dr_end hS ?_
              refine dP hS 12 rfl rfl ?_
              (try simp only [Act.put, nA, nB, nC])
              refine dr_one 13 (by kernel_rfl) rfl ?_
              first | (refine st_appA ⟨s, xi, q, 0⟩ hS rfl rfl rfl rfl (by omega) ?_; clear hS; intro L3' k3' w hL hM hS) | ((first | refine sC0 hS rfl ?_ | refine sC1 hS rfl rfl ?_ | refine sC2 hS rfl rfl ?_ | refine sC3 hS rfl rfl rfl ?_ | refine sC4 hS rfl rfl rfl ?_); clear hS; first | ((fail_if_success guard_hyp g1); intro g1 w hS) | ((fail_if_success guard_hyp g2); intro g2 w hS) | ((fail_if_success guard_hyp g3); intro g3 w hS) | ((fail_if_success guard_hyp g4); intro g4 w hS) | ((fail_if_success guard_hyp g5); intro g5 w hS) | ((fail_if_success guard_hyp g6); intro g6 w hS) | ((fail_if_success guard_hyp g7); intro g7 w hS) | fail) | fail
              (try simp only [Act.put, nA, nB, nC])
              refine dr_end hS ?_
              refine dr_one 14 (by kernel_rfl) rfl ?_
              first | (refine st_appA ⟨s, xi, q, 0⟩ hS rfl rfl rfl rfl (by omega) ?_; clear hS; intro L3' k3' w hL hM hS) | ((first | refine sP1 hS rfl rfl rfl ?_ | refine sP2 hS rfl rfl rfl ?_ | refine sP3 hS rfl rfl rfl ?_); clear hS; first | ((fail_if_success guard_hyp L1); intro L1 cl1 w hL1 hM1 hS) | ((fail_if_success guard_hyp L2); intro L2 cl2 w hL2 hM2 hS) | ((fail_if_success guard_hyp L3); intro L3 cl3 w hL3 hM3 hS) | fail) | fail
              (try simp only [Act.put, nA, nB, nC])
              refine dr_end hS ?_
              refine dP hS 15 rfl rfl ?_
              (try simp only [Act.put, nA, nB, nC])
              refine dr_one 16 (by kernel_rfl) rfl ?_
              first | (refine st_appA ⟨s, xi, q, 0⟩ hS rfl rfl rfl rfl (by omega) ?_; clear hS; intro L3' k3' w hL hM hS) | ((first | refine sS1 hS rfl rfl rfl ?_ | refine sS2 hS rfl rfl rfl ?_ | refine sS3 hS rfl rfl rfl ?_ | refine sS4 hS rfl rfl rfl ?_ | refine sS5 hS rfl rfl rfl ?_); clear hS; intro w hS) | fail
              (try simp only [Act.put, nA, nB, nC])
              refine dr_late (by kernel_rfl) ?_
              refine dr_done (by kernel_rfl) ?_
              go_wp2_with (first | (refine oL ?_; (first | refine sL1 hS rfl rfl rfl ?_ | refine sL2 hS rfl rfl rfl ?_ | refine sL3 hS rfl rfl ?_ | refine sL4 hS rfl rfl ?_ | refine sL5 hS rfl rfl ?_ | refine sL6 hS rfl rfl ?_ | refine sL7 hS rfl rfl ?_)) | (refine oS ?_; ((first | refine sS1 hS rfl rfl rfl ?_ | refine sS2 hS rfl rfl rfl ?_ | refine sS3 hS rfl rfl rfl ?_ | refine sS4 hS rfl rfl rfl ?_ | refine sS5 hS rfl rfl rfl ?_); clear hS; intro w hS)) | (refine oP ?_; ((first | refine sP1 hS rfl rfl rfl ?_ | refine sP2 hS rfl rfl rfl ?_ | refine sP3 hS rfl rfl rfl ?_); clear hS; first | ((fail_if_success guard_hyp L1); intro L1 cl1 w hL1 hM1 hS) | ((fail_if_success guard_hyp L2); intro L2 cl2 w hL2 hM2 hS) | ((fail_if_success guard_hyp L3); intro L3 cl3 w hL3 hM3 hS) | fail)) | ((first | refine sN1 hS rfl ?_ | (refine oC ?_; first | refine sC0 hS rfl ?_ | refine sC1 hS rfl rfl ?_ | refine sC2 hS rfl rfl ?_ | refine sC3 hS rfl rfl rfl ?_ | refine sC4 hS rfl rfl rfl ?_) | refine sM1 hS rfl rfl rfl ?_); clear hS; first | ((fail_if_success guard_hyp g1); intro g1 w hS) | ((fail_if_success guard_hyp g2); intro g2 w hS) | ((fail_if_success guard_hyp g3); intro g3 w hS) | ((fail_if_success guard_hyp g4); intro g4 w hS) | ((fail_if_success guard_hyp g5); intro g5 w hS) | ((fail_if_success guard_hyp g6); intro g6 w hS) | ((fail_if_success guard_hyp g7); intro g7 w hS) | fail) | fail)
              go_roundw
              case measure => simp [intOf]; omega
              refine ⟨i + 1, na + 1, k1, k2, k3', some ⟨gl, 0, none⟩, L2, L3', p.send ⟨s, xi, q, 0⟩, _, _, _, by omega, by go_num, by omega, hk2, hk2', Lib.hid ⟨HN.out.1.send0 (by rw [HN.out.2.1]; exact hoth.1) (by rw [HN.out.2.1]; exact hqlt) hoth.2 (by omega) (by rw [HNS.out]; omega) (by omega), HN.out.2.1, by simp [Pat.send, HN.out.2.2.1], HP.out.2.2.2⟩, hS⟩
            · have hkk2 : ¬ (kk : Int) < 2 := by omega
              have b2 : ((kk : Int) == 2) = false := by simp; omega
              have b3 : ((kk : Int) == 3) = false := by simp; omega
              go_wp2_with (first | (refine oL ?_; (first | refine sL1 hS rfl rfl rfl ?_ | refine sL2 hS rfl rfl rfl ?_ | refine sL3 hS rfl rfl ?_ | refine sL4 hS rfl rfl ?_ | refine sL5 hS rfl rfl ?_ | refine sL6 hS rfl rfl ?_ | refine sL7 hS rfl rfl ?_)) | (refine oS ?_; ((first | refine sS1 hS rfl rfl rfl ?_ | refine sS2 hS rfl rfl rfl ?_ | refine sS3 hS rfl rfl rfl ?_ | refine sS4 hS rfl rfl rfl ?_ | refine sS5 hS rfl rfl rfl ?_); clear hS; intro w hS)) | (refine oP ?_; ((first | refine sP1 hS rfl rfl rfl ?_ | refine sP2 hS rfl rfl rfl ?_ | refine sP3 hS rfl rfl rfl ?_); clear hS; first | ((fail_if_success guard_hyp L1); intro L1 cl1 w hL1 hM1 hS) | ((fail_if_success guard_hyp L2); intro L2 cl2 w hL2 hM2 hS) | ((fail_if_success guard_hyp L3); intro L3 cl3 w hL3 hM3 hS) | fail)) | ((first | refine sN1 hS rfl ?_ | (refine oC ?_; first | refine sC0 hS rfl ?_ | refine sC1 hS rfl rfl ?_ | refine sC2 hS rfl rfl ?_ | refine sC3 hS rfl rfl rfl ?_ | refine sC4 hS rfl rfl rfl ?_) | refine sM1 hS rfl rfl rfl ?_); clear hS; first | ((fail_if_success guard_hyp g1); intro g1 w hS) | ((fail_if_success guard_hyp g2); intro g2 w hS) | ((fail_if_success guard_hyp g3); intro g3 w hS) | ((fail_if_success guard_hyp g4); intro g4 w hS) | ((fail_if_success guard_hyp g5); intro g5 w hS) | ((fail_if_success guard_hyp g6); intro g6 w hS) | ((fail_if_success guard_hyp g7); intro g7 w hS) | fail) | fail)
              refine (next_z (k - 1) hS rfl (by omega) (by omega)).mono ?_
              rintro e w ⟨rfl, hS⟩
              rw [HJ.out]
              obtain ⟨mm, hmm⟩ : ∃ mm, mm = min 3 (n0 + 1) := ⟨_, rfl⟩
              have hmin : (if (n0 : Int) + 1 < 3 then (n0 : Int) + 1 else 3) = (mm : Int) := by split <;> omega
              have hmm1 : 1 ≤ mm := by omega
              have hmm2 : mm ≤ n0 + 1 := by omega
              have hxlt := nxt_lt r'.tail.tail.tail (n := mm) (by omega)
              generalize hxx : nxt r'.tail.tail.tail mm = xi at *
              have HX := Lib.hid hxx
              clear hxx hmm
              have hxn : (n0 : Int) - (xi : Int) = ((n0 - xi : Nat) : Int) := by omega
              go_wp2_with (first | (refine oL ?_; (first | refine sL1 hS rfl rfl rfl ?_ | refine sL2 hS rfl rfl rfl ?_ | refine sL3 hS rfl rfl ?_ | refine sL4 hS rfl rfl ?_ | refine sL5 hS rfl rfl ?_ | refine sL6 hS rfl rfl ?_ | refine sL7 hS rfl rfl ?_)) | (refine oS ?_; ((first | refine sS1 hS rfl rfl rfl ?_ | refine sS2 hS rfl rfl rfl ?_ | refine sS3 hS rfl rfl rfl ?_ | refine sS4 hS rfl rfl rfl ?_ | refine sS5 hS rfl rfl rfl ?_); clear hS; intro w hS)) | (refine oP ?_; ((first | refine sP1 hS rfl rfl rfl ?_ | refine sP2 hS rfl rfl rfl ?_ | refine sP3 hS rfl rfl rfl ?_); clear hS; first | ((fail_if_success guard_hyp L1); intro L1 cl1 w hL1 hM1 hS) | ((fail_if_success guard_hyp L2); intro L2 cl2 w hL2 hM2 hS) | ((fail_if_success guard_hyp L3); intro L3 cl3 w hL3 hM3 hS) | fail)) | ((first | refine sN1 hS rfl ?_ | (refine oC ?_; first | refine sC0 hS rfl ?_ | refine sC1 hS rfl rfl ?_ | refine sC2 hS rfl rfl ?_ | refine sC3 hS rfl rfl rfl ?_ | refine sC4 hS rfl rfl rfl ?_) | refine sM1 hS rfl rfl rfl ?_); clear hS; first | ((fail_if_success guard_hyp g1); intro g1 w hS) | ((fail_if_success guard_hyp g2); intro g2 w hS) | ((fail_if_success guard_hyp g3); intro g3 w hS) | ((fail_if_success guard_hyp g4); intro g4 w hS) | ((fail_if_success guard_hyp g5); intro g5 w hS) | ((fail_if_success guard_hyp g6); intro g6 w hS) | ((fail_if_success guard_hyp g7); intro g7 w hS) | fail) | fail)
              refine dr_start1 [19] 5 hS (by kernel_rfl) rfl ?_; clear hS; intro w hS
              first | refine dL1 hS 0 rfl rfl rfl rfl ?_ | refine dL2 hS 0 rfl rfl rfl rfl ?_ | refine dL3 hS 0 rfl rfl rfl ?_ | refine dL4 hS 0 rfl rfl rfl ?_ | refine dL5 hS 0 rfl rfl rfl ?_ | refine dL6 hS 0 rfl rfl rfl ?_ | refine dL7 hS 0 rfl rfl rfl ?_
              (try simp only [Act.put, nA, nB, nC])
              refine dM hS 1 rfl rfl rfl ?_
              (try simp only [Act.put, nA, nB, nC])
              refine dM hS 2 rfl rfl rfl ?_
              (try simp only [Act.put, nA, nB, nC])
              refine dP hS 3 rfl rfl ?_
              (try simp only [Act.put, nA, nB, nC])
              first | refine dL1 hS 4 rfl rfl rfl rfl ?_ | refine dL2 hS 4 rfl rfl rfl rfl ?_ | refine dL3 hS 4 rfl rfl rfl ?_ | refine dL4 hS 4 rfl rfl rfl ?_ | refine dL5 hS 4 rfl rfl rfl ?_ | refine dL6 hS 4 rfl rfl rfl ?_ | refine dL7 hS 4 rfl rfl rfl ?_
              (try simp only [Act.put, nA, nB, nC])
              refine dM hS 5 rfl rfl rfl ?_
              (try simp only [Act.put, nA, nB, nC])
              refine dP hS 6 rfl rfl ?_
              (try simp only [Act.put, nA, nB, nC])
              first | refine dL1 hS 7 rfl rfl rfl rfl ?_ | refine dL2 hS 7 rfl rfl rfl rfl ?_ | refine dL3 hS 7 rfl rfl rfl ?_ | refine dL4 hS 7 rfl rfl rfl ?_ | refine dL5 hS 7 rfl rfl rfl ?_ | refine dL6 hS 7 rfl rfl rfl ?_ | refine dL7 hS 7 rfl rfl rfl ?_
              (try simp only [Act.put, nA, nB, nC])
              refine dM hS 8 rfl rfl rfl ?_
              (try simp only [Act.put, nA, nB, nC])
              refine dP hS 9 rfl rfl ?_
              (try simp only [Act.put, nA, nB, nC])
              first | refine dL1 hS 10 rfl rfl rfl rfl ?_ | refine dL2 hS 10 rfl rfl rfl rfl ?_ | refine dL3 hS 10 rfl rfl rfl ?_ | refine dL4 hS 10 rfl rfl rfl ?_ | refine dL5 hS 10 rfl rfl rfl ?_ | refine dL6 hS 10 rfl rfl rfl ?_ | refine dL7 hS 10 rfl rfl rfl ?_
              (try simp only [Act.put, nA, nB, nC])
              refine dM hS 11 rfl rfl rfl ?_
              (try simp only [Act.put, nA, nB, nC])
              refine dP hS 12 rfl rfl ?_
              (try simp only [Act.put, nA, nB, nC])
              first | refine dL1 hS 13 rfl rfl rfl rfl ?_ | refine dL2 hS 13 rfl rfl rfl rfl ?_ | refine dL3 hS 13 rfl rfl rfl ?_ | refine dL4 hS 13 rfl rfl rfl ?_ | refine dL5 hS 13 rfl rfl rfl ?_ | refine dL6 hS 13 rfl rfl rfl ?_ | refine dL7 hS 13 rfl rfl rfl ?_
              (try simp only [Act.put, nA, nB, nC])
              refine dP hS 14 rfl rfl ?_
              (try simp only [Act.put, nA, nB, nC])
              refine dP hS 15 rfl rfl ?_
              (try simp only [Act.put, nA, nB, nC])
              refine dr_one 16 (by kernel_rfl) rfl ?_
              (refine st_call rfl (by kernel_rfl) rfl ?_; go_at_call 59; refine (next_z mm hS (by first | rfl | omega) (by omega) (by omega)).mono ?_; rintro e w ⟨rfl, hS⟩; rw [HX.out])
              (try simp only [Act.put, nA, nB, nC])
              refine dr_end hS ?_
              refine dP hS 17 rfl rfl ?_
              (try simp only [Act.put, nA, nB, nC])
              refine dr_one 18 (by kernel_rfl) rfl ?_
              (refine st_call rfl (by kernel_rfl) rfl ?_; go_at_call 61; refine (with_recv p q s ((n0 - xi : Nat) : Int) rfl (by first | exact hse | rfl) (by first | rfl | omega) HN.out.2.1 HN.out.2.2.2 HN.out.2.2.1 hS.ri hS.ra HN.out.1.good hqlt (by omega) hoth.1 hoth.2 (by omega) (by rw [HNS.out]; omega) (by omega)).mono ?_; rintro e w' ⟨L1', k1', L3', k3', rfl, ho1, ho3, hx1⟩; have hS := hS.addRow2 ho1 ho3 (by decide) hx1)
              (try simp only [Act.put, nA, nB, nC])
              refine dr_end hS ?_
              refine dr_one 19 (by kernel_rfl) rfl ?_
              ((first | refine sS1 hS rfl rfl rfl ?_ | refine sS2 hS rfl rfl rfl ?_ | refine sS3 hS rfl rfl rfl ?_ | refine sS4 hS rfl rfl rfl ?_ | refine sS5 hS rfl rfl rfl ?_); clear hS; intro w hS)
              (try simp only [Act.put, nA, nB, nC])
              refine dr_late (by kernel_rfl) ?_
              refine dr_done (by kernel_rfl) ?_
              go_wp2_with (first | (refine oL ?_; (first | refine sL1 hS rfl rfl rfl ?_ | refine sL2 hS rfl rfl rfl ?_ | refine sL3 hS rfl rfl ?_ | refine sL4 hS rfl rfl ?_ | refine sL5 hS rfl rfl ?_ | refine sL6 hS rfl rfl ?_ | refine sL7 hS rfl rfl ?_)) | (refine oS ?_; ((first | refine sS1 hS rfl rfl rfl ?_ | refine sS2 hS rfl rfl rfl ?_ | refine sS3 hS rfl rfl rfl ?_ | refine sS4 hS rfl rfl rfl ?_ | refine sS5 hS rfl rfl rfl ?_); clear hS; intro w hS)) | (refine oP ?_; ((first | refine sP1 hS rfl rfl rfl ?_ | refine sP2 hS rfl rfl rfl ?_ | refine sP3 hS rfl rfl rfl ?_); clear hS; first | ((fail_if_success guard_hyp L1); intro L1 cl1 w hL1 hM1 hS) | ((fail_if_success guard_hyp L2); intro L2 cl2 w hL2 hM2 hS) | ((fail_if_success guard_hyp L3); intro L3 cl3 w hL3 hM3 hS) | fail)) | ((first | refine sN1 hS rfl ?_ | (refine oC ?_; first | refine sC0 hS rfl ?_ | refine sC1 hS rfl rfl ?_ | refine sC2 hS rfl rfl ?_ | refine sC3 hS rfl rfl rfl ?_ | refine sC4 hS rfl rfl rfl ?_) | refine sM1 hS rfl rfl rfl ?_); clear hS; first | ((fail_if_success guard_hyp g1); intro g1 w hS) | ((fail_if_success guard_hyp g2); intro g2 w hS) | ((fail_if_success guard_hyp g3); intro g3 w hS) | ((fail_if_success guard_hyp g4); intro g4 w hS) | ((fail_if_success guard_hyp g5); intro g5 w hS) | ((fail_if_success guard_hyp g6); intro g6 w hS) | ((fail_if_success guard_hyp g7); intro g7 w hS) | fail) | fail)
              go_roundw
              case measure => simp [intOf]; omega
              exact ⟨i + 1, na + 1, k1', k2, k3', L1', L2, L3', (p.more q).send ⟨s, ((n0 - xi : Nat) : Int), q, nth p.len q + 1⟩, _, _, r'.tail.tail.tail.tail, by omega, by go_num, by omega, hk2, hk2', Lib.hid ⟨HN.out.1.recv (by rw [HN.out.2.1]; exact hoth.1) (by rw [HN.out.2.1]; exact hqlt) hoth.2 (by omega) (by rw [HNS.out]; omega) (by omega), (p.more_length q).trans HN.out.2.1, by simp [Pat.send, Pat.more, HN.out.2.2.1], HP.out.2.2.2⟩, hS.re⟩
        · have d1 : decide ((i : Int) < (m : Int)) = false := by simp; omega
          go_wp2_with (first | (refine oL ?_; (first | refine sL1 hS rfl rfl rfl ?_ | refine sL2 hS rfl rfl rfl ?_ | refine sL3 hS rfl rfl ?_ | refine sL4 hS rfl rfl ?_ | refine sL5 hS rfl rfl ?_ | refine sL6 hS rfl rfl ?_ | refine sL7 hS rfl rfl ?_)) | (refine oS ?_; ((first | refine sS1 hS rfl rfl rfl ?_ | refine sS2 hS rfl rfl rfl ?_ | refine sS3 hS rfl rfl rfl ?_ | refine sS4 hS rfl rfl rfl ?_ | refine sS5 hS rfl rfl rfl ?_); clear hS; intro w hS)) | (refine oP ?_; ((first | refine sP1 hS rfl rfl rfl ?_ | refine sP2 hS rfl rfl rfl ?_ | refine sP3 hS rfl rfl rfl ?_); clear hS; first | ((fail_if_success guard_hyp L1); intro L1 cl1 w hL1 hM1 hS) | ((fail_if_success guard_hyp L2); intro L2 cl2 w hL2 hM2 hS) | ((fail_if_success guard_hyp L3); intro L3 cl3 w hL3 hM3 hS) | fail)) | ((first | refine sN1 hS rfl ?_ | (refine oC ?_; first | refine sC0 hS rfl ?_ | refine sC1 hS rfl rfl ?_ | refine sC2 hS rfl rfl ?_ | refine sC3 hS rfl rfl rfl ?_ | refine sC4 hS rfl rfl rfl ?_) | refine sM1 hS rfl rfl rfl ?_); clear hS; first | ((fail_if_success guard_hyp g1); intro g1 w hS) | ((fail_if_success guard_hyp g2); intro g2 w hS) | ((fail_if_success guard_hyp g3); intro g3 w hS) | ((fail_if_success guard_hyp g4); intro g4 w hS) | ((fail_if_success guard_hyp g5); intro g5 w hS) | ((fail_if_success guard_hyp g6); intro g6 w hS) | ((fail_if_success guard_hyp g7); intro g7 w hS) | fail) | fail)
          exact st_retC hS rfl rfl rfl rfl (HRET.out (by omega) _ hS)
end Go.Proofs.Ytkflmichekpfbaa
