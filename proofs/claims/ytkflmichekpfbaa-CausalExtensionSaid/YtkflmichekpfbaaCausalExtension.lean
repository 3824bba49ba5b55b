/- CausalExtension returns true for every input. No condition. -/
import Derived.Test.YtkflmichekpfbaaOrdE
namespace Go.Proofs.Ytkflmichekpfbaa
open Go.RowKit
set_option linter.unusedVariables false
set_option linter.unusedSimpArgs false

theorem ord_len {p : Pat} : ∀ n, nextQ p (ordSt p n).2 ≠ none → (ordSt p n).1.length = n
  | 0, _ => rfl
  | n + 1, h => by
    cases hn : nextQ p (ordSt p n).2 with
    | none => rw [ordSt_none hn 1] at h; exact absurd hn h
    | some q =>
      have ih := ord_len n (by rw [hn]; simp)
      rw [ordSt_some hn]
      simp [ih]
theorem ord_mono {p : Pat} (n : Nat) : ∀ m, (ordSt p n).1.length ≤ (ordSt p (n + m)).1.length
  | 0 => Nat.le_refl _
  | m + 1 => by
    have ih := ord_mono (p := p) n m
    cases hn : nextQ p (ordSt p (n + m)).2 with
    | none => rw [← Nat.add_assoc, ordSt_none hn 1]; exact ih
    | some q => rw [← Nat.add_assoc, ordSt_some hn]; simp; omega
theorem ord_at {p : Pat} : ∀ (n i : Nat), i < (ordSt p n).1.length → ∃ q, nextQ p (ordSt p i).2 = some q ∧ (ordSt p n).1[i]? = some (q, nth (ordSt p i).2 q + 1)
  | 0, i, h => by simp [ordSt] at h
  | n + 1, i, h => by
    cases hn : nextQ p (ordSt p n).2 with
    | none => rw [ordSt_none hn 1] at h ⊢; exact ord_at n i h
    | some q =>
      have hl := ord_len n (by rw [hn]; simp)
      rw [ordSt_some hn] at h ⊢
      simp only [List.length_append, List.length_singleton, hl] at h
      by_cases hi : i < n
      · obtain ⟨r, h1, h2⟩ := ord_at (p := p) n i (by omega)
        exact ⟨r, h1, by rw [List.getElem?_append_left (by omega)]; exact h2⟩
      · have : i = n := by omega
        subst this
        exact ⟨q, hn, by rw [List.getElem?_append_right (by omega), hl]; simp⟩
theorem ord_end {p : Pat} {n : Nat} {l : List (Nat × Int)} {z : List Int} (h : ordSt p n = (l, z)) (hn : nextQ p z = none) : ordSt p l.length = (l, z) := by
  have h1 : nextQ p (ordSt p n).2 = none := by rw [h]; exact hn
  have h2 : nextQ p (ordSt p l.length).2 = none := by
    cases hs : nextQ p (ordSt p l.length).2 with
    | none => rfl
    | some q =>
      exfalso
      have hl := ord_len l.length (by rw [hs]; simp)
      by_cases hle : n ≤ l.length
      · have := ordSt_none h1 (l.length - n)
        rw [show n + (l.length - n) = l.length by omega] at this
        rw [this, h1] at hs
        cases hs
      · have hm := ord_mono (p := p) (l.length + 1) (n - (l.length + 1))
        rw [show l.length + 1 + (n - (l.length + 1)) = n by omega, ordSt_some hs, h] at hm
        simp [hl] at hm
        omega
  rw [← ordSt_end h1 h2, h]
theorem order_n {S : Nat → Prop} {A1 A2 A3 : Option Addr} {c1 c2 c3 n1 n2 n3 : Nat} {p : Pat} {w : World} (e1 : p.len.length = n1) (e2 : p.ck.length = n2) (e3 : p.arcs.length = n3) (hp : PatAt S w ⟨A1, c1, A2, c2, A3, c3⟩ p) (hg : Good p) :
    Calls Try.prog 35 #[.agg #[.slice A1 n1 c1, .slice A2 n2 c2, .slice A3 n3 c3]] w (OrdRes p w) := by
  subst e1 e2 e3; exact order_any ⟨A1, c1, A2, c2, A3, c3⟩ p w hp hg
theorem can_n {S T : Nat → Prop} {A1 A2 A3 X : Option Addr} {c1 c2 c3 cx n1 n2 n3 n q : Nat} {z : Int} {p : Pat} {x : List Int} {w : World} (e1 : p.len.length = n1) (e2 : p.ck.length = n2) (e3 : p.arcs.length = n3) (hn : p.len.length = n) (hz : z = q) (hp : PatAt S w ⟨A1, c1, A2, c2, A3, c3⟩ p) (hg : Good p) (hx : RI T w X x) (hv : validB p.len x = true) (hq : q < p.len.length) :
    Calls Try.prog 36 #[.agg #[.slice A1 n1 c1, .slice A2 n2 c2, .slice A3 n3 c3], .slice X n cx, .int .i64 z] w fun e w' => e = .returned (.bool (canB p x q)) ∧ Ext w w' := by
  subst e1 e2 e3 hn hz; exact can_any ⟨A1, c1, A2, c2, A3, c3⟩ p X cx x q w hp hg hx hv hq
set_option maxRecDepth 100000 in
set_option maxHeartbeats 6400000 in
theorem causalExtension_any (C : Option Addr) (f : Nat) (bs : List Int) (w0 : World) (hbs : RV (fun b => b < w0.heap.size) w0 C (bytes bs)) (hf : bs.length ≤ f) (hf' : f ≤ 9223372036854775807) (hby : ∀ b ∈ bs, 0 ≤ b ∧ b ≤ 255) :
    Calls Try.prog 8 #[.slice C bs.length f] w0 fun e w' => e = .returned (.bool true) ∧ Ext w0 w' := by
  have hS := St.start w0 NoM
  have HB := Lib.hid (And.intro hby (RV.sub (S' := Froz w0 NoM) hbs (fun k hk => ⟨hk, id⟩)))
  clear hby hbs
  go_enter Try.func8, Try.ntmps8
  go_wp2_with (first | (go_at_call 15; refine (awake17_any _).mono ?_; rintro e w ⟨rfl, hx1⟩; replace hS := hS.ext hx1) | (refine oL ?_; (first | refine sL1 hS rfl rfl rfl ?_ | refine sL2 hS rfl rfl rfl ?_ | refine sL3 hS rfl rfl ?_ | refine sL4 hS rfl rfl ?_ | refine sL5 hS rfl rfl ?_ | refine sL6 hS rfl rfl ?_ | refine sL7 hS rfl rfl ?_)) | (refine oS ?_; ((first | refine sS1 hS rfl rfl rfl ?_ | refine sS2 hS rfl rfl rfl ?_ | refine sS3 hS rfl rfl rfl ?_ | refine sS4 hS rfl rfl rfl ?_ | refine sS5 hS rfl rfl rfl ?_); clear hS; intro w hS)) | ((first | refine sN1 hS rfl ?_ | refine sM1 hS rfl rfl rfl ?_); clear hS; first | ((fail_if_success guard_hyp g1); intro g1 w hS) | ((fail_if_success guard_hyp g2); intro g2 w hS) | ((fail_if_success guard_hyp g3); intro g3 w hS) | ((fail_if_success guard_hyp g4); intro g4 w hS) | fail) | fail)
  refine (new_st (m := 240) hS (by omega) HB.out.2 hf hf' HB.out.1).mono ?_
  rintro e w ⟨gc, κ, rfl, hS⟩
  clear HB
  generalize bs.take 240 = r at *
  go_wp2_with (first | (refine oL ?_; (first | refine sL1 hS rfl rfl rfl ?_ | refine sL2 hS rfl rfl rfl ?_ | refine sL3 hS rfl rfl ?_ | refine sL4 hS rfl rfl ?_ | refine sL5 hS rfl rfl ?_ | refine sL6 hS rfl rfl ?_ | refine sL7 hS rfl rfl ?_)) | (refine oS ?_; ((first | refine sS1 hS rfl rfl rfl ?_ | refine sS2 hS rfl rfl rfl ?_ | refine sS3 hS rfl rfl rfl ?_ | refine sS4 hS rfl rfl rfl ?_ | refine sS5 hS rfl rfl rfl ?_); clear hS; intro w hS)) | ((first | refine sN1 hS rfl ?_ | refine sM1 hS rfl rfl rfl ?_); clear hS; first | ((fail_if_success guard_hyp g1); intro g1 w hS) | ((fail_if_success guard_hyp g2); intro g2 w hS) | ((fail_if_success guard_hyp g3); intro g3 w hS) | ((fail_if_success guard_hyp g4); intro g4 w hS) | fail) | fail)
  refine (pattern_st (m := 20) hS rfl (by omega)).mono ?_
  rintro e w ⟨v, p, r1, T, rfl, hsm, hpa, hS⟩
  have HP := Lib.hid (And.intro hsm hpa)
  have e1 := hsm.good.ckl
  have hn5 := hsm.good.n5
  obtain ⟨A1, c1, A2, c2, A3, c3⟩ := v
  simp only [PV.val]
  have HE := Lib.hid e1
  have hn2 := hsm.good.n2
  have hfew := hsm.few
  clear hsm hpa e1
  generalize hu : w = u at *
  have HG := Lib.hid HP.out.1.good
  have HPp := Lib.hid HP.out.2
  clear HP
  go_wp2_with (first | (go_at_call 35; refine (order_n rfl rfl rfl (HPp.out.into hS.frozInto) HG.out).mono ?_; rintro e w ⟨nn, l, hos, hnq, hl320, Lp, cp, rfl, ho, hx1⟩; replace hS := hS.addRow ho hx1; clear ho; have HO := Lib.hid (And.intro hos hnq); clear hos hnq) | (refine oL ?_; (first | refine sL1 hS rfl rfl rfl ?_ | refine sL2 hS rfl rfl rfl ?_ | refine sL3 hS rfl rfl ?_ | refine sL4 hS rfl rfl ?_ | refine sL5 hS rfl rfl ?_ | refine sL6 hS rfl rfl ?_ | refine sL7 hS rfl rfl ?_)) | (refine oS ?_; ((first | refine sS1 hS rfl rfl rfl ?_ | refine sS2 hS rfl rfl rfl ?_ | refine sS3 hS rfl rfl rfl ?_ | refine sS4 hS rfl rfl rfl ?_ | refine sS5 hS rfl rfl rfl ?_); clear hS; intro w hS)) | ((first | refine sN1 hS rfl ?_ | refine sM1 hS rfl rfl rfl ?_); clear hS; first | ((fail_if_success guard_hyp g1); intro g1 w hS) | ((fail_if_success guard_hyp g2); intro g2 w hS) | ((fail_if_success guard_hyp g3); intro g3 w hS) | ((fail_if_success guard_hyp g4); intro g4 w hS) | fail) | fail)
  go_loopw [22] (fun s22 wr => ∃ (i : Nat) (x : List Int), i ≤ l.length ∧ s22 = .int .i64 i ∧ Hid ((ordSt p i).2 = x) ∧ St w0 NoM [row (.slice Lp l.length cp) 37 2 l.length (l.flatMap ptCells), row (.slice (some ⟨g2, 0, none⟩) p.len.length p.len.length) 3 1 p.len.length (ints x), blk g1 [.slice A1 p.len.length c1, .slice A2 p.ck.length c2, .slice A3 p.arcs.length c3] 28, froz T u] wr) (fun s22 _ => l.length - (intOf s22).toNat)
  case atStart => exact ⟨0, List.replicate p.len.length 0, by omega, rfl, Lib.hid rfl, hS.re⟩
  case round =>
    obtain ⟨i, x, hi, rfl, HX, hS⟩ := hrel
    have HV := Lib.hid (show validB p.len x = true by rw [← HX.out]; exact ordSt_valid HG.out i)
    have HXL := Lib.hid (valid_iff.1 HV.out).1
    by_cases hlt : i < l.length
    · obtain ⟨gp, rfl⟩ := hS.rowSome Lp (by omega)
      have HPT := Lib.hid (pt_at' hlt)
      obtain ⟨q, hnq, hat⟩ := ord_at nn i (by rw [HO.out.1]; exact hlt)
      rw [HO.out.1, HX.out] at hat
      rw [HX.out] at hnq
      simp only [List.getElem?_eq_getElem hlt, Option.some.injEq] at hat
      rw [hat] at HPT
      obtain ⟨hq, hc, hb⟩ := nextQ_some hnq
      have HC := Lib.hid (And.intro hc hb)
      have HST := Lib.hid (show (ordSt p (i + 1)).2 = goOn x q by rw [ordSt_some (q := q) (by rw [HX.out]; exact hnq), HX.out])
      have hqx : q < x.length := by rw [HXL.out]; exact hq
      have hcell : (ints x)[q]? = some (.int .i64 (nth x q)) := by rw [ints_get hqx, nth_eq hqx]
      have hxb := (valid_iff.1 HV.out).2 q hq
      have hhi := HG.out.hi q hq
      have hq' : (q : Int) < p.len.length := by omega
      have HGO := Lib.hid (show goOn x q = x.set q (nth x q + 1) from rfl)
      clear hat hnq hc hb
      simp only at HPT
      generalize nth x q = xq at *
      have d0 : decide ((q : Int) < 0) = false := decide_eq_false (by omega)
      have d1 : decide ((p.len.length : Int) ≤ (q : Int)) = false := decide_eq_false (by omega)
      have d1' : decide (p.len.length ≤ q) = false := decide_eq_false (by omega)
      have e0 : ((xq + 1) != (xq + 1)) = false := by simp
      go_wp2_with (first | (refine oL ?_; refine sL8 hS rfl rfl HPT.out rfl ?_) | (refine oL ?_; (first | refine sL1 hS rfl rfl rfl ?_ | refine sL2 hS rfl rfl rfl ?_ | refine sL3 hS rfl rfl ?_ | refine sL4 hS rfl rfl ?_ | refine sL5 hS rfl rfl ?_ | refine sL6 hS rfl rfl ?_ | refine sL7 hS rfl rfl ?_)) | (refine oS ?_; ((first | refine sS1 hS rfl rfl rfl ?_ | refine sS2 hS rfl rfl rfl ?_ | refine sS3 hS rfl rfl rfl ?_ | refine sS4 hS rfl rfl rfl ?_ | refine sS5 hS rfl rfl rfl ?_); clear hS; intro w hS)) | ((first | refine sN1 hS rfl ?_ | refine sM1 hS rfl rfl rfl ?_); clear hS; first | ((fail_if_success guard_hyp g1); intro g1 w hS) | ((fail_if_success guard_hyp g2); intro g2 w hS) | ((fail_if_success guard_hyp g3); intro g3 w hS) | ((fail_if_success guard_hyp g4); intro g4 w hS) | fail) | fail)
      refine dr_start0 []  hS (by kernel_rfl) rfl ?_; clear hS; intro w hS
      refine dP hS 0 rfl rfl ?_
      (try simp only [Act.put, nA, nB, nC])
      first | refine dL1 hS 1 rfl rfl rfl rfl ?_ | refine dL2 hS 1 rfl rfl rfl rfl ?_ | refine dL3 hS 1 rfl rfl rfl ?_ | refine dL4 hS 1 rfl rfl rfl ?_ | refine dL5 hS 1 rfl rfl rfl ?_ | refine dL6 hS 1 rfl rfl rfl ?_ | refine dL7 hS 1 rfl rfl rfl ?_
      (try simp only [Act.put, nA, nB, nC])
      refine dP hS 2 rfl rfl ?_
      (try simp only [Act.put, nA, nB, nC])
      refine dM hS 3 rfl rfl rfl ?_
      (try simp only [Act.put, nA, nB, nC])
      first | refine dP hS 4 rfl rfl ?_ | refine dQ hS 4 rfl rfl ?_
      (try simp only [Act.put, nA, nB, nC])
      first | refine dL1 hS 5 rfl rfl rfl rfl ?_ | refine dL2 hS 5 rfl rfl rfl rfl ?_ | refine dL3 hS 5 rfl rfl rfl ?_ | refine dL4 hS 5 rfl rfl rfl ?_ | refine dL5 hS 5 rfl rfl rfl ?_ | refine dL6 hS 5 rfl rfl rfl ?_ | refine dL7 hS 5 rfl rfl rfl ?_ | refine dQ hS 5 rfl rfl ?_
      (try simp only [Act.put, nA, nB, nC])
      first | refine dM hS 6 rfl rfl rfl ?_ | refine dQ hS 6 rfl rfl ?_
      (try simp only [Act.put, nA, nB, nC])
      first | refine dP hS 7 rfl rfl ?_ | refine dQ hS 7 rfl rfl ?_
      (try simp only [Act.put, nA, nB, nC])
      first | refine dP hS 8 rfl rfl ?_ | refine dQ hS 8 rfl rfl ?_
      (try simp only [Act.put, nA, nB, nC])
      refine dP hS 9 rfl rfl ?_
      (try simp only [Act.put, nA, nB, nC])
      refine dM hS 10 rfl rfl rfl ?_
      (try simp only [Act.put, nA, nB, nC])
      first | refine dP hS 11 rfl rfl ?_ | refine dQ hS 11 rfl rfl ?_
      (try simp only [Act.put, nA, nB, nC])
      first | refine dL1 hS 12 rfl rfl rfl rfl ?_ | refine dL2 hS 12 rfl rfl rfl rfl ?_ | refine dL3 hS 12 rfl rfl rfl ?_ | refine dL4 hS 12 rfl rfl rfl ?_ | refine dL5 hS 12 rfl rfl rfl ?_ | refine dL6 hS 12 rfl rfl rfl ?_ | refine dL7 hS 12 rfl rfl rfl ?_ | refine dQ hS 12 rfl rfl ?_
      (try simp only [Act.put, nA, nB, nC])
      first | refine dM hS 13 rfl rfl rfl ?_ | refine dQ hS 13 rfl rfl ?_
      (try simp only [Act.put, nA, nB, nC])
      first | refine dP hS 14 rfl rfl ?_ | refine dQ hS 14 rfl rfl ?_
      (try simp only [Act.put, nA, nB, nC])
      first | refine dL1 hS 15 rfl rfl rfl rfl ?_ | refine dL2 hS 15 rfl rfl rfl rfl ?_ | refine dL3 hS 15 rfl rfl rfl ?_ | refine dL4 hS 15 rfl rfl rfl ?_ | refine dL5 hS 15 rfl rfl rfl ?_ | refine dL6 hS 15 rfl rfl rfl ?_ | refine dL7 hS 15 rfl rfl rfl ?_ | refine dQ hS 15 rfl rfl ?_
      (try simp only [Act.put, nA, nB, nC])
      first | refine dP hS 16 rfl rfl ?_ | refine dQ hS 16 rfl rfl ?_
      (try simp only [Act.put, nA, nB, nC])
      first | refine dL1 hS 17 rfl rfl rfl rfl ?_ | refine dL2 hS 17 rfl rfl rfl rfl ?_ | refine dL3 hS 17 rfl rfl rfl ?_ | refine dL4 hS 17 rfl rfl rfl ?_ | refine dL5 hS 17 rfl rfl rfl ?_ | refine dL6 hS 17 rfl rfl rfl ?_ | refine dL7 hS 17 rfl rfl rfl ?_ | refine dQ hS 17 rfl rfl ?_
      (try simp only [Act.put, nA, nB, nC])
      first | refine dP hS 18 rfl rfl ?_ | refine dQ hS 18 rfl rfl ?_
      (try simp only [Act.put, nA, nB, nC])
      first | refine dP hS 19 rfl rfl ?_ | refine dQ hS 19 rfl rfl ?_
      (try simp only [Act.put, nA, nB, nC])
      refine dP hS 20 rfl rfl ?_
      (try simp only [Act.put, nA, nB, nC])
      refine dM hS 21 rfl rfl rfl ?_
      (try simp only [Act.put, nA, nB, nC])
      first | refine dL1 hS 22 rfl rfl rfl rfl ?_ | refine dL2 hS 22 rfl rfl rfl rfl ?_ | refine dL3 hS 22 rfl rfl rfl ?_ | refine dL4 hS 22 rfl rfl rfl ?_ | refine dL5 hS 22 rfl rfl rfl ?_ | refine dL6 hS 22 rfl rfl rfl ?_ | refine dL7 hS 22 rfl rfl rfl ?_ | refine dQ hS 22 rfl rfl ?_
      (try simp only [Act.put, nA, nB, nC])
      first | refine dM hS 23 rfl rfl rfl ?_ | refine dQ hS 23 rfl rfl ?_
      (try simp only [Act.put, nA, nB, nC])
      first | refine dP hS 24 rfl rfl ?_ | refine dQ hS 24 rfl rfl ?_
      (try simp only [Act.put, nA, nB, nC])
      first | refine dL1 hS 25 rfl rfl rfl rfl ?_ | refine dL2 hS 25 rfl rfl rfl rfl ?_ | refine dL3 hS 25 rfl rfl rfl ?_ | refine dL4 hS 25 rfl rfl rfl ?_ | refine dL5 hS 25 rfl rfl rfl ?_ | refine dL6 hS 25 rfl rfl rfl ?_ | refine dL7 hS 25 rfl rfl rfl ?_ | refine dQ hS 25 rfl rfl ?_
      (try simp only [Act.put, nA, nB, nC])
      refine dr_one 26 (by kernel_rfl) rfl ?_
      (refine st_call rfl (by kernel_rfl) rfl ?_; go_at_call 36; refine (can_n rfl rfl rfl rfl rfl (HPp.out.into hS.frozInto) HG.out hS.ri HV.out hq).mono ?_; rintro e w ⟨rfl, hx1⟩; replace hS := hS.ext hx1; rw [HC.out.1])
      (try simp only [Act.put, nA, nB, nC])
      refine dr_end hS ?_
      first | refine dP hS 27 rfl rfl ?_ | refine dQ hS 27 rfl rfl ?_
      (try simp only [Act.put, nA, nB, nC])
      refine dP hS 28 rfl rfl ?_
      (try simp only [Act.put, nA, nB, nC])
      refine dr_done (by kernel_rfl) ?_
      clear d0 d1 d1' e0
      go_wp2_with (first | (refine oL ?_; (first | refine sL1 hS rfl rfl rfl ?_ | refine sL2 hS rfl rfl rfl ?_ | refine sL3 hS rfl rfl ?_ | refine sL4 hS rfl rfl ?_ | refine sL5 hS rfl rfl ?_ | refine sL6 hS rfl rfl ?_ | refine sL7 hS rfl rfl ?_)) | (refine oS ?_; ((first | refine sS1 hS rfl rfl rfl ?_ | refine sS2 hS rfl rfl rfl ?_ | refine sS3 hS rfl rfl rfl ?_ | refine sS4 hS rfl rfl rfl ?_ | refine sS5 hS rfl rfl rfl ?_); clear hS; intro w hS)) | ((first | refine sN1 hS rfl ?_ | refine sM1 hS rfl rfl rfl ?_); clear hS; first | ((fail_if_success guard_hyp g1); intro g1 w hS) | ((fail_if_success guard_hyp g2); intro g2 w hS) | ((fail_if_success guard_hyp g3); intro g3 w hS) | ((fail_if_success guard_hyp g4); intro g4 w hS) | fail) | fail)
      go_loopw [8] (fun s8 wr => ∃ (j : Nat), j ≤ q ∧ s8 = .int .i64 j ∧ St w0 NoM [blk g3 [.int .i64 (q : Int), .int .i64 (xq + 1)] 37, row (.slice (some ⟨gp, 0, none⟩) l.length cp) 37 2 l.length (l.flatMap ptCells), row (.slice (some ⟨g2, 0, none⟩) p.len.length p.len.length) 3 1 p.len.length (ints x), blk g1 [.slice A1 p.len.length c1, .slice A2 p.ck.length c2, .slice A3 p.arcs.length c3] 28, froz T u] wr) (fun s8 _ => q - (intOf s8).toNat)
      case atStart => exact ⟨0, by omega, rfl, hS.re⟩
      case round =>
        obtain ⟨j, hj, rfl, hS⟩ := hrel
        by_cases hjq : j < q
        · have HJ := Lib.hid (HC.out.2 j hjq)
          have d2 : decide ((j : Int) < (q : Int)) = true := decide_eq_true (by omega)
          have d2' : decide (j < q) = true := decide_eq_true hjq
          go_wp2_with (first | (go_at_call 36; refine (can_n rfl rfl rfl rfl rfl (HPp.out.into hS.frozInto) HG.out hS.ri HV.out (Nat.lt_trans hjq hq)).mono ?_; rintro e w ⟨rfl, hx1⟩; replace hS := hS.ext hx1; rw [HJ.out]) | (refine oL ?_; (first | refine sL1 hS rfl rfl rfl ?_ | refine sL2 hS rfl rfl rfl ?_ | refine sL3 hS rfl rfl ?_ | refine sL4 hS rfl rfl ?_ | refine sL5 hS rfl rfl ?_ | refine sL6 hS rfl rfl ?_ | refine sL7 hS rfl rfl ?_)) | (refine oS ?_; ((first | refine sS1 hS rfl rfl rfl ?_ | refine sS2 hS rfl rfl rfl ?_ | refine sS3 hS rfl rfl rfl ?_ | refine sS4 hS rfl rfl rfl ?_ | refine sS5 hS rfl rfl rfl ?_); clear hS; intro w hS)) | ((first | refine sN1 hS rfl ?_ | refine sM1 hS rfl rfl rfl ?_); clear hS; first | ((fail_if_success guard_hyp g1); intro g1 w hS) | ((fail_if_success guard_hyp g2); intro g2 w hS) | ((fail_if_success guard_hyp g3); intro g3 w hS) | ((fail_if_success guard_hyp g4); intro g4 w hS) | fail) | fail)
          go_roundw
          case measure => simp [intOf]; omega
          exact ⟨j + 1, by omega, by go_num, hS.re⟩
        · have hje : j = q := by omega
          subst hje
          go_wp2_with (first | (refine oL ?_; (first | refine sL1 hS rfl rfl rfl ?_ | refine sL2 hS rfl rfl rfl ?_ | refine sL3 hS rfl rfl ?_ | refine sL4 hS rfl rfl ?_ | refine sL5 hS rfl rfl ?_ | refine sL6 hS rfl rfl ?_ | refine sL7 hS rfl rfl ?_)) | (refine oS ?_; ((first | refine sS1 hS rfl rfl rfl ?_ | refine sS2 hS rfl rfl rfl ?_ | refine sS3 hS rfl rfl rfl ?_ | refine sS4 hS rfl rfl rfl ?_ | refine sS5 hS rfl rfl rfl ?_); clear hS; intro w hS)) | ((first | refine sN1 hS rfl ?_ | refine sM1 hS rfl rfl rfl ?_); clear hS; first | ((fail_if_success guard_hyp g1); intro g1 w hS) | ((fail_if_success guard_hyp g2); intro g2 w hS) | ((fail_if_success guard_hyp g3); intro g3 w hS) | ((fail_if_success guard_hyp g4); intro g4 w hS) | fail) | fail)
          go_roundw
          case measure => simp [intOf]; omega
          refine ⟨i + 1, goOn x j, by omega, by go_num, HST, ?_⟩
          rw [HGO.out]
          exact hS.re
    · have hie : i = l.length := by omega
      subst hie
      have HE := Lib.hid (show x = p.len by rw [← HX.out, ord_end HO.out.1 HO.out.2])
      go_wp2_with (first | (go_at_call 19; refine (sameInts_z HXL.out rfl hS.ri (HPp.out.len.into hS.frozInto) (by omega) (by omega)).mono ?_; rintro e w ⟨rfl, hx1⟩; replace hS := hS.ext hx1; rw [decide_eq_true HE.out]) | (refine oL ?_; (first | refine sL1 hS rfl rfl rfl ?_ | refine sL2 hS rfl rfl rfl ?_ | refine sL3 hS rfl rfl ?_ | refine sL4 hS rfl rfl ?_ | refine sL5 hS rfl rfl ?_ | refine sL6 hS rfl rfl ?_ | refine sL7 hS rfl rfl ?_)) | (refine oS ?_; ((first | refine sS1 hS rfl rfl rfl ?_ | refine sS2 hS rfl rfl rfl ?_ | refine sS3 hS rfl rfl rfl ?_ | refine sS4 hS rfl rfl rfl ?_ | refine sS5 hS rfl rfl rfl ?_); clear hS; intro w hS)) | ((first | refine sN1 hS rfl ?_ | refine sM1 hS rfl rfl rfl ?_); clear hS; first | ((fail_if_success guard_hyp g1); intro g1 w hS) | ((fail_if_success guard_hyp g2); intro g2 w hS) | ((fail_if_success guard_hyp g3); intro g3 w hS) | ((fail_if_success guard_hyp g4); intro g4 w hS) | fail) | fail)
      go_ret
      exact ⟨rfl, hS.toExt⟩
open Go.ChangeShapes Go.WideShapes Go.ChangeAt
set_option maxRecDepth 100000 in
theorem lifted_CausalExtension (os : Os) (started : os.Started) (H : Type) (enc : TypeId × Value → H) :
    ReturnsInHanded {} Try.checked os 8 .any (Rows.causalExtensionSpec.pre6 enc Try.prog Try.f8 Rows.causalExtensionRow.domain false) (Rows.causalExtensionSpec.post enc Try.prog Try.f8 false true false false) := by
  refine law_lifted (C := Try.checked) (s := Rows.causalExtensionSpec) (tb := 4) (by kernel_rfl) started (by kernel_rfl) Try.func8
      (ChangeSpec.witness6 (enc := enc) (C := Try.checked) false ⟨#[], #[.slice none 0 0], []⟩ 8 (by kernel_rfl) (by kernel_rfl) (by kernel_rfl) (by kernel_rfl))
      (by kernel_rfl) rfl rfl Try.underlying4 (read_of (by kernel_rfl)) ?_ ?_
  · intro ds hl
    match ds, hl with
    | [d0], _ => exact ⟨rfl, rfl, rfl⟩
  · intro W base args ds p hval0 hA0
    have hval : ∀ (j : Nat) t v, Try.f8.params[j]? = some t → args[j]? = some v → Value.okWide Try.prog W .any base t v := hval0
    have hA : DataW.TrodAll enc Try.prog W 0 (fun _ => true) true Try.f8.params.toList args.toList ds p := hA0
    clear hA0 hval0
    rw [Try.params8] at hA hval
    obtain ⟨v0, d0, rfl, rfl, h0⟩ := trodAll_one hA
    obtain ⟨A0, c0, xs0, rfl, hri0, hc0, hd0, hwf0⟩ := open_nums Try.underlying22 Try.underlying5 (by kernel_rfl) (hval 0 _ v0 rfl rfl) h0
    exact causalExtension_any A0 c0 xs0 W hri0 hc0 hd0 (fun b hb => u8_bd (hwf0 b hb))
/-- CausalExtension returns true for every input, and leaves its arguments as they were. -/
theorem proved_CausalExtension : Rows.CausalExtensionSaid :=
  OpenClaim.holds_of_wide 8 Try.f8 rfl rfl rfl rfl rfl rfl rfl ⟨rfl, rfl, rfl, rfl, rfl⟩ rfl rfl rfl rfl rfl (by kernel_rfl) Try.func8 (by kernel_rfl)
    (of_decide_eq_true (by kernel_rfl)) (by unfold Func.isWrapper; rw [if_neg (by decide +kernel)]; exact ⟨rfl, rfl⟩)
    (fun os started H enc _ => lifted_CausalExtension os started H enc)
end Go.Proofs.Ytkflmichekpfbaa
