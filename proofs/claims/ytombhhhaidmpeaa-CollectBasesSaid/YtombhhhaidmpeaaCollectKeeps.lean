/- CollectKeeps returns true for every input. No condition. -/
import Derived.Test.YtombhhhaidmpeaaKeepP
import Derived.Test.YtombhhhaidmpeaaLaw36
namespace Go.Proofs.Ytombhhhaidmpeaa
open Go.RowKit
set_option linter.unusedVariables false
set_option linter.unusedSimpArgs false
set_option linter.unusedSectionVars false

theorem max_if (a b : Int) : (if a < b then b else a) = max a b := by split <;> omega
theorem RI.newN {w w' : World} {A : Option Addr} {xs : List Int} (h : RI (Orn (fun _ => False) w) w' A xs) : RI (fun k => w.heap.size ≤ k ∧ k < w'.heap.size) w' A xs := RI.into h (Into.subLt w' (fun k hk hl => ⟨hk.resolve_left id, hl⟩))
theorem RR.newN {w w' : World} {A : Option Addr} {ls : List (List Int)} (h : RR (Orn (fun _ => False) w) w' A ls) : RR (fun k => w.heap.size ≤ k ∧ k < w'.heap.size) w' A ls := RR.into h (Into.subLt w' (fun k hk hl => ⟨hk.resolve_left id, hl⟩))
theorem basesL_n {ls : List (List Int)} {cut : List Int} {n : Nat} (h : ls.length = n) : (basesL ls cut).length = n := by rw [basesL_len]; exact h
theorem cutv_st {w0 w : World} {M : Nat → Prop} {cs : List (Chunk w0 M)} {f : Chunk w0 M → List (Chunk w0 M)} {S : Nat → Prop} {g : Nat} {κ : CK} {r : List Int} {p : Pat} {A1 A2 A3 : Option Addr} {c1 c2 c3 n2 n3 : Nat} (h : St w0 M cs w) [hp : PickC g cs κ r f] (hg : Good p) (h1 : RI S w A1 p.len) (hS : ∀ k, S k → k ≠ g) :
    Calls Try.prog 21 #[.pointer (some ⟨g, 0, none⟩), .agg #[.slice A1 p.len.length c1, .slice A2 n2 c2, .slice A3 n3 c3]] w fun e w' => ∃ L c r' xs, validB p.len xs = true ∧ e = .returned (.slice L p.len.length c) ∧ St w0 M (row (.slice L p.len.length c) 3 1 p.len.length (ints xs) :: f (cds g κ r')) w' := by
  refine (cut_st h rfl h1 hS hg.n5 hg.all).mono ?_
  rintro e w' ⟨L, c, r', rfl, h2⟩
  exact ⟨L, c, r', _, cut_valid hg _, rfl, h2⟩
set_option maxRecDepth 100000 in
set_option maxHeartbeats 6400000 in
theorem collectKeeps_any (C : Option Addr) (f : Nat) (bs : List Int) (w0 : World) (hbs : RV (fun b => b < w0.heap.size) w0 C (bytes bs)) (hf : bs.length ≤ f) (hf' : f ≤ 9223372036854775807) (hby : ∀ b ∈ bs, 0 ≤ b ∧ b ≤ 255) :
    Calls Try.prog 6 #[.slice C bs.length f] w0 fun e w' => e = .returned (.bool true) ∧ Ext w0 w' := by
  have hS := St.start w0 NoM
  have HB := Lib.hid (And.intro hby (RV.sub (S' := Froz w0 NoM) hbs (fun k hk => ⟨hk, id⟩)))
  clear hby hbs
  go_enter Try.func6, Try.ntmps6
  go_wp2_with (first | (go_at_call 10; refine (awake36_any _).mono ?_; rintro e w ⟨rfl, hx1⟩; replace hS := hS.ext hx1) | (refine oL ?_; (first | refine sL1 hS rfl rfl rfl ?_ | refine sL2 hS rfl rfl rfl ?_ | refine sL3 hS rfl rfl ?_ | refine sL4 hS rfl rfl ?_ | refine sL5 hS rfl rfl ?_ | refine sL6 hS rfl rfl ?_ | refine sL7 hS rfl rfl ?_)) | (refine oS ?_; ((first | refine sS1 hS rfl rfl rfl ?_ | refine sS2 hS rfl rfl rfl ?_ | refine sS3 hS rfl rfl rfl ?_ | refine sS4 hS rfl rfl rfl ?_ | refine sS5 hS rfl rfl rfl ?_); clear hS; intro w hS)) | ((first | refine sN1 hS rfl ?_); clear hS; first | ((fail_if_success guard_hyp g1); intro g1 w hS) | ((fail_if_success guard_hyp g2); intro g2 w hS) | fail) | fail)
  refine (new_st (m := 150) hS (by omega) HB.out.2 hf hf' HB.out.1).mono ?_
  rintro e w ⟨gc, κ, rfl, hS⟩
  clear HB
  generalize bs.take 150 = r at *
  go_wp2_with (first | (refine oL ?_; (first | refine sL1 hS rfl rfl rfl ?_ | refine sL2 hS rfl rfl rfl ?_ | refine sL3 hS rfl rfl ?_ | refine sL4 hS rfl rfl ?_ | refine sL5 hS rfl rfl ?_ | refine sL6 hS rfl rfl ?_ | refine sL7 hS rfl rfl ?_)) | (refine oS ?_; ((first | refine sS1 hS rfl rfl rfl ?_ | refine sS2 hS rfl rfl rfl ?_ | refine sS3 hS rfl rfl rfl ?_ | refine sS4 hS rfl rfl rfl ?_ | refine sS5 hS rfl rfl rfl ?_); clear hS; intro w hS)) | ((first | refine sN1 hS rfl ?_); clear hS; first | ((fail_if_success guard_hyp g1); intro g1 w hS) | ((fail_if_success guard_hyp g2); intro g2 w hS) | fail) | fail)
  refine (pattern_st (m := 40) hS rfl (by omega)).mono ?_
  rintro e w ⟨v, p, r1, T, rfl, hsm, hpa, hS⟩
  have HP := Lib.hid (And.intro hsm hpa)
  have e1 := hsm.good.ckl
  have hn5 := hsm.good.n5
  obtain ⟨A1, c1, A2, c2, A3, c3⟩ := v
  simp only [PV.val]
  have HE := Lib.hid e1
  have hn2 := hsm.good.n2
  have hfew := hsm.few
  clear hsm hpa e1
  generalize hu : w = u at *
  have HG := Lib.hid HP.out.1.good
  have HCR := Lib.hid (show ∀ l ∈ p.ck, l.length ≤ 65 from fun l hl => by
    obtain ⟨q, hq, rfl⟩ := List.getElem_of_mem hl
    have := HP.out.1.good.rowLen (q := q) (by rw [← HE.out]; exact hq)
    rw [rowOf_eq hq] at this
    exact this)
  go_wp2_with (first | (refine oL ?_; (first | refine sL1 hS rfl rfl rfl ?_ | refine sL2 hS rfl rfl rfl ?_ | refine sL3 hS rfl rfl ?_ | refine sL4 hS rfl rfl ?_ | refine sL5 hS rfl rfl ?_ | refine sL6 hS rfl rfl ?_ | refine sL7 hS rfl rfl ?_)) | (refine oS ?_; ((first | refine sS1 hS rfl rfl rfl ?_ | refine sS2 hS rfl rfl rfl ?_ | refine sS3 hS rfl rfl rfl ?_ | refine sS4 hS rfl rfl rfl ?_ | refine sS5 hS rfl rfl rfl ?_); clear hS; intro w hS)) | ((first | refine sN1 hS rfl ?_); clear hS; first | ((fail_if_success guard_hyp g1); intro g1 w hS) | ((fail_if_success guard_hyp g2); intro g2 w hS) | fail) | fail)
  replace hS : St w0 NoM [froz T u, cds gc κ r1, blk g1 [.slice A1 p.len.length c1, .slice A2 p.ck.length c2, .slice A3 p.arcs.length c3] 28] _ := hS.re
  have HNE := Lib.hid (hS.frozNe (g := gc) (κ := κ) (r := r1))
  (try simp only [Act.put, nA, nB, nC])
  go_cut [5, 6] (fun s5 s6 wx => ∃ (X : Option Addr) (cx : Nat) (Y : Option Addr) (cy : Nat) (xs ys : List Int), s5 = .slice X p.len.length cx ∧ s6 = .slice Y p.len.length cy ∧ Hid (validB p.len xs = true ∧ validB p.len ys = true) ∧ St w0 NoM [row (.slice X p.len.length cx) 3 1 p.len.length (ints xs), row (.slice Y p.len.length cy) 3 1 p.len.length (ints ys), froz T u, blk g1 [.slice A1 p.len.length c1, .slice A2 p.ck.length c2, .slice A3 p.arcs.length c3] 28] wx)
  case first =>
    refine dr_start1 [] 1 hS (by kernel_rfl) rfl ?_; clear hS; intro w hS
    refine dM hS 0 rfl rfl rfl ?_
    (try simp only [Act.put, nA, nB, nC])
    first | refine dL1 hS 1 rfl rfl rfl rfl ?_ | refine dL2 hS 1 rfl rfl rfl rfl ?_ | refine dL3 hS 1 rfl rfl rfl ?_ | refine dL4 hS 1 rfl rfl rfl ?_ | refine dL5 hS 1 rfl rfl rfl ?_ | refine dL6 hS 1 rfl rfl rfl ?_ | refine dL7 hS 1 rfl rfl rfl ?_
    (try simp only [Act.put, nA, nB, nC])
    refine dM hS 3 rfl rfl rfl ?_
    (try simp only [Act.put, nA, nB, nC])
    first | refine dL1 hS 4 rfl rfl rfl rfl ?_ | refine dL2 hS 4 rfl rfl rfl rfl ?_ | refine dL3 hS 4 rfl rfl rfl ?_ | refine dL4 hS 4 rfl rfl rfl ?_ | refine dL5 hS 4 rfl rfl rfl ?_ | refine dL6 hS 4 rfl rfl rfl ?_ | refine dL7 hS 4 rfl rfl rfl ?_
    (try simp only [Act.put, nA, nB, nC])
    refine dr_one 2 (by kernel_rfl) rfl ?_
    (refine st_call rfl (by kernel_rfl) rfl ?_; go_at_call 21; refine (cutv_st hS HG.out (HP.out.2.len.into hS.frozInto) HNE.out).mono ?_; rintro e w ⟨X, cx, rx, xs, hvx, rfl, hS1⟩; replace hS := hS1; clear hS1; have HVX := Lib.hid hvx; clear hvx)
    (try simp only [Act.put, nA, nB, nC])
    refine dr_end hS ?_
    refine dr_one 5 (by kernel_rfl) rfl ?_
    (refine st_call rfl (by kernel_rfl) rfl ?_; go_at_call 21; refine (cutv_st hS HG.out (HP.out.2.len.into hS.frozInto) HNE.out).mono ?_; rintro e w ⟨Y, cy, ry, ys, hvy, rfl, hS1⟩; replace hS := hS1; clear hS1; have HVY := Lib.hid hvy; clear hvy)
    (try simp only [Act.put, nA, nB, nC])
    refine dr_end hS ?_
    refine dA hS 6 rfl rfl rfl ?_
    (try simp only [Act.put, nA, nB, nC])
    refine dA hS 7 rfl rfl rfl ?_
    (try simp only [Act.put, nA, nB, nC])
    refine dr_done (by kernel_rfl) ?_
    all_goals
      go_wp2_with fail
      go_meet
      exact ⟨X, cx, Y, cy, xs, ys, rfl, rfl, Lib.hid ⟨HVX.out, HVY.out⟩, hS.re⟩
  case rest =>
    clear hS HNE
    obtain ⟨X, cx, Y, cy, xs, ys, rfl, rfl, HXY, hS⟩ := hcut
    have HLX := Lib.hid (valid_iff.1 HXY.out.1).1
    have HLY := Lib.hid (valid_iff.1 HXY.out.2).1
    have HLL := Lib.hid (HLX.out.trans HLY.out.symm)
    obtain ⟨gx, rfl⟩ := hS.rowSome X (by omega)
    obtain ⟨gy, rfl⟩ := hS.rowSome Y (by omega)
    have hcx := hS.rowForm (some ⟨gx, 0, none⟩)
    have hcy := hS.rowForm (some ⟨gy, 0, none⟩)
    rw [← mxTo_zero xs ys] at hS
    go_wp2_with (first | (refine oL ?_; (first | refine sL1 hS rfl rfl rfl ?_ | refine sL2 hS rfl rfl rfl ?_ | refine sL3 hS rfl rfl ?_ | refine sL4 hS rfl rfl ?_ | refine sL5 hS rfl rfl ?_ | refine sL6 hS rfl rfl ?_ | refine sL7 hS rfl rfl ?_)) | (refine oS ?_; ((first | refine sS1 hS rfl rfl rfl ?_ | refine sS2 hS rfl rfl rfl ?_ | refine sS3 hS rfl rfl rfl ?_ | refine sS4 hS rfl rfl rfl ?_ | refine sS5 hS rfl rfl rfl ?_); clear hS; intro w hS)) | ((first | refine sN1 hS rfl ?_); clear hS; first | ((fail_if_success guard_hyp g1); intro g1 w hS) | ((fail_if_success guard_hyp g2); intro g2 w hS) | fail) | fail)
    go_loopw [7] (fun s7 wr => ∃ (q : Nat), q ≤ p.len.length ∧ s7 = .int .i64 q ∧ St w0 NoM [row (.slice (some ⟨gx, 0, none⟩) p.len.length cx) 3 1 p.len.length (ints xs), row (.slice (some ⟨gy, 0, none⟩) p.len.length cy) 3 1 p.len.length (ints (mxTo xs ys q)), froz T u, blk g1 [.slice A1 p.len.length c1, .slice A2 p.ck.length c2, .slice A3 p.arcs.length c3] 28] wr) (fun s7 _ => p.len.length - (intOf s7).toNat)
    case atStart => exact ⟨0, by omega, rfl, by rw [mxTo_zero] at hS ⊢; exact hS⟩
    case round =>
      clear hS
      obtain ⟨q, hq, rfl, hS⟩ := hrel
      by_cases hql : q < p.len.length
      · have hql' : (q : Int) < p.len.length := by omega
        have hqx : q < xs.length := by rw [HLX.out]; exact hql
        have hqy : q < (mxTo xs ys q).length := by rw [mxTo_len HLL.out (by rw [HLY.out]; exact hq), HLY.out]; exact hql
        have hx0 := ints_nth (l := xs) (k := q) hqx
        have hy0 := ints_nth (l := mxTo xs ys q) (k := q) hqy
        rw [mxTo_nth HLL.out (by rw [HLY.out]; exact hql)] at hy0
        have HMS := Lib.hid (mxTo_set HLL.out (q := q) (by rw [HLY.out]; exact hql))
        generalize nth xs q = a at *
        generalize nth ys q = b at *
        have HMX := Lib.hid (max_if a b)
        generalize mxTo xs ys q = zs at *
        go_wp2_with (first | (refine oL ?_; (first | refine sL1 hS rfl rfl rfl ?_ | refine sL2 hS rfl rfl rfl ?_ | refine sL3 hS rfl rfl ?_ | refine sL4 hS rfl rfl ?_ | refine sL5 hS rfl rfl ?_ | refine sL6 hS rfl rfl ?_ | refine sL7 hS rfl rfl ?_)) | (refine oS ?_; ((first | refine sS1 hS rfl rfl rfl ?_ | refine sS2 hS rfl rfl rfl ?_ | refine sS3 hS rfl rfl rfl ?_ | refine sS4 hS rfl rfl rfl ?_ | refine sS5 hS rfl rfl rfl ?_); clear hS; intro w hS)) | ((first | refine sN1 hS rfl ?_); clear hS; first | ((fail_if_success guard_hyp g1); intro g1 w hS) | ((fail_if_success guard_hyp g2); intro g2 w hS) | fail) | fail)
        refine dr_start1 [12] 1 hS (by kernel_rfl) rfl ?_; clear hS; intro w hS
        refine dM hS 0 rfl rfl rfl ?_
        (try simp only [Act.put, nA, nB, nC])
        refine dM hS 1 rfl rfl rfl ?_
        (try simp only [Act.put, nA, nB, nC])
        refine dM hS 2 rfl rfl rfl ?_
        (try simp only [Act.put, nA, nB, nC])
        refine dM hS 3 rfl rfl rfl ?_
        (try simp only [Act.put, nA, nB, nC])
        refine dP hS 4 rfl rfl ?_
        (try simp only [Act.put, nA, nB, nC])
        first | refine dL1 hS 5 rfl rfl rfl rfl ?_ | refine dL2 hS 5 rfl rfl rfl rfl ?_ | refine dL3 hS 5 rfl rfl rfl ?_ | refine dL4 hS 5 rfl rfl rfl ?_ | refine dL5 hS 5 rfl rfl rfl ?_ | refine dL6 hS 5 rfl rfl rfl ?_ | refine dL7 hS 5 rfl rfl rfl ?_
        (try simp only [Act.put, nA, nB, nC])
        refine dM hS 6 rfl rfl rfl ?_
        (try simp only [Act.put, nA, nB, nC])
        refine dM hS 7 rfl rfl rfl ?_
        (try simp only [Act.put, nA, nB, nC])
        refine dP hS 8 rfl rfl ?_
        (try simp only [Act.put, nA, nB, nC])
        refine dr_one 9 (by kernel_rfl) rfl ?_
        (first | refine sL1 hS rfl rfl rfl ?_ | refine sL2 hS rfl rfl rfl ?_ | refine sL3 hS rfl rfl ?_ | refine sL4 hS rfl rfl ?_ | refine sL5 hS rfl rfl ?_ | refine sL6 hS rfl rfl ?_ | refine sL7 hS rfl rfl ?_)
        (try simp only [Act.put, nA, nB, nC])
        refine dr_end hS ?_
        refine dP hS 10 rfl rfl ?_
        (try simp only [Act.put, nA, nB, nC])
        refine dP hS 11 rfl rfl ?_
        (try simp only [Act.put, nA, nB, nC])
        refine dr_one 12 (by kernel_rfl) rfl ?_
        ((first | refine sS1 hS rfl rfl rfl ?_ | refine sS2 hS rfl rfl rfl ?_ | refine sS3 hS rfl rfl rfl ?_ | refine sS4 hS rfl rfl rfl ?_ | refine sS5 hS rfl rfl rfl ?_); clear hS; intro w hS)
        (try simp only [Act.put, nA, nB, nC])
        refine dr_late (by kernel_rfl) ?_
        refine dr_done (by kernel_rfl) ?_
        go_wp2_with (first | (refine oL ?_; (first | refine sL1 hS rfl rfl rfl ?_ | refine sL2 hS rfl rfl rfl ?_ | refine sL3 hS rfl rfl ?_ | refine sL4 hS rfl rfl ?_ | refine sL5 hS rfl rfl ?_ | refine sL6 hS rfl rfl ?_ | refine sL7 hS rfl rfl ?_)) | (refine oS ?_; ((first | refine sS1 hS rfl rfl rfl ?_ | refine sS2 hS rfl rfl rfl ?_ | refine sS3 hS rfl rfl rfl ?_ | refine sS4 hS rfl rfl rfl ?_ | refine sS5 hS rfl rfl rfl ?_); clear hS; intro w hS)) | ((first | refine sN1 hS rfl ?_); clear hS; first | ((fail_if_success guard_hyp g1); intro g1 w hS) | ((fail_if_success guard_hyp g2); intro g2 w hS) | fail) | fail)
        go_roundw
        case measure => simp [intOf]; omega
        exact ⟨q + 1, by omega, by go_num, by rw [← HMS.out, ← HMX.out]; exact hS.re⟩
      · have HQ := Lib.hid (show q = ys.length by rw [HLY.out]; omega)
        have hql' : ¬ (q : Int) < p.len.length := by omega
        rw [HQ.out, mxTo_all HLL.out] at hS
        clear hql
        have HJ := Lib.hid (mx_valid HXY.out.1 HXY.out.2)
        have HKH := Lib.hid (fun q hq => kept_head (q := q) HG.out HXY.out.1 hq)
        have HLE := Lib.hid (late_eq HG.out HXY.out.1 HJ.out.1 HJ.out.2)
        have HKE := Lib.hid (keep_eq HG.out HXY.out.1 HJ.out.1 HJ.out.2)
        have HLZ := Lib.hid (valid_iff.1 HJ.out.1).1
        have hck1 : p.ck.length ≤ p.len.length := by have := HE.out; omega
        have hck2 : p.len.length ≤ p.ck.length := by have := HE.out; omega
        generalize zipI max xs ys = zs at *
        go_upto_region 11 with (first | (go_at_call 25; refine (bases_any (S := T) (T := All) A2 (some ⟨gx, 0, none⟩) c2 cx p.ck.length p.len.length p.ck xs _ (HP.out.2.ck.into hS.frozInto) (hS.ri (A := some ⟨gx, 0, none⟩)) rfl HLX.out (by omega) (by omega) (fun l hl => by have := HCR.out l hl; omega)).mono ?_; rintro e w ⟨LB, cB, rfl, ho, hx1⟩; replace hS := hS.addRow ho hx1; clear ho) | (refine oL ?_; (first | refine sL1 hS rfl rfl rfl ?_ | refine sL2 hS rfl rfl rfl ?_ | refine sL3 hS rfl rfl ?_ | refine sL4 hS rfl rfl ?_ | refine sL5 hS rfl rfl ?_ | refine sL6 hS rfl rfl ?_ | refine sL7 hS rfl rfl ?_)) | (refine oS ?_; ((first | refine sS1 hS rfl rfl rfl ?_ | refine sS2 hS rfl rfl rfl ?_ | refine sS3 hS rfl rfl rfl ?_ | refine sS4 hS rfl rfl rfl ?_ | refine sS5 hS rfl rfl rfl ?_); clear hS; intro w hS)) | ((first | refine sN1 hS rfl ?_); clear hS; first | ((fail_if_success guard_hyp g1); intro g1 w hS) | ((fail_if_success guard_hyp g2); intro g2 w hS) | fail) | fail)
        have hcB := hS.rowForm LB
        go_upto_region 12 with (first | (go_at_call 27; refine (keep_any (S := T) (T := All) A2 LB c2 cB p.ck.length p.ck.length p.ck (basesL p.ck xs) _ (HP.out.2.ck.into hS.frozInto) (hS.ri (A := LB)) rfl (basesL_len _ _) (by omega) (by omega) (fun l hl => by have := HCR.out l hl; omega)).mono ?_; rintro e w1 ⟨LK, cK, rfl, hcK, hcK', hrr, hx1⟩; replace hS := hS.frozNew hx1; replace hrr := hrr.newN; generalize (fun k => _ ≤ k ∧ k < w1.heap.size) = N1 at hS hrr; have HK := Lib.hid hrr; clear hrr hx1; rw [keepL_len]) | (refine oL ?_; (first | refine sL1 hS rfl rfl rfl ?_ | refine sL2 hS rfl rfl rfl ?_ | refine sL3 hS rfl rfl ?_ | refine sL4 hS rfl rfl ?_ | refine sL5 hS rfl rfl ?_ | refine sL6 hS rfl rfl ?_ | refine sL7 hS rfl rfl ?_)) | (refine oS ?_; ((first | refine sS1 hS rfl rfl rfl ?_ | refine sS2 hS rfl rfl rfl ?_ | refine sS3 hS rfl rfl rfl ?_ | refine sS4 hS rfl rfl rfl ?_ | refine sS5 hS rfl rfl rfl ?_); clear hS; intro w hS)) | ((first | refine sN1 hS rfl ?_); clear hS; first | ((fail_if_success guard_hyp g1); intro g1 w hS) | ((fail_if_success guard_hyp g2); intro g2 w hS) | fail) | fail)
        go_upto_region 13 with (first | (go_at_call 25; refine (bases_any (S := N1) (T := All) LK (some ⟨gy, 0, none⟩) cK cy p.ck.length p.len.length (keepL p.ck (basesL p.ck xs)) zs _ (HK.out.into (hS.intoK (T := N1) (u := w1))) (hS.ri (A := some ⟨gy, 0, none⟩)) (keepL_len _ _) HLZ.out (by omega) (by omega) (fun l hl => by have := keepL_rl HCR.out l hl; omega)).mono ?_; rintro e w ⟨LT, cT, rfl, ho, hx1⟩; replace hS := hS.addRow ho hx1; rw [HLE.out] at hS; clear ho hx1) | (refine oL ?_; (first | refine sL1 hS rfl rfl rfl ?_ | refine sL2 hS rfl rfl rfl ?_ | refine sL3 hS rfl rfl ?_ | refine sL4 hS rfl rfl ?_ | refine sL5 hS rfl rfl ?_ | refine sL6 hS rfl rfl ?_ | refine sL7 hS rfl rfl ?_)) | (refine oS ?_; ((first | refine sS1 hS rfl rfl rfl ?_ | refine sS2 hS rfl rfl rfl ?_ | refine sS3 hS rfl rfl rfl ?_ | refine sS4 hS rfl rfl rfl ?_ | refine sS5 hS rfl rfl rfl ?_); clear hS; intro w hS)) | ((first | refine sN1 hS rfl ?_); clear hS; first | ((fail_if_success guard_hyp g1); intro g1 w hS) | ((fail_if_success guard_hyp g2); intro g2 w hS) | fail) | fail)
        have hcT := hS.rowForm LT
        have hck : p.ck.length = p.len.length := HE.out
        have en : ((p.ck.length : Int) != (p.len.length : Int)) = false := by simp [hck]
        clear hck
        go_wp2_with (first | (refine oL ?_; (first | refine sL1 hS rfl rfl rfl ?_ | refine sL2 hS rfl rfl rfl ?_ | refine sL3 hS rfl rfl ?_ | refine sL4 hS rfl rfl ?_ | refine sL5 hS rfl rfl ?_ | refine sL6 hS rfl rfl ?_ | refine sL7 hS rfl rfl ?_)) | (refine oS ?_; ((first | refine sS1 hS rfl rfl rfl ?_ | refine sS2 hS rfl rfl rfl ?_ | refine sS3 hS rfl rfl rfl ?_ | refine sS4 hS rfl rfl rfl ?_ | refine sS5 hS rfl rfl rfl ?_); clear hS; intro w hS)) | ((first | refine sN1 hS rfl ?_); clear hS; first | ((fail_if_success guard_hyp g1); intro g1 w hS) | ((fail_if_success guard_hyp g2); intro g2 w hS) | fail) | fail)
        clear en
        obtain ⟨gb, rfl⟩ := hS.rowSome LB (by omega)
        go_loopw [11] (fun s11 wr => ∃ (q : Nat), q ≤ p.len.length ∧ s11 = .int .i64 q ∧ St w0 NoM [row (.slice LT p.ck.length cT) 3 1 p.ck.length (ints (basesL p.ck zs)), froz N1 w1, row (.slice (some ⟨gb, 0, none⟩) p.ck.length cB) 3 1 p.ck.length (ints (basesL p.ck xs)), row (.slice (some ⟨gy, 0, none⟩) p.len.length cy) 3 1 p.len.length (ints zs), froz T u, blk g1 [.slice A1 p.len.length c1, .slice A2 p.ck.length c2, .slice A3 p.arcs.length c3] 28] wr) (fun s11 _ => p.len.length - (intOf s11).toNat)
        case atStart => exact ⟨0, by omega, rfl, hS.re⟩
        case round =>
          clear hS
          obtain ⟨q, hq, rfl, hS⟩ := hrel
          by_cases hql : q < p.len.length
          · have hql' : (q : Int) < p.len.length := by omega
            have hqc : q < p.ck.length := by omega
            have hqc' : (q : Int) < p.ck.length := by omega
            obtain ⟨bK, ofK, BK, cK2, rfl, hfK, hBK, hcK2, _⟩ := HK.out.fc (k := q) (by rw [keepL_len]; exact hqc)
            have hb0 := ints_nth (l := basesL p.ck xs) (k := q) (by rw [basesL_len]; exact hqc)
            obtain ⟨kr, hkr⟩ := HKH.out q hqc
            rw [hkr] at hfK hBK hcK2
            obtain ⟨bH, ofH, rfl, hfH⟩ := hBK.fc (k := 0) (by simp)
            rw [show nth (nth (basesL p.ck xs) q :: kr) 0 = nth (basesL p.ck xs) q from rfl] at hfH
            have hk1 : 0 < (nth (basesL p.ck xs) q :: kr).length := by simp
            have hk65 : (nth (basesL p.ck xs) q :: kr).length ≤ 65 := by
              have := keepL_rl (b := basesL p.ck xs) HCR.out (rowOf (keepL p.ck (basesL p.ck xs)) q) (by rw [rowOf_eq (by rw [keepL_len]; exact hqc)]; exact List.getElem_mem _)
              rw [hkr] at this; exact this
            clear hkr hBK
            generalize (nth (basesL p.ck xs) q :: kr).length = m at *
            generalize nth (basesL p.ck xs) q = a at *
            have e0 : ((m : Int) == 0) = false := by simp; omega
            have e1 : (a != a) = false := by simp
            have hm1 : (0 : Int) < m := by omega
            go_wp2_with (first | (refine oL ?_; (first | refine sL1 hS rfl rfl rfl ?_ | refine sL2 hS rfl rfl rfl ?_ | refine sL3 hS rfl rfl ?_ | refine sL4 hS rfl rfl ?_ | refine sL5 hS rfl rfl ?_ | refine sL6 hS rfl rfl ?_ | refine sL7 hS rfl rfl ?_)) | (refine oS ?_; ((first | refine sS1 hS rfl rfl rfl ?_ | refine sS2 hS rfl rfl rfl ?_ | refine sS3 hS rfl rfl rfl ?_ | refine sS4 hS rfl rfl rfl ?_ | refine sS5 hS rfl rfl rfl ?_); clear hS; intro w hS)) | ((first | refine sN1 hS rfl ?_); clear hS; first | ((fail_if_success guard_hyp g1); intro g1 w hS) | ((fail_if_success guard_hyp g2); intro g2 w hS) | fail) | fail)
            refine dr_start0 []  hS (by kernel_rfl) rfl ?_; clear hS; intro w hS
            refine dM hS 0 rfl rfl rfl ?_
            (try simp only [Act.put, nA, nB, nC])
            refine dM hS 1 rfl rfl rfl ?_
            (try simp only [Act.put, nA, nB, nC])
            refine dP hS 2 rfl rfl ?_
            (try simp only [Act.put, nA, nB, nC])
            first | refine dL1 hS 3 rfl rfl rfl rfl ?_ | refine dL2 hS 3 rfl rfl rfl rfl ?_ | refine dL3 hS 3 rfl rfl rfl ?_ | refine dL4 hS 3 rfl rfl rfl ?_ | refine dL5 hS 3 rfl rfl rfl ?_ | refine dL6 hS 3 rfl rfl rfl ?_ | refine dL7 hS 3 rfl rfl rfl ?_
            (try simp only [Act.put, nA, nB, nC])
            refine dP hS 4 rfl rfl ?_
            (try simp only [Act.put, nA, nB, nC])
            refine dP hS 5 rfl rfl ?_
            (try simp only [Act.put, nA, nB, nC])
            refine dM hS 6 rfl rfl rfl ?_
            (try simp only [Act.put, nA, nB, nC])
            first | refine dM hS 7 rfl rfl rfl ?_ | refine dQ hS 7 rfl rfl ?_
            (try simp only [Act.put, nA, nB, nC])
            first | refine dM hS 8 rfl rfl rfl ?_ | refine dQ hS 8 rfl rfl ?_
            (try simp only [Act.put, nA, nB, nC])
            first | refine dP hS 9 rfl rfl ?_ | refine dQ hS 9 rfl rfl ?_
            (try simp only [Act.put, nA, nB, nC])
            first | refine dL1 hS 10 rfl rfl rfl rfl ?_ | refine dL2 hS 10 rfl rfl rfl rfl ?_ | refine dL3 hS 10 rfl rfl rfl ?_ | refine dL4 hS 10 rfl rfl rfl ?_ | refine dL5 hS 10 rfl rfl rfl ?_ | refine dL6 hS 10 rfl rfl rfl ?_ | refine dL7 hS 10 rfl rfl rfl ?_ | refine dQ hS 10 rfl rfl ?_
            (try simp only [Act.put, nA, nB, nC])
            first | refine dP hS 11 rfl rfl ?_ | refine dQ hS 11 rfl rfl ?_
            (try simp only [Act.put, nA, nB, nC])
            first | refine dL1 hS 12 rfl rfl rfl rfl ?_ | refine dL2 hS 12 rfl rfl rfl rfl ?_ | refine dL3 hS 12 rfl rfl rfl ?_ | refine dL4 hS 12 rfl rfl rfl ?_ | refine dL5 hS 12 rfl rfl rfl ?_ | refine dL6 hS 12 rfl rfl rfl ?_ | refine dL7 hS 12 rfl rfl rfl ?_ | refine dQ hS 12 rfl rfl ?_
            (try simp only [Act.put, nA, nB, nC])
            first | refine dM hS 13 rfl rfl rfl ?_ | refine dQ hS 13 rfl rfl ?_
            (try simp only [Act.put, nA, nB, nC])
            first | refine dM hS 14 rfl rfl rfl ?_ | refine dQ hS 14 rfl rfl ?_
            (try simp only [Act.put, nA, nB, nC])
            first | refine dP hS 15 rfl rfl ?_ | refine dQ hS 15 rfl rfl ?_
            (try simp only [Act.put, nA, nB, nC])
            first | refine dL1 hS 16 rfl rfl rfl rfl ?_ | refine dL2 hS 16 rfl rfl rfl rfl ?_ | refine dL3 hS 16 rfl rfl rfl ?_ | refine dL4 hS 16 rfl rfl rfl ?_ | refine dL5 hS 16 rfl rfl rfl ?_ | refine dL6 hS 16 rfl rfl rfl ?_ | refine dL7 hS 16 rfl rfl rfl ?_ | refine dQ hS 16 rfl rfl ?_
            (try simp only [Act.put, nA, nB, nC])
            first | refine dP hS 17 rfl rfl ?_ | refine dQ hS 17 rfl rfl ?_
            (try simp only [Act.put, nA, nB, nC])
            refine dP hS 18 rfl rfl ?_
            (try simp only [Act.put, nA, nB, nC])
            refine dr_done (by kernel_rfl) ?_
            go_wp2_with (first | (refine oL ?_; (first | refine sL1 hS rfl rfl rfl ?_ | refine sL2 hS rfl rfl rfl ?_ | refine sL3 hS rfl rfl ?_ | refine sL4 hS rfl rfl ?_ | refine sL5 hS rfl rfl ?_ | refine sL6 hS rfl rfl ?_ | refine sL7 hS rfl rfl ?_)) | (refine oS ?_; ((first | refine sS1 hS rfl rfl rfl ?_ | refine sS2 hS rfl rfl rfl ?_ | refine sS3 hS rfl rfl rfl ?_ | refine sS4 hS rfl rfl rfl ?_ | refine sS5 hS rfl rfl rfl ?_); clear hS; intro w hS)) | ((first | refine sN1 hS rfl ?_); clear hS; first | ((fail_if_success guard_hyp g1); intro g1 w hS) | ((fail_if_success guard_hyp g2); intro g2 w hS) | fail) | fail)
            go_roundw
            case measure => simp [intOf]; omega
            exact ⟨q + 1, by omega, by go_num, hS.re⟩
          · have hql' : ¬ (q : Int) < p.len.length := by omega
            have HL1 := Lib.hid (basesL_len p.ck zs)
            go_wp2_with (first | (refine oL ?_; (first | refine sL1 hS rfl rfl rfl ?_ | refine sL2 hS rfl rfl rfl ?_ | refine sL3 hS rfl rfl ?_ | refine sL4 hS rfl rfl ?_ | refine sL5 hS rfl rfl ?_ | refine sL6 hS rfl rfl ?_ | refine sL7 hS rfl rfl ?_)) | (refine oS ?_; ((first | refine sS1 hS rfl rfl rfl ?_ | refine sS2 hS rfl rfl rfl ?_ | refine sS3 hS rfl rfl rfl ?_ | refine sS4 hS rfl rfl rfl ?_ | refine sS5 hS rfl rfl rfl ?_); clear hS; intro w hS)) | ((first | refine sN1 hS rfl ?_); clear hS; first | ((fail_if_success guard_hyp g1); intro g1 w hS) | ((fail_if_success guard_hyp g2); intro g2 w hS) | fail) | fail)
            refine dr_start0 []  hS (by kernel_rfl) rfl ?_; clear hS; intro w hS
            refine dM hS 0 rfl rfl rfl ?_
            (try simp only [Act.put, nA, nB, nC])
            refine dP hS 1 rfl rfl ?_
            (try simp only [Act.put, nA, nB, nC])
            first | refine dL1 hS 2 rfl rfl rfl rfl ?_ | refine dL2 hS 2 rfl rfl rfl rfl ?_ | refine dL3 hS 2 rfl rfl rfl ?_ | refine dL4 hS 2 rfl rfl rfl ?_ | refine dL5 hS 2 rfl rfl rfl ?_ | refine dL6 hS 2 rfl rfl rfl ?_ | refine dL7 hS 2 rfl rfl rfl ?_
            (try simp only [Act.put, nA, nB, nC])
            refine dM hS 3 rfl rfl rfl ?_
            (try simp only [Act.put, nA, nB, nC])
            refine dr_one 4 (by kernel_rfl) rfl ?_
            (refine st_call rfl (by kernel_rfl) rfl ?_; go_at_call 25; refine (bases_any (S := T) (T := All) A2 (some ⟨gy, 0, none⟩) c2 cy p.ck.length p.len.length p.ck zs _ (HP.out.2.ck.into (hS.intoK (T := T) (u := u))) (hS.ri (A := some ⟨gy, 0, none⟩)) rfl HLZ.out (by omega) (by omega) (fun l hl => by have := HCR.out l hl; omega)).mono ?_; rintro e w ⟨LU, cU, rfl, ho, hx1⟩; replace hS := hS.addRow ho hx1; clear ho hx1)
            (try simp only [Act.put, nA, nB, nC])
            refine dr_end hS ?_
            refine dr_one 5 (by kernel_rfl) rfl ?_
            (refine st_call rfl (by kernel_rfl) rfl ?_; go_at_call 24; refine (sameI_m (xs := basesL p.ck zs) HL1.out HL1.out rfl (hS.ri (A := LT)) (hS.ri (A := LU)) (by omega)).mono ?_; rintro e w ⟨rfl, hx1⟩; replace hS := hS.ext hx1)
            (try simp only [Act.put, nA, nB, nC])
            refine dr_end hS ?_
            refine dM hS 6 rfl rfl rfl ?_
            (try simp only [Act.put, nA, nB, nC])
            first | refine dM hS 7 rfl rfl rfl ?_ | refine dQ hS 7 rfl rfl ?_
            (try simp only [Act.put, nA, nB, nC])
            first | refine dM hS 8 rfl rfl rfl ?_ | refine dQ hS 8 rfl rfl ?_
            (try simp only [Act.put, nA, nB, nC])
            first | refine dP hS 10 rfl rfl ?_ | refine dQ hS 10 rfl rfl ?_
            (try simp only [Act.put, nA, nB, nC])
            first | refine dL1 hS 11 rfl rfl rfl rfl ?_ | refine dL2 hS 11 rfl rfl rfl rfl ?_ | refine dL3 hS 11 rfl rfl rfl ?_ | refine dL4 hS 11 rfl rfl rfl ?_ | refine dL5 hS 11 rfl rfl rfl ?_ | refine dL6 hS 11 rfl rfl rfl ?_ | refine dL7 hS 11 rfl rfl rfl ?_ | refine dQ hS 11 rfl rfl ?_
            (try simp only [Act.put, nA, nB, nC])
            first | refine dM hS 12 rfl rfl rfl ?_ | refine dQ hS 12 rfl rfl ?_
            (try simp only [Act.put, nA, nB, nC])
            refine dr_one 9 (by kernel_rfl) rfl ?_
            (refine st_call rfl (by kernel_rfl) rfl ?_; go_at_call 27; refine (keep_any (S := N1) (T := All) LK LT cK cT p.ck.length p.ck.length (keepL p.ck (basesL p.ck xs)) (basesL p.ck zs) _ (HK.out.into (hS.intoK (T := N1) (u := w1))) (hS.ri (A := LT)) (keepL_len _ _) HL1.out (by omega) (by omega) (fun l hl => by have := keepL_rl HCR.out l hl; omega)).mono ?_; rintro e w4 ⟨LV, cV, rfl, hcV, hcV', hrr, hx1⟩; replace hS := hS.frozNew hx1; replace hrr := hrr.newN; generalize (fun k => _ ≤ k ∧ k < w4.heap.size) = N4 at hS hrr; rw [HKE.out] at hrr ⊢; have H4 := Lib.hid hrr; clear hrr hx1; rw [keepL_len])
            (try simp only [Act.put, nA, nB, nC])
            refine dr_end hS ?_
            refine dr_one 13 (by kernel_rfl) rfl ?_
            (refine st_call rfl (by kernel_rfl) rfl ?_; go_at_call 27; refine (keep_any (S := T) (T := All) A2 LT c2 cT p.ck.length p.ck.length p.ck (basesL p.ck zs) _ (HP.out.2.ck.into (hS.intoK (T := T) (u := u))) (hS.ri (A := LT)) rfl HL1.out (by omega) (by omega) (fun l hl => by have := HCR.out l hl; omega)).mono ?_; rintro e w5 ⟨LW, cW, rfl, hcW, hcW', hrr, hx1⟩; replace hS := hS.frozNew hx1; replace hrr := hrr.newN; generalize (fun k => _ ≤ k ∧ k < w5.heap.size) = N5 at hS hrr; have H5 := Lib.hid hrr; clear hrr hx1; rw [keepL_len])
            (try simp only [Act.put, nA, nB, nC])
            refine dr_end hS ?_
            refine dr_one 14 (by kernel_rfl) rfl ?_
            (refine st_call rfl (by kernel_rfl) rfl ?_; go_at_call 14; refine (sameR_n (ls := keepL p.ck (basesL p.ck zs)) (keepL_len _ _) (keepL_len _ _) rfl (H4.out.into (hS.intoK (T := N4) (u := w4))) (H5.out.into (hS.intoK (T := N5) (u := w5))) (by omega) (fun l hl => by have := keepL_rl HCR.out l hl; omega)).mono ?_; rintro e w ⟨rfl, hx1⟩; replace hS := hS.ext hx1)
            (try simp only [Act.put, nA, nB, nC])
            refine dr_end hS ?_
            refine dP hS 15 rfl rfl ?_
            (try simp only [Act.put, nA, nB, nC])
            refine dA hS 16 rfl rfl rfl ?_
            (try simp only [Act.put, nA, nB, nC])
            refine dr_done (by kernel_rfl) ?_
            all_goals
              go_wp2_with (first | (refine oL ?_; (first | refine sL1 hS rfl rfl rfl ?_ | refine sL2 hS rfl rfl rfl ?_ | refine sL3 hS rfl rfl ?_ | refine sL4 hS rfl rfl ?_ | refine sL5 hS rfl rfl ?_ | refine sL6 hS rfl rfl ?_ | refine sL7 hS rfl rfl ?_)) | (refine oS ?_; ((first | refine sS1 hS rfl rfl rfl ?_ | refine sS2 hS rfl rfl rfl ?_ | refine sS3 hS rfl rfl rfl ?_ | refine sS4 hS rfl rfl rfl ?_ | refine sS5 hS rfl rfl rfl ?_); clear hS; intro w hS)) | ((first | refine sN1 hS rfl ?_); clear hS; first | ((fail_if_success guard_hyp g1); intro g1 w hS) | ((fail_if_success guard_hyp g2); intro g2 w hS) | fail) | fail)
              go_ret
              exact ⟨rfl, hS.toExt⟩
open Go.ChangeShapes Go.WideShapes Go.ChangeAt
set_option maxRecDepth 100000 in
theorem lifted_CollectKeeps (os : Os) (started : os.Started) (H : Type) (enc : TypeId × Value → H) :
    ReturnsInHanded {} Try.checked os 6 .any (Rows.collectKeepsSpec.pre6 enc Try.prog Try.f6 Rows.collectKeepsRow.domain false) (Rows.collectKeepsSpec.post enc Try.prog Try.f6 false true false false) := by
  refine law_lifted (C := Try.checked) (s := Rows.collectKeepsSpec) (tb := 4) (by kernel_rfl) started (by kernel_rfl) Try.func6
      (ChangeSpec.witness6 (enc := enc) (C := Try.checked) false ⟨#[], #[.slice none 0 0], []⟩ 8 (by kernel_rfl) (by kernel_rfl) (by kernel_rfl) (by kernel_rfl))
      (by kernel_rfl) rfl rfl Try.underlying4 (read_of (by kernel_rfl)) ?_ ?_
  · intro ds hl
    match ds, hl with
    | [d0], _ => exact ⟨rfl, rfl, rfl⟩
  · intro W base args ds p hval0 hA0
    have hval : ∀ (j : Nat) t v, Try.f6.params[j]? = some t → args[j]? = some v → Value.okWide Try.prog W .any base t v := hval0
    have hA : DataW.TrodAll enc Try.prog W 0 (fun _ => true) true Try.f6.params.toList args.toList ds p := hA0
    clear hA0 hval0
    rw [Try.params6] at hA hval
    obtain ⟨v0, d0, rfl, rfl, h0⟩ := trodAll_one hA
    obtain ⟨A0, c0, xs0, rfl, hri0, hc0, hd0, hwf0⟩ := open_nums Try.underlying22 Try.underlying5 (by kernel_rfl) (hval 0 _ v0 rfl rfl) h0
    exact collectKeeps_any A0 c0 xs0 W hri0 hc0 hd0 (fun b hb => u8_bd (hwf0 b hb))
/-- CollectKeeps returns true for every input, and leaves its arguments as they were. -/
theorem proved_CollectKeeps : Rows.CollectKeepsSaid :=
  OpenClaim.holds_of_wide 6 Try.f6 rfl rfl rfl rfl rfl rfl rfl ⟨rfl, rfl, rfl, rfl, rfl⟩ rfl rfl rfl rfl rfl (by kernel_rfl) Try.func6 (by kernel_rfl)
    (of_decide_eq_true (by kernel_rfl)) (by unfold Func.isWrapper; rw [if_neg (by decide +kernel)]; exact ⟨rfl, rfl⟩)
    (fun os started H enc _ => lifted_CollectKeeps os started H enc)
end Go.Proofs.Ytombhhhaidmpeaa
