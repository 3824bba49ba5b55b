/- CutPast returns true for every input. No condition. -/
import Derived.Test.YtkflmichekpfbaaLawPat
import Derived.Test.YtkflmichekpfbaaCausF
namespace Go.Proofs.Ytkflmichekpfbaa
open Go.RowKit
set_option linter.unusedVariables false
set_option linter.unusedSimpArgs false

/-- the points of a cut -/
def ptsOf (xs : List Int) (k : Nat) : List (Nat × Int) := (List.range k).map (fun q => (q, nth xs q))
theorem ptsOf_succ (xs : List Int) (k : Nat) : ptsOf xs (k + 1) = ptsOf xs k ++ [(k, nth xs k)] := by simp [ptsOf, List.range_succ]
theorem ptsOf_length (xs : List Int) (k : Nat) : (ptsOf xs k).length = k := by simp [ptsOf]
theorem ptsOf_mem {xs : List Int} {n : Nat} {a : Nat × Int} (h : a ∈ ptsOf xs n) : a.1 < n ∧ a.2 = nth xs a.1 := by
  simp only [ptsOf, List.mem_map, List.mem_range] at h
  obtain ⟨q, hq, rfl⟩ := h
  exact ⟨hq, rfl⟩
theorem ptsOf_ok {p : Pat} {xs : List Int} (hv : validB p.len xs = true) : ∀ a ∈ ptsOf xs p.len.length, PtOk p a := fun a ha => by
  obtain ⟨h1, h2⟩ := ptsOf_mem ha
  have := (valid_iff.1 hv).2 a.1 h1
  exact ⟨h1, by omega, by omega⟩
theorem past_raise {p : Pat} (hg : Good p) {xs ys zs : List Int} (hv : validB p.len xs = true) (h1 : Fin raiStep p.arcs xs ys) (h2 : IsPast p (ptsOf xs p.len.length) zs) : ys = zipI max xs zs := by
  obtain ⟨hvy, hxy⟩ := rai_le hg hv h1
  have hxl := (valid_iff.1 hv).1
  have hyl := (valid_iff.1 hvy).1
  have hxz : Le p.len.length xs zs := fun k hk => h2.h (k, nth xs k) (by simp only [ptsOf, List.mem_map, List.mem_range]; exact ⟨k, hk, rfl⟩)
  have a := rai_least hg hv h1 h2.s hxz
  have b := h2.l ys hvy h1.2 (fun a ha => by obtain ⟨h3, h4⟩ := ptsOf_mem ha; rw [h4]; exact hxy a.1 h3)
  have hyz := le_antisymm hyl h2.len a b
  rw [hyz]
  refine le_antisymm h2.len (by rw [zipI_len (by rw [hxl, h2.len]), h2.len]) (fun k hk => ?_) (fun k hk => ?_)
  · rw [zipI_nth (by rw [hxl, h2.len]) (by rw [h2.len]; exact hk)]; omega
  · rw [zipI_nth (by rw [hxl, h2.len]) (by rw [h2.len]; exact hk)]; have := hxz k hk; omega
theorem St.ptSlice {w0 w : World} {M : Nat → Prop} {cs : List (Chunk w0 M)} {f : Chunk w0 M → List (Chunk w0 M)} {L : Option Addr} {k c n : Nat} {e : TypeId} {l : List (Nat × Int)} (h : St w0 M cs w) [hp : PickL L cs k c e 2 n (l.flatMap ptCells) f] : RPt All w L l := ⟨_, h.rv, reps_pts w l⟩
set_option maxRecDepth 100000 in
set_option maxHeartbeats 3200000 in
theorem cutPast_any (C : Option Addr) (f : Nat) (bs : List Int) (w0 : World) (hbs : RV (fun b => b < w0.heap.size) w0 C (bytes bs)) (hf : bs.length ≤ f) (hf' : f ≤ 9223372036854775807) (hby : ∀ b ∈ bs, 0 ≤ b ∧ b ≤ 255) :
    Calls Try.prog 13 #[.slice C bs.length f] w0 fun e w' => e = .returned (.bool true) ∧ Ext w0 w' := by
  have hS := St.start w0 NoM
  have HB := Lib.hid (And.intro hby (RV.sub (S' := Froz w0 NoM) hbs (fun k hk => ⟨hk, id⟩)))
  clear hby hbs
  go_enter Try.func13, Try.ntmps13
  go_wp2_with (first | (go_at_call 55; refine (awake18_any _).mono ?_; rintro e w ⟨rfl, hx1⟩; replace hS := hS.ext hx1) | (refine oL ?_; (first | refine sL1 hS rfl rfl rfl ?_ | refine sL2 hS rfl rfl rfl ?_ | refine sL3 hS rfl rfl ?_ | refine sL4 hS rfl rfl ?_ | refine sL5 hS rfl rfl ?_ | refine sL6 hS rfl rfl ?_ | refine sL7 hS rfl rfl ?_)) | (refine oS ?_; ((first | refine sS1 hS rfl rfl rfl ?_ | refine sS2 hS rfl rfl rfl ?_ | refine sS3 hS rfl rfl rfl ?_ | refine sS4 hS rfl rfl rfl ?_ | refine sS5 hS rfl rfl rfl ?_); clear hS; intro w hS)) | (refine oP ?_; ((first | refine sP1 hS rfl rfl rfl ?_ | refine sP2 hS rfl rfl rfl ?_ | refine sP3 hS rfl rfl rfl ?_); clear hS; first | ((fail_if_success guard_hyp L1); intro L1 cl1 w hL1 hM1 hS) | ((fail_if_success guard_hyp L2); intro L2 cl2 w hL2 hM2 hS) | fail)) | ((first | refine sN1 hS rfl ?_ | (refine oC ?_; first | refine sC0 hS rfl ?_ | refine sC1 hS rfl rfl ?_ | refine sC2 hS rfl rfl ?_ | refine sC3 hS rfl rfl rfl ?_ | refine sC4 hS rfl rfl rfl ?_)); clear hS; first | ((fail_if_success guard_hyp g1); intro g1 w hS) | ((fail_if_success guard_hyp g2); intro g2 w hS) | ((fail_if_success guard_hyp g3); intro g3 w hS) | fail) | fail)
  refine (new_st (m := 240) hS (by omega) HB.out.2 hf hf' HB.out.1).mono ?_
  rintro e w ⟨gc, κ, rfl, hS⟩
  clear HB
  generalize bs.take 240 = r at *
  go_wp2_with (first | (refine oL ?_; (first | refine sL1 hS rfl rfl rfl ?_ | refine sL2 hS rfl rfl rfl ?_ | refine sL3 hS rfl rfl ?_ | refine sL4 hS rfl rfl ?_ | refine sL5 hS rfl rfl ?_ | refine sL6 hS rfl rfl ?_ | refine sL7 hS rfl rfl ?_)) | (refine oS ?_; ((first | refine sS1 hS rfl rfl rfl ?_ | refine sS2 hS rfl rfl rfl ?_ | refine sS3 hS rfl rfl rfl ?_ | refine sS4 hS rfl rfl rfl ?_ | refine sS5 hS rfl rfl rfl ?_); clear hS; intro w hS)) | (refine oP ?_; ((first | refine sP1 hS rfl rfl rfl ?_ | refine sP2 hS rfl rfl rfl ?_ | refine sP3 hS rfl rfl rfl ?_); clear hS; first | ((fail_if_success guard_hyp L1); intro L1 cl1 w hL1 hM1 hS) | ((fail_if_success guard_hyp L2); intro L2 cl2 w hL2 hM2 hS) | fail)) | ((first | refine sN1 hS rfl ?_ | (refine oC ?_; first | refine sC0 hS rfl ?_ | refine sC1 hS rfl rfl ?_ | refine sC2 hS rfl rfl ?_ | refine sC3 hS rfl rfl rfl ?_ | refine sC4 hS rfl rfl rfl ?_)); clear hS; first | ((fail_if_success guard_hyp g1); intro g1 w hS) | ((fail_if_success guard_hyp g2); intro g2 w hS) | ((fail_if_success guard_hyp g3); intro g3 w hS) | fail) | fail)
  refine (pattern_st (m := 20) hS rfl (by omega)).mono ?_
  rintro e w ⟨v, p, r1, T, rfl, hsm, hpa, hS⟩
  have HP := Lib.hid (And.intro hsm hpa)
  have e1 := hsm.good.ckl
  have hn5 := hsm.good.n5
  obtain ⟨A1, c1, A2, c2, A3, c3⟩ := v
  simp only [PV.val]
  have HE := Lib.hid e1
  have hn2 := hsm.good.n2
  have hfew := hsm.few
  clear hsm hpa e1
  generalize hu : w = u at *
  go_wp2_with (first | (refine oL ?_; (first | refine sL1 hS rfl rfl rfl ?_ | refine sL2 hS rfl rfl rfl ?_ | refine sL3 hS rfl rfl ?_ | refine sL4 hS rfl rfl ?_ | refine sL5 hS rfl rfl ?_ | refine sL6 hS rfl rfl ?_ | refine sL7 hS rfl rfl ?_)) | (refine oS ?_; ((first | refine sS1 hS rfl rfl rfl ?_ | refine sS2 hS rfl rfl rfl ?_ | refine sS3 hS rfl rfl rfl ?_ | refine sS4 hS rfl rfl rfl ?_ | refine sS5 hS rfl rfl rfl ?_); clear hS; intro w hS)) | (refine oP ?_; ((first | refine sP1 hS rfl rfl rfl ?_ | refine sP2 hS rfl rfl rfl ?_ | refine sP3 hS rfl rfl rfl ?_); clear hS; first | ((fail_if_success guard_hyp L1); intro L1 cl1 w hL1 hM1 hS) | ((fail_if_success guard_hyp L2); intro L2 cl2 w hL2 hM2 hS) | fail)) | ((first | refine sN1 hS rfl ?_ | (refine oC ?_; first | refine sC0 hS rfl ?_ | refine sC1 hS rfl rfl ?_ | refine sC2 hS rfl rfl ?_ | refine sC3 hS rfl rfl rfl ?_ | refine sC4 hS rfl rfl rfl ?_)); clear hS; first | ((fail_if_success guard_hyp g1); intro g1 w hS) | ((fail_if_success guard_hyp g2); intro g2 w hS) | ((fail_if_success guard_hyp g3); intro g3 w hS) | fail) | fail)
  refine (cut_st hS rfl (HP.out.2.len.into hS.frozInto) (hS.frozNe (κ := κ) (r := r1)) hn5 HP.out.1.good.all).mono ?_
  rintro e w ⟨X, cx, r2, rfl, hS⟩
  have HV := Lib.hid (cut_valid HP.out.1.good r1)
  generalize cutL r1 p.len = xs at *
  have HX := Lib.hid (valid_iff.1 HV.out).1
  go_wp2_with (first | (refine oL ?_; (first | refine sL1 hS rfl rfl rfl ?_ | refine sL2 hS rfl rfl rfl ?_ | refine sL3 hS rfl rfl ?_ | refine sL4 hS rfl rfl ?_ | refine sL5 hS rfl rfl ?_ | refine sL6 hS rfl rfl ?_ | refine sL7 hS rfl rfl ?_)) | (refine oS ?_; ((first | refine sS1 hS rfl rfl rfl ?_ | refine sS2 hS rfl rfl rfl ?_ | refine sS3 hS rfl rfl rfl ?_ | refine sS4 hS rfl rfl rfl ?_ | refine sS5 hS rfl rfl rfl ?_); clear hS; intro w hS)) | (refine oP ?_; ((first | refine sP1 hS rfl rfl rfl ?_ | refine sP2 hS rfl rfl rfl ?_ | refine sP3 hS rfl rfl rfl ?_); clear hS; first | ((fail_if_success guard_hyp L1); intro L1 cl1 w hL1 hM1 hS) | ((fail_if_success guard_hyp L2); intro L2 cl2 w hL2 hM2 hS) | fail)) | ((first | refine sN1 hS rfl ?_ | (refine oC ?_; first | refine sC0 hS rfl ?_ | refine sC1 hS rfl rfl ?_ | refine sC2 hS rfl rfl ?_ | refine sC3 hS rfl rfl rfl ?_ | refine sC4 hS rfl rfl rfl ?_)); clear hS; first | ((fail_if_success guard_hyp g1); intro g1 w hS) | ((fail_if_success guard_hyp g2); intro g2 w hS) | ((fail_if_success guard_hyp g3); intro g3 w hS) | fail) | fail)
  go_loopw [6, 19] (fun s6 s19 wr => ∃ (k : Nat) (L : Option Addr) (cl : Nat), k ≤ p.len.length ∧ s6 = .slice L k cl ∧ s19 = .int .i64 k ∧ St w0 NoM [row (.slice L k cl) 37 2 k ((ptsOf xs k).flatMap ptCells), row (.slice X p.len.length cx) 3 1 p.len.length (ints xs), blk g1 [.slice A1 p.len.length c1, .slice A2 p.ck.length c2, .slice A3 p.arcs.length c3] 28, froz T u] wr) (fun _ s19 _ => p.len.length - (intOf s19).toNat)
  case atStart => exact ⟨0, none, 0, by omega, rfl, rfl, St.addNil hS.re _ _⟩
  case round =>
    obtain ⟨k, L, cl, hk, rfl, rfl, hS⟩ := hrel
    by_cases hlt : k < p.len.length
    · obtain ⟨gx, rfl⟩ := hS.rowSome X (by omega)
      have hcell : (ints xs)[k]? = some (.int .i64 (nth xs k)) := by rw [ints_get (by rw [HX.out]; exact hlt), nth_eq (by rw [HX.out]; exact hlt)]
      have HS := Lib.hid (ptsOf_succ xs k)
      generalize nth xs k = m at *
      go_wp2_with (first | (refine oL ?_; (first | refine sL1 hS rfl rfl rfl ?_ | refine sL2 hS rfl rfl rfl ?_ | refine sL3 hS rfl rfl ?_ | refine sL4 hS rfl rfl ?_ | refine sL5 hS rfl rfl ?_ | refine sL6 hS rfl rfl ?_ | refine sL7 hS rfl rfl ?_)) | (refine oS ?_; ((first | refine sS1 hS rfl rfl rfl ?_ | refine sS2 hS rfl rfl rfl ?_ | refine sS3 hS rfl rfl rfl ?_ | refine sS4 hS rfl rfl rfl ?_ | refine sS5 hS rfl rfl rfl ?_); clear hS; intro w hS)) | (refine oP ?_; ((first | refine sP1 hS rfl rfl rfl ?_ | refine sP2 hS rfl rfl rfl ?_ | refine sP3 hS rfl rfl rfl ?_); clear hS; first | ((fail_if_success guard_hyp L1); intro L1 cl1 w hL1 hM1 hS) | ((fail_if_success guard_hyp L2); intro L2 cl2 w hL2 hM2 hS) | fail)) | ((first | refine sN1 hS rfl ?_ | (refine oC ?_; first | refine sC0 hS rfl ?_ | refine sC1 hS rfl rfl ?_ | refine sC2 hS rfl rfl ?_ | refine sC3 hS rfl rfl rfl ?_ | refine sC4 hS rfl rfl rfl ?_)); clear hS; first | ((fail_if_success guard_hyp g1); intro g1 w hS) | ((fail_if_success guard_hyp g2); intro g2 w hS) | ((fail_if_success guard_hyp g3); intro g3 w hS) | fail) | fail)
      go_roundw
      case measure => simp [intOf]; omega
      refine ⟨k + 1, L1, cl1, by omega, rfl, by go_num, ?_⟩
      rw [HS.out, List.flatMap_append, List.flatMap_singleton]
      exact hS
    · have hke : k = p.len.length := by omega
      subst hke
      have HR : Hid (∀ {ys zs : List Int}, Hid (Fin raiStep p.arcs xs ys) → Hid (IsPast p (ptsOf xs p.len.length) zs) → decide (ys = zipI max xs zs) = true) := Lib.hid (fun h1 h2 => decide_eq_true (past_raise HP.out.1.good HV.out h1.out h2.out))
      go_wp2_with (first | (refine oL ?_; (first | refine sL1 hS rfl rfl rfl ?_ | refine sL2 hS rfl rfl rfl ?_ | refine sL3 hS rfl rfl ?_ | refine sL4 hS rfl rfl ?_ | refine sL5 hS rfl rfl ?_ | refine sL6 hS rfl rfl ?_ | refine sL7 hS rfl rfl ?_)) | (refine oS ?_; ((first | refine sS1 hS rfl rfl rfl ?_ | refine sS2 hS rfl rfl rfl ?_ | refine sS3 hS rfl rfl rfl ?_ | refine sS4 hS rfl rfl rfl ?_ | refine sS5 hS rfl rfl rfl ?_); clear hS; intro w hS)) | (refine oP ?_; ((first | refine sP1 hS rfl rfl rfl ?_ | refine sP2 hS rfl rfl rfl ?_ | refine sP3 hS rfl rfl rfl ?_); clear hS; first | ((fail_if_success guard_hyp L1); intro L1 cl1 w hL1 hM1 hS) | ((fail_if_success guard_hyp L2); intro L2 cl2 w hL2 hM2 hS) | fail)) | ((first | refine sN1 hS rfl ?_ | (refine oC ?_; first | refine sC0 hS rfl ?_ | refine sC1 hS rfl rfl ?_ | refine sC2 hS rfl rfl ?_ | refine sC3 hS rfl rfl rfl ?_ | refine sC4 hS rfl rfl rfl ?_)); clear hS; first | ((fail_if_success guard_hyp g1); intro g1 w hS) | ((fail_if_success guard_hyp g2); intro g2 w hS) | ((fail_if_success guard_hyp g3); intro g3 w hS) | fail) | fail)
      refine dr_start0 []  hS (by kernel_rfl) rfl ?_; clear hS; intro w hS
      first | refine dL1 hS 0 rfl rfl rfl rfl ?_ | refine dL2 hS 0 rfl rfl rfl rfl ?_ | refine dL3 hS 0 rfl rfl rfl ?_ | refine dL4 hS 0 rfl rfl rfl ?_ | refine dL5 hS 0 rfl rfl rfl ?_ | refine dL6 hS 0 rfl rfl rfl ?_ | refine dL7 hS 0 rfl rfl rfl ?_
      (try simp only [Act.put, nA, nB, nC])
      refine dM hS 1 rfl rfl rfl ?_
      (try simp only [Act.put, nA, nB, nC])
      refine dM hS 3 rfl rfl rfl ?_
      (try simp only [Act.put, nA, nB, nC])
      first | refine dL1 hS 4 rfl rfl rfl rfl ?_ | refine dL2 hS 4 rfl rfl rfl rfl ?_ | refine dL3 hS 4 rfl rfl rfl ?_ | refine dL4 hS 4 rfl rfl rfl ?_ | refine dL5 hS 4 rfl rfl rfl ?_ | refine dL6 hS 4 rfl rfl rfl ?_ | refine dL7 hS 4 rfl rfl rfl ?_
      (try simp only [Act.put, nA, nB, nC])
      refine dM hS 5 rfl rfl rfl ?_
      (try simp only [Act.put, nA, nB, nC])
      refine dr_one 2 (by kernel_rfl) rfl ?_
      (refine st_call rfl (by kernel_rfl) rfl ?_; go_at_call 56; refine (raise_n rfl rfl rfl (HP.out.2.into hS.frozInto) HP.out.1.good hS.ri HV.out).mono ?_; rintro e w ⟨y3, L3, k3, hf, hl3, rfl, ho, hx1⟩; have hS := hS.addRow ho hx1; have HF3 := Lib.hid hf; clear hf)
      (try simp only [Act.put, nA, nB, nC])
      refine dr_end hS ?_
      refine dr_one 6 (by kernel_rfl) rfl ?_
      (refine st_call rfl (by kernel_rfl) rfl ?_; go_at_call 25; refine (past_n rfl rfl rfl (ptsOf_length _ _) (HP.out.2.into hS.frozInto) HP.out.1.good hS.ptSlice (ptsOf_ok HV.out) (by omega)).mono ?_; rintro e w ⟨zs, hpz, hzl, L4, c4, rfl, ho, hx1⟩; have hS := hS.addRow ho hx1; have HZ := Lib.hid hpz; have HZL := Lib.hid hzl; clear hpz hzl)
      (try simp only [Act.put, nA, nB, nC])
      refine dr_end hS ?_
      refine dr_one 7 (by kernel_rfl) rfl ?_
      (refine st_call rfl (by kernel_rfl) rfl ?_; go_at_call 52; refine (join_n HX.out HZL.out hS.ri hS.ri (by omega) (by omega)).mono ?_; rintro e w ⟨L5, c5, rfl, ho, hx1⟩; have hS := hS.addRow ho hx1)
      (try simp only [Act.put, nA, nB, nC])
      refine dr_end hS ?_
      refine dr_one 8 (by kernel_rfl) rfl ?_
      (refine st_call rfl (by kernel_rfl) rfl ?_; go_at_call 19; refine (sameInts_z hl3 rfl hS.ri hS.ri (by omega) (by rw [zipI_len (by rw [HX.out, HZL.out]), HZL.out]; omega)).mono ?_; rintro e w ⟨rfl, hx1⟩; have hS := hS.ext hx1; rw [HR.out HF3 HZ])
      (try simp only [Act.put, nA, nB, nC])
      refine dr_end hS ?_
      refine dA hS 9 rfl rfl rfl ?_
      (try simp only [Act.put, nA, nB, nC])
      refine dr_done (by kernel_rfl) ?_
      go_wp2_with (first | (refine oL ?_; (first | refine sL1 hS rfl rfl rfl ?_ | refine sL2 hS rfl rfl rfl ?_ | refine sL3 hS rfl rfl ?_ | refine sL4 hS rfl rfl ?_ | refine sL5 hS rfl rfl ?_ | refine sL6 hS rfl rfl ?_ | refine sL7 hS rfl rfl ?_)) | (refine oS ?_; ((first | refine sS1 hS rfl rfl rfl ?_ | refine sS2 hS rfl rfl rfl ?_ | refine sS3 hS rfl rfl rfl ?_ | refine sS4 hS rfl rfl rfl ?_ | refine sS5 hS rfl rfl rfl ?_); clear hS; intro w hS)) | (refine oP ?_; ((first | refine sP1 hS rfl rfl rfl ?_ | refine sP2 hS rfl rfl rfl ?_ | refine sP3 hS rfl rfl rfl ?_); clear hS; first | ((fail_if_success guard_hyp L1); intro L1 cl1 w hL1 hM1 hS) | ((fail_if_success guard_hyp L2); intro L2 cl2 w hL2 hM2 hS) | fail)) | ((first | refine sN1 hS rfl ?_ | (refine oC ?_; first | refine sC0 hS rfl ?_ | refine sC1 hS rfl rfl ?_ | refine sC2 hS rfl rfl ?_ | refine sC3 hS rfl rfl rfl ?_ | refine sC4 hS rfl rfl rfl ?_)); clear hS; first | ((fail_if_success guard_hyp g1); intro g1 w hS) | ((fail_if_success guard_hyp g2); intro g2 w hS) | ((fail_if_success guard_hyp g3); intro g3 w hS) | fail) | fail)
      go_ret
      exact ⟨rfl, hS.toExt⟩
open Go.ChangeShapes Go.WideShapes Go.ChangeAt
set_option maxRecDepth 100000 in
theorem lifted_CutPast (os : Os) (started : os.Started) (H : Type) (enc : TypeId × Value → H) :
    ReturnsInHanded {} Try.checked os 13 .any (Rows.cutPastSpec.pre6 enc Try.prog Try.f13 Rows.cutPastRow.domain false) (Rows.cutPastSpec.post enc Try.prog Try.f13 false true false false) := by
  refine law_lifted (C := Try.checked) (s := Rows.cutPastSpec) (tb := 4) (by kernel_rfl) started (by kernel_rfl) Try.func13
      (ChangeSpec.witness6 (enc := enc) (C := Try.checked) false ⟨#[], #[.slice none 0 0], []⟩ 8 (by kernel_rfl) (by kernel_rfl) (by kernel_rfl) (by kernel_rfl))
      (by kernel_rfl) rfl rfl Try.underlying4 (read_of (by kernel_rfl)) ?_ ?_
  · intro ds hl
    match ds, hl with
    | [d0], _ => exact ⟨rfl, rfl, rfl⟩
  · intro W base args ds p hval0 hA0
    have hval : ∀ (j : Nat) t v, Try.f13.params[j]? = some t → args[j]? = some v → Value.okWide Try.prog W .any base t v := hval0
    have hA : DataW.TrodAll enc Try.prog W 0 (fun _ => true) true Try.f13.params.toList args.toList ds p := hA0
    clear hA0 hval0
    rw [Try.params13] at hA hval
    obtain ⟨v0, d0, rfl, rfl, h0⟩ := trodAll_one hA
    obtain ⟨A0, c0, xs0, rfl, hri0, hc0, hd0, hwf0⟩ := open_nums Try.underlying22 Try.underlying5 (by kernel_rfl) (hval 0 _ v0 rfl rfl) h0
    exact cutPast_any A0 c0 xs0 W hri0 hc0 hd0 (fun b hb => u8_bd (hwf0 b hb))
/-- CutPast returns true for every input, and leaves its arguments as they were. -/
theorem proved_CutPast : Rows.CutPastSaid :=
  OpenClaim.holds_of_wide 13 Try.f13 rfl rfl rfl rfl rfl rfl rfl ⟨rfl, rfl, rfl, rfl, rfl⟩ rfl rfl rfl rfl rfl (by kernel_rfl) Try.func13 (by kernel_rfl)
    (of_decide_eq_true (by kernel_rfl)) (by unfold Func.isWrapper; rw [if_neg (by decide +kernel)]; exact ⟨rfl, rfl⟩)
    (fun os started H enc _ => lifted_CutPast os started H enc)
end Go.Proofs.Ytkflmichekpfbaa
