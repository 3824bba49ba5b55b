/- The sanity check of chapter 23: its walk. No condition. -/
import Derived.Test.YtombhhhaidmpeaaSnLaw
import Derived.Test.YtombhhhaidmpeaaRowLd
namespace Go.Proofs.Ytombhhhaidmpeaa
open Go.RowKit
set_option linter.unusedVariables false
set_option linter.unusedSimpArgs false
set_option linter.unusedSectionVars false

theorem mv_at {l : List Mv} {j : Nat} (hj : j < l.length) : ∀ (i : Nat) u, ([.int .i64 l[j].kind, .int .i64 l[j].fr, .int .i64 l[j].to, .int .i64 l[j].val] : List Value)[i]? = some u → (l.flatMap mvCells)[j * 4 + i]? = some u := fun i u h => flat_at (f := mvCells) (sz := 4) (fun _ => rfl) hj i u h
/-- data that a call has made -/
theorem SnAt.new {w u : World} {v : SV} {s : Snp} (h : SnAt (Orn (fun _ => False) w) u v s) : SnAt (fun k => w.heap.size ≤ k ∧ k < u.heap.size) u v s := h.into (fun b hb hl => ⟨⟨hb.resolve_left id, hl⟩, rfl⟩)
theorem snew_n {S : Nat → Prop} {A : Option Addr} {c n : Nat} {vs : List Int} {w0 : World} (hn : vs.length = n) (hv : RI S w0 A vs) (h1 : 1 ≤ n) (h5 : n ≤ 5) :
    Calls Try.prog 32 #[.slice A n c] w0 fun e w' => ∃ v : SV, e = .returned (.tuple #[.agg #[.slice v.A1 n v.c1, .slice v.A2 n v.c2, .slice v.A3 (n * n) v.c3, .slice v.A4 n v.c4, .slice v.A5 n v.c5, .slice v.A6 (n * n) v.c6, .slice v.A7 (n * n) v.c7], .int .i64 0]) ∧ SnAt (fun k => w0.heap.size ≤ k ∧ k < w'.heap.size) w' v (newS vs) ∧ Ext w0 w' := by
  subst hn
  refine (snew_any A c vs w0 hv (by omega)).mono ?_
  rw [newR, if_pos ⟨h1, h5⟩]
  rintro e w' ⟨v, rfl, h2, h3⟩
  refine ⟨v, ?_, h2.new, h3⟩
  simp only [newS, List.length_replicate]
  rfl
/-- Step of a move that is not refused -/
theorem step_n {S : Nat → Prop} {A1 A2 A3 A4 A5 A6 A7 : Option Addr} {c1 c2 c3 c4 c5 c6 c7 n nn b : Nat} {s : Snp} {kd fr tt val : Int} {w0 : World} (hs : SnAt S w0 ⟨A1, c1, A2, c2, A3, c3, A4, c4, A5, c5, A6, c6, A7, c7⟩ s) (hok : SnOk n b s) (hnn : n * n = nn) (hb : b ≤ 10000) (hr : refS s ⟨kd, fr, tt, val⟩ = 0) :
    Calls Try.prog 33 #[.agg #[.slice A1 n c1, .slice A2 n c2, .slice A3 nn c3, .slice A4 n c4, .slice A5 n c5, .slice A6 nn c6, .slice A7 nn c7], .agg #[.int .i64 kd, .int .i64 fr, .int .i64 tt, .int .i64 val]] w0 fun e w' => ∃ B1 d1 B2 d2 B3 d3 B4 d4 B5 d5 B6 d6 B7 d7, e = .returned (.tuple #[.agg #[.slice B1 n d1, .slice B2 n d2, .slice B3 nn d3, .slice B4 n d4, .slice B5 n d5, .slice B6 nn d6, .slice B7 nn d7], .int .i64 0]) ∧ SnAt (Orn S w0) w' ⟨B1, d1, B2, d2, B3, d3, B4, d4, B5, d5, B6, d6, B7, d7⟩ (goS s ⟨kd, fr, tt, val⟩) ∧ Ext w0 w' := by
  refine (step_any ⟨A1, c1, A2, c2, A3, c3, A4, c4, A5, c5, A6, c6, A7, c7⟩ s n nn b ⟨kd, fr, tt, val⟩ w0 hs hok hnn hb).mono ?_
  rw [stepS, if_pos hr]
  rintro e w' ⟨v, rfl, h2, h3⟩
  have hg := goS_ok hok hr
  obtain ⟨B1, d1, B2, d2, B3, d3, B4, d4, B5, d5, B6, d6, B7, d7⟩ := v
  exact ⟨B1, d1, B2, d2, B3, d3, B4, d4, B5, d5, B6, d6, B7, d7, by simp only [SV.val, SV.cells, hg.lv, hg.lh, hnn], h2, h3⟩
theorem totals_n {S : Nat → Prop} {A1 A2 A3 A4 A5 A6 A7 : Option Addr} {c1 c2 c3 c4 c5 c6 c7 n m : Nat} {s : Snp} {w0 : World} (hs : SnAt S w0 ⟨A1, c1, A2, c2, A3, c3, A4, c4, A5, c5, A6, c6, A7, c7⟩ s) (hl : SnLen n m s) (hn : n ≤ 5) (hm : m ≤ 25) :
    Calls Try.prog 50 #[.agg #[.slice A1 n c1, .slice A2 n c2, .slice A3 m c3, .slice A4 n c4, .slice A5 n c5, .slice A6 m c6, .slice A7 m c7]] w0 fun e w' => e = .returned (.tuple #[.int .i64 (totP s), .int .i64 (totR s)]) ∧ Ext w0 w' :=
  totals_any ⟨A1, c1, A2, c2, A3, c3, A4, c4, A5, c5, A6, c6, A7, c7⟩ s n m w0 hs hl (by omega) (by omega)
theorem complete_n {S : Nat → Prop} {A1 A2 A3 A4 A5 A6 A7 : Option Addr} {c1 c2 c3 c4 c5 c6 c7 n m : Nat} {s : Snp} {w0 : World} (hs : SnAt S w0 ⟨A1, c1, A2, c2, A3, c3, A4, c4, A5, c5, A6, c6, A7, c7⟩ s) (hl : SnLen n m s) (hn : n ≤ 5) (hm : m ≤ 25) :
    Calls Try.prog 35 #[.agg #[.slice A1 n c1, .slice A2 n c2, .slice A3 m c3, .slice A4 n c4, .slice A5 n c5, .slice A6 m c6, .slice A7 m c7]] w0 fun e w' => e = .returned (.bool (compS s)) ∧ Ext w0 w' :=
  complete_any ⟨A1, c1, A2, c2, A3, c3, A4, c4, A5, c5, A6, c6, A7, c7⟩ s n m w0 hs hl (by omega) (by omega)
set_option maxRecDepth 100000 in
set_option maxHeartbeats 6400000 in
theorem awake23_any (w0 : World) : Calls Try.prog 30 #[] w0 fun e w' => e = .returned (.bool true) ∧ Ext w0 w' := by
  have hS := St.start w0 NoM
  go_enter Try.func30, Try.ntmps30
  go_upto_region 2 with (first | (go_at_call 32; refine (snew_n (vs := [5, 7]) rfl (RV.ofBlk (us := [.int .i64 5, .int .i64 7]) (hS.all (blk g1 [.int .i64 5, .int .i64 7] 3) (by simp))) (by decide) (by decide)).mono ?_; rintro e u ⟨v, rfl, hsn, hx1⟩; replace hS := hS.frozNew hx1; obtain ⟨N1, hN1⟩ : ∃ N : Nat → Prop, N = fun k => w.heap.size ≤ k ∧ k < u.heap.size := ⟨_, rfl⟩; rw [← hN1] at hS hsn; have HSN := Lib.hid hsn; clear hN1 hsn hx1; obtain ⟨A1, c1, A2, c2, A3, c3, A4, c4, A5, c5, A6, c6, A7, c7⟩ := v; simp only) | (refine oL ?_; (first | refine sL1 hS rfl rfl rfl ?_ | refine sL2 hS rfl rfl rfl ?_ | refine sL3 hS rfl rfl ?_ | refine sL4 hS rfl rfl ?_ | refine sL5 hS rfl rfl ?_ | refine sL6 hS rfl rfl ?_ | refine sL7 hS rfl rfl ?_)) | (refine oS ?_; ((first | refine sS1 hS rfl rfl rfl ?_ | refine sS2 hS rfl rfl rfl ?_ | refine sS3 hS rfl rfl rfl ?_ | refine sS4 hS rfl rfl rfl ?_ | refine sS5 hS rfl rfl rfl ?_); clear hS; intro w hS)) | ((first | refine sN1 hS rfl ?_ | (refine oC ?_; first | refine sC0 hS rfl ?_ | refine sC1 hS rfl rfl ?_ | refine sC2 hS rfl rfl ?_ | refine sC3 hS rfl rfl rfl ?_ | refine sC4 hS rfl rfl rfl ?_)); clear hS; first | ((fail_if_success guard_hyp g1); intro g1 w hS) | ((fail_if_success guard_hyp g2); intro g2 w hS) | ((fail_if_success guard_hyp g3); intro g3 w hS) | ((fail_if_success guard_hyp g4); intro g4 w hS) | fail) | fail)
  refine lR ?_
  refine lP rfl ?_
  (try simp only [Act.put, nA, nB, nC])
  refine lP rfl ?_
  (try simp only [Act.put, nA, nB, nC])
  refine lP rfl ?_
  (try simp only [Act.put, nA, nB, nC])
  refine lP rfl ?_
  (try simp only [Act.put, nA, nB, nC])
  refine lP rfl ?_
  (try simp only [Act.put, nA, nB, nC])
  (refine ⟨?_⟩; (refine st_bsG (xs := [.agg #[.int .i64 1, .int .i64 0, .int .i64 1, .int .i64 2], .agg #[.int .i64 3, .int .i64 0, .int .i64 0, .int .i64 0], .agg #[.int .i64 2, .int .i64 0, .int .i64 1, .int .i64 0], .agg #[.int .i64 2, .int .i64 0, .int .i64 1, .int .i64 0], .agg #[.int .i64 2, .int .i64 1, .int .i64 0, .int .i64 0]]) hS rfl (by simp [Act.eval]) rfl (by decide) (by decide) (by simp [Value.cells]) ?_; clear hS; intro g3 w hS); refine WL.h ?_)
  (try simp only [Act.put, nA, nB, nC])
  refine lA rfl rfl ?_
  (try simp only [Act.put, nA, nB, nC])
  refine lZ ?_
  replace hS := hS.blkRw (g := g3) (n := 5) (sz := 4) rfl (by decide)
  have hS0 : St w0 NoM [row (.slice (some ⟨g3, 0, none⟩) 5 5) 62 4 5 (exMv.flatMap mvCells), blk g2 [.slice A1 2 c1, .slice A2 2 c2, .slice A3 4 c3, .slice A4 2 c4, .slice A5 2 c5, .slice A6 4 c6, .slice A7 4 c7] 56, froz N1 u, blk g1 [.int .i64 5, .int .i64 7] 3] w := hS
  replace hS := hS0
  clear hS0
  have HML : Hid (∀ i, i < 5 → exMv.getD i ⟨0, 0, 0, 0⟩ = exMv.getD i ⟨0, 0, 0, 0⟩ ∧ i < exMv.length) := Lib.hid (fun i h => ⟨rfl, h⟩)
  go_wp2_with (first | (refine oL ?_; (first | refine sL1 hS rfl rfl rfl ?_ | refine sL2 hS rfl rfl rfl ?_ | refine sL3 hS rfl rfl ?_ | refine sL4 hS rfl rfl ?_ | refine sL5 hS rfl rfl ?_ | refine sL6 hS rfl rfl ?_ | refine sL7 hS rfl rfl ?_)) | (refine oS ?_; ((first | refine sS1 hS rfl rfl rfl ?_ | refine sS2 hS rfl rfl rfl ?_ | refine sS3 hS rfl rfl rfl ?_ | refine sS4 hS rfl rfl rfl ?_ | refine sS5 hS rfl rfl rfl ?_); clear hS; intro w hS)) | ((first | refine sN1 hS rfl ?_ | (refine oC ?_; first | refine sC0 hS rfl ?_ | refine sC1 hS rfl rfl ?_ | refine sC2 hS rfl rfl ?_ | refine sC3 hS rfl rfl rfl ?_ | refine sC4 hS rfl rfl rfl ?_)); clear hS; first | ((fail_if_success guard_hyp g1); intro g1 w hS) | ((fail_if_success guard_hyp g2); intro g2 w hS) | ((fail_if_success guard_hyp g3); intro g3 w hS) | ((fail_if_success guard_hyp g4); intro g4 w hS) | fail) | fail)
  go_loopw [2, 4] (fun s2 s4 wr => ∃ (i : Nat) (A1 : Option Addr) (c1 : Nat) (A2 : Option Addr) (c2 : Nat) (A3 : Option Addr) (c3 : Nat) (A4 : Option Addr) (c4 : Nat) (A5 : Option Addr) (c5 : Nat) (A6 : Option Addr) (c6 : Nat) (A7 : Option Addr) (c7 : Nat) (T : Nat → Prop) (u : World), i ≤ 5 ∧ s4 = .int .i64 i ∧ s2 = .int .i64 0 ∧ Hid (SnAt T u ⟨A1, c1, A2, c2, A3, c3, A4, c4, A5, c5, A6, c6, A7, c7⟩ (exSt i)) ∧ St w0 NoM [row (.slice (some ⟨g3, 0, none⟩) 5 5) 62 4 5 (exMv.flatMap mvCells), blk g2 [.slice A1 2 c1, .slice A2 2 c2, .slice A3 4 c3, .slice A4 2 c4, .slice A5 2 c5, .slice A6 4 c6, .slice A7 4 c7] 56, froz T u] wr) (fun _ s4 _ => 5 - (intOf s4).toNat)
  case atStart => exact ⟨0, A1, c1, A2, c2, A3, c3, A4, c4, A5, c5, A6, c6, A7, c7, N1, u, by omega, rfl, rfl, HSN, hS.re⟩
  case round =>
    clear hS HSN
    obtain ⟨i, A1, c1, A2, c2, A3, c3, A4, c4, A5, c5, A6, c6, A7, c7, T, u, hi, rfl, rfl, HSN, hS⟩ := hrel
    by_cases hlt : i < 5
    · have hil : i < exMv.length := hlt
      have HREF := Lib.hid (ex_ref i hlt)
      have HNX := Lib.hid (show exSt (i + 1) = goS (exSt i) exMv[i] by rw [exSt]; congr 1; simp [hil])
      have HPT := Lib.hid (mv_at hil)
      have HGE := Lib.hid (show exMv.getD i ⟨0, 0, 0, 0⟩ = exMv[i] by simp [hil])
      have HOK := Lib.hid (ex_ok i hi)
      rw [HGE.out] at HREF
      clear HGE
      generalize exMv[i] = mv at *
      obtain ⟨kd, fr, tt, val⟩ := mv
      simp only at HPT
      have hi5 : (i : Int) < 5 := by omega
      go_upto_region 4 with (first | (refine oL ?_; (first | refine sL1 hS rfl rfl rfl ?_ | refine sL2 hS rfl rfl rfl ?_ | refine sL3 hS rfl rfl ?_ | refine sL4 hS rfl rfl ?_ | refine sL5 hS rfl rfl ?_ | refine sL6 hS rfl rfl ?_ | refine sL7 hS rfl rfl ?_)) | (refine oS ?_; ((first | refine sS1 hS rfl rfl rfl ?_ | refine sS2 hS rfl rfl rfl ?_ | refine sS3 hS rfl rfl rfl ?_ | refine sS4 hS rfl rfl rfl ?_ | refine sS5 hS rfl rfl rfl ?_); clear hS; intro w hS)) | ((first | refine sN1 hS rfl ?_ | (refine oC ?_; first | refine sC0 hS rfl ?_ | refine sC1 hS rfl rfl ?_ | refine sC2 hS rfl rfl ?_ | refine sC3 hS rfl rfl rfl ?_ | refine sC4 hS rfl rfl rfl ?_)); clear hS; first | ((fail_if_success guard_hyp g1); intro g1 w hS) | ((fail_if_success guard_hyp g2); intro g2 w hS) | ((fail_if_success guard_hyp g3); intro g3 w hS) | ((fail_if_success guard_hyp g4); intro g4 w hS) | fail) | fail)
      refine lR ?_
      refine lM rfl rfl ?_
      (try simp only [Act.put, nA, nB, nC])
      refine lM rfl rfl ?_
      (try simp only [Act.put, nA, nB, nC])
      refine lP rfl ?_
      (try simp only [Act.put, nA, nB, nC])
      refine lP rfl ?_
      (try simp only [Act.put, nA, nB, nC])
      refine lM rfl rfl ?_
      (try simp only [Act.put, nA, nB, nC])
      first | refine lQ rfl ?_ | refine lM rfl rfl ?_ | fail
      (try simp only [Act.put, nA, nB, nC])
      first | refine lQ rfl ?_ | refine lP rfl ?_ | fail
      (try simp only [Act.put, nA, nB, nC])
      refine lP rfl ?_
      (try simp only [Act.put, nA, nB, nC])
      refine lZ ?_
      go_wp2_with (first | (refine oL ?_; (first | refine sL1 hS rfl rfl rfl ?_ | refine sL2 hS rfl rfl rfl ?_ | refine sL3 hS rfl rfl ?_ | refine sL4 hS rfl rfl ?_ | refine sL5 hS rfl rfl ?_ | refine sL6 hS rfl rfl ?_ | refine sL7 hS rfl rfl ?_)) | (refine oS ?_; ((first | refine sS1 hS rfl rfl rfl ?_ | refine sS2 hS rfl rfl rfl ?_ | refine sS3 hS rfl rfl rfl ?_ | refine sS4 hS rfl rfl rfl ?_ | refine sS5 hS rfl rfl rfl ?_); clear hS; intro w hS)) | ((first | refine sN1 hS rfl ?_ | (refine oC ?_; first | refine sC0 hS rfl ?_ | refine sC1 hS rfl rfl ?_ | refine sC2 hS rfl rfl ?_ | refine sC3 hS rfl rfl rfl ?_ | refine sC4 hS rfl rfl rfl ?_)); clear hS; first | ((fail_if_success guard_hyp g1); intro g1 w hS) | ((fail_if_success guard_hyp g2); intro g2 w hS) | ((fail_if_success guard_hyp g3); intro g3 w hS) | ((fail_if_success guard_hyp g4); intro g4 w hS) | fail) | fail)
      refine dr_start1 [] 1 hS (by kernel_rfl) rfl ?_; clear hS; intro w hS
      refine dM hS 1 rfl rfl rfl ?_
      (try simp only [Act.put, nA, nB, nC])
      refine dM hS 2 rfl rfl rfl ?_
      (try simp only [Act.put, nA, nB, nC])
      refine dP hS 3 rfl rfl ?_
      (try simp only [Act.put, nA, nB, nC])
      first | refine dR8 hS 4 rfl rfl rfl HPT.out ?_ | refine dL1 hS 4 rfl rfl rfl rfl ?_ | refine dL2 hS 4 rfl rfl rfl rfl ?_ | refine dL3 hS 4 rfl rfl rfl ?_ | refine dL4 hS 4 rfl rfl rfl ?_ | refine dL5 hS 4 rfl rfl rfl ?_ | refine dL6 hS 4 rfl rfl rfl ?_ | refine dL7 hS 4 rfl rfl rfl ?_
      (try simp only [Act.put, nA, nB, nC])
      refine dr_one 0 (by kernel_rfl) rfl ?_
      (first | refine sL1 hS rfl rfl rfl ?_ | refine sL2 hS rfl rfl rfl ?_ | refine sL3 hS rfl rfl ?_ | refine sL4 hS rfl rfl ?_ | refine sL5 hS rfl rfl ?_ | refine sL6 hS rfl rfl ?_ | refine sL7 hS rfl rfl ?_)
      (try simp only [Act.put, nA, nB, nC])
      refine dr_end hS ?_
      refine dr_one 5 (by kernel_rfl) rfl ?_
      (refine st_call rfl (by kernel_rfl) rfl ?_; go_at_call 33; refine (step_n (HSN.out.into hS.frozInto) HOK.out rfl (by omega) HREF.out).mono ?_; rintro e w1 ⟨B1, d1, B2, d2, B3, d3, B4, d4, B5, d5, B6, d6, B7, d7, rfl, hsn, hx1⟩; obtain ⟨T1, hS1, hi1, hi0⟩ := hS.grow2 hx1; replace hS := hS1; clear hS1; have HS1 := Lib.hid (hsn.into hi1))
      (try simp only [Act.put, nA, nB, nC])
      refine dr_end hS ?_
      refine dM hS 6 rfl rfl rfl ?_
      (try simp only [Act.put, nA, nB, nC])
      refine dP hS 7 rfl rfl ?_
      (try simp only [Act.put, nA, nB, nC])
      refine dP hS 8 rfl rfl ?_
      (try simp only [Act.put, nA, nB, nC])
      refine dr_one 9 (by kernel_rfl) rfl ?_
      ((first | refine sS1 hS rfl rfl rfl ?_ | refine sS2 hS rfl rfl rfl ?_ | refine sS3 hS rfl rfl rfl ?_ | refine sS4 hS rfl rfl rfl ?_ | refine sS5 hS rfl rfl rfl ?_); clear hS; intro w hS)
      (try simp only [Act.put, nA, nB, nC])
      refine dr_end hS ?_
      refine dA hS 10 rfl rfl rfl ?_
      (try simp only [Act.put, nA, nB, nC])
      refine dr_done (by kernel_rfl) ?_
      obtain ⟨T2, hS2, hi2, hi3⟩ := hS.merge T1 w1 hi0
      replace hS := hS2
      clear hS2
      go_wp2_with (first | (refine oL ?_; (first | refine sL1 hS rfl rfl rfl ?_ | refine sL2 hS rfl rfl rfl ?_ | refine sL3 hS rfl rfl ?_ | refine sL4 hS rfl rfl ?_ | refine sL5 hS rfl rfl ?_ | refine sL6 hS rfl rfl ?_ | refine sL7 hS rfl rfl ?_)) | (refine oS ?_; ((first | refine sS1 hS rfl rfl rfl ?_ | refine sS2 hS rfl rfl rfl ?_ | refine sS3 hS rfl rfl rfl ?_ | refine sS4 hS rfl rfl rfl ?_ | refine sS5 hS rfl rfl rfl ?_); clear hS; intro w hS)) | ((first | refine sN1 hS rfl ?_ | (refine oC ?_; first | refine sC0 hS rfl ?_ | refine sC1 hS rfl rfl ?_ | refine sC2 hS rfl rfl ?_ | refine sC3 hS rfl rfl rfl ?_ | refine sC4 hS rfl rfl rfl ?_)); clear hS; first | ((fail_if_success guard_hyp g1); intro g1 w hS) | ((fail_if_success guard_hyp g2); intro g2 w hS) | ((fail_if_success guard_hyp g3); intro g3 w hS) | ((fail_if_success guard_hyp g4); intro g4 w hS) | fail) | fail)
      go_roundw
      case measure => simp [intOf]; omega
      exact ⟨i + 1, B1, d1, B2, d2, B3, d3, B4, d4, B5, d5, B6, d6, B7, d7, T2, _, by omega, by go_num, rfl, Lib.hid (by rw [HNX.out]; exact HS1.out.into hi3), hS.re⟩
    · obtain rfl : i = 5 := by omega
      have HLN := Lib.hid ((ex_ok 5 (by omega)).len (by omega))
      have HSV := Lib.hid (show (exSt 5).saved = [3, 9] by rw [ex5])
      have HTT := Lib.hid ex_tot
      have HCC := Lib.hid ex_comp
      have h5 := HSN.out.saved
      rw [HSV.out] at h5
      obtain ⟨b5, o5, e5, hc0⟩ := h5.fc (k := 0) (by decide)
      obtain ⟨b6, o6, e6, hc1⟩ := h5.fc (k := 1) (by decide)
      simp only at e5 e6
      subst e5
      obtain ⟨rfl, rfl⟩ : b5 = b6 ∧ o5 = o6 := by simpa using e6
      clear e6 h5 hlt hi
      simp only [nth, List.getD_cons_zero, List.getD_cons_succ, Nat.add_zero] at hc0 hc1
      generalize exSt 5 = s5 at *
      go_upto_region 4 with (first | (refine oL ?_; (first | refine sL1 hS rfl rfl rfl ?_ | refine sL2 hS rfl rfl rfl ?_ | refine sL3 hS rfl rfl ?_ | refine sL4 hS rfl rfl ?_ | refine sL5 hS rfl rfl ?_ | refine sL6 hS rfl rfl ?_ | refine sL7 hS rfl rfl ?_)) | (refine oS ?_; ((first | refine sS1 hS rfl rfl rfl ?_ | refine sS2 hS rfl rfl rfl ?_ | refine sS3 hS rfl rfl rfl ?_ | refine sS4 hS rfl rfl rfl ?_ | refine sS5 hS rfl rfl rfl ?_); clear hS; intro w hS)) | ((first | refine sN1 hS rfl ?_ | (refine oC ?_; first | refine sC0 hS rfl ?_ | refine sC1 hS rfl rfl ?_ | refine sC2 hS rfl rfl ?_ | refine sC3 hS rfl rfl rfl ?_ | refine sC4 hS rfl rfl rfl ?_)); clear hS; first | ((fail_if_success guard_hyp g1); intro g1 w hS) | ((fail_if_success guard_hyp g2); intro g2 w hS) | ((fail_if_success guard_hyp g3); intro g3 w hS) | ((fail_if_success guard_hyp g4); intro g4 w hS) | fail) | fail)
      refine lR ?_
      refine lM rfl rfl ?_
      (try simp only [Act.put, nA, nB, nC])
      refine lM rfl rfl ?_
      (try simp only [Act.put, nA, nB, nC])
      refine lP rfl ?_
      (try simp only [Act.put, nA, nB, nC])
      refine lP rfl ?_
      (try simp only [Act.put, nA, nB, nC])
      refine lM rfl rfl ?_
      (try simp only [Act.put, nA, nB, nC])
      first | refine lQ rfl ?_ | refine lM rfl rfl ?_ | fail
      (try simp only [Act.put, nA, nB, nC])
      first | refine lQ rfl ?_ | refine lP rfl ?_ | fail
      (try simp only [Act.put, nA, nB, nC])
      refine lP rfl ?_
      (try simp only [Act.put, nA, nB, nC])
      refine lZ ?_
      go_upto_region 7 with (first | (refine oL ?_; (first | refine sL1 hS rfl rfl rfl ?_ | refine sL2 hS rfl rfl rfl ?_ | refine sL3 hS rfl rfl ?_ | refine sL4 hS rfl rfl ?_ | refine sL5 hS rfl rfl ?_ | refine sL6 hS rfl rfl ?_ | refine sL7 hS rfl rfl ?_)) | (refine oS ?_; ((first | refine sS1 hS rfl rfl rfl ?_ | refine sS2 hS rfl rfl rfl ?_ | refine sS3 hS rfl rfl rfl ?_ | refine sS4 hS rfl rfl rfl ?_ | refine sS5 hS rfl rfl rfl ?_); clear hS; intro w hS)) | ((first | refine sN1 hS rfl ?_ | (refine oC ?_; first | refine sC0 hS rfl ?_ | refine sC1 hS rfl rfl ?_ | refine sC2 hS rfl rfl ?_ | refine sC3 hS rfl rfl rfl ?_ | refine sC4 hS rfl rfl rfl ?_)); clear hS; first | ((fail_if_success guard_hyp g1); intro g1 w hS) | ((fail_if_success guard_hyp g2); intro g2 w hS) | ((fail_if_success guard_hyp g3); intro g3 w hS) | ((fail_if_success guard_hyp g4); intro g4 w hS) | fail) | fail)
      refine lR ?_
      (refine ⟨?_⟩; ((first | refine sL1 hS rfl rfl rfl ?_ | refine sL2 hS rfl rfl rfl ?_ | refine sL3 hS rfl rfl ?_ | refine sL4 hS rfl rfl ?_ | refine sL5 hS rfl rfl ?_ | refine sL6 hS rfl rfl ?_ | refine sL7 hS rfl rfl ?_)); refine WL.h ?_)
      (try simp only [Act.put, nA, nB, nC])
      (refine ⟨?_⟩; (refine st_call rfl (by kernel_rfl) rfl ?_; go_at_call 50; refine (totals_n (HSN.out.into hS.frozInto) HLN.out (by omega) (by omega)).mono ?_; rw [HTT.out.1, HTT.out.2]; rintro e w ⟨rfl, hx1⟩; replace hS := hS.ext hx1); refine WL.h ?_)
      (try simp only [Act.put, nA, nB, nC])
      refine lM rfl rfl ?_
      (try simp only [Act.put, nA, nB, nC])
      refine lP rfl ?_
      (try simp only [Act.put, nA, nB, nC])
      refine lP rfl ?_
      (try simp only [Act.put, nA, nB, nC])
      refine lA rfl rfl ?_
      (try simp only [Act.put, nA, nB, nC])
      refine lA rfl rfl ?_
      (try simp only [Act.put, nA, nB, nC])
      refine lZ ?_
      go_upto_region 8 with (first | (refine oL ?_; (first | refine sL1 hS rfl rfl rfl ?_ | refine sL2 hS rfl rfl rfl ?_ | refine sL3 hS rfl rfl ?_ | refine sL4 hS rfl rfl ?_ | refine sL5 hS rfl rfl ?_ | refine sL6 hS rfl rfl ?_ | refine sL7 hS rfl rfl ?_)) | (refine oS ?_; ((first | refine sS1 hS rfl rfl rfl ?_ | refine sS2 hS rfl rfl rfl ?_ | refine sS3 hS rfl rfl rfl ?_ | refine sS4 hS rfl rfl rfl ?_ | refine sS5 hS rfl rfl rfl ?_); clear hS; intro w hS)) | ((first | refine sN1 hS rfl ?_ | (refine oC ?_; first | refine sC0 hS rfl ?_ | refine sC1 hS rfl rfl ?_ | refine sC2 hS rfl rfl ?_ | refine sC3 hS rfl rfl rfl ?_ | refine sC4 hS rfl rfl rfl ?_)); clear hS; first | ((fail_if_success guard_hyp g1); intro g1 w hS) | ((fail_if_success guard_hyp g2); intro g2 w hS) | ((fail_if_success guard_hyp g3); intro g3 w hS) | ((fail_if_success guard_hyp g4); intro g4 w hS) | fail) | fail)
      refine lR ?_
      refine lM rfl rfl ?_
      (try simp only [Act.put, nA, nB, nC])
      refine lP rfl ?_
      (try simp only [Act.put, nA, nB, nC])
      refine lM rfl rfl ?_
      (try simp only [Act.put, nA, nB, nC])
      first | refine lQ rfl ?_ | (refine ⟨?_⟩; ((first | refine sL1 hS rfl rfl rfl ?_ | refine sL2 hS rfl rfl rfl ?_ | refine sL3 hS rfl rfl ?_ | refine sL4 hS rfl rfl ?_ | refine sL5 hS rfl rfl ?_ | refine sL6 hS rfl rfl ?_ | refine sL7 hS rfl rfl ?_)); refine WL.h ?_) | fail
      (try simp only [Act.put, nA, nB, nC])
      first | refine lQ rfl ?_ | (refine ⟨?_⟩; (refine st_call rfl (by kernel_rfl) rfl ?_; go_at_call 35; refine (complete_n (HSN.out.into hS.frozInto) HLN.out (by omega) (by omega)).mono ?_; rw [HCC.out]; rintro e w ⟨rfl, hx1⟩; replace hS := hS.ext hx1); refine WL.h ?_) | fail
      (try simp only [Act.put, nA, nB, nC])
      refine lP rfl ?_
      (try simp only [Act.put, nA, nB, nC])
      refine lM rfl rfl ?_
      (try simp only [Act.put, nA, nB, nC])
      first | refine lQ rfl ?_ | refine lM rfl rfl ?_ | fail
      (try simp only [Act.put, nA, nB, nC])
      first | refine lQ rfl ?_ | refine lP rfl ?_ | fail
      (try simp only [Act.put, nA, nB, nC])
      refine lP rfl ?_
      (try simp only [Act.put, nA, nB, nC])
      refine lM rfl rfl ?_
      (try simp only [Act.put, nA, nB, nC])
      first | refine lQ rfl ?_ | refine lM rfl rfl ?_ | fail
      (try simp only [Act.put, nA, nB, nC])
      first | refine lQ rfl ?_ | refine lP rfl ?_ | fail
      (try simp only [Act.put, nA, nB, nC])
      refine lP rfl ?_
      (try simp only [Act.put, nA, nB, nC])
      refine lM rfl rfl ?_
      (try simp only [Act.put, nA, nB, nC])
      first | refine lQ rfl ?_ | refine lP rfl ?_ | fail
      (try simp only [Act.put, nA, nB, nC])
      first | refine lQ rfl ?_ | (refine ⟨?_⟩; ((first | refine sL1 hS rfl rfl rfl ?_ | refine sL2 hS rfl rfl rfl ?_ | refine sL3 hS rfl rfl ?_ | refine sL4 hS rfl rfl ?_ | refine sL5 hS rfl rfl ?_ | refine sL6 hS rfl rfl ?_ | refine sL7 hS rfl rfl ?_)); refine WL.h ?_) | fail
      (try simp only [Act.put, nA, nB, nC])
      first | refine lQ rfl ?_ | refine lP rfl ?_ | fail
      (try simp only [Act.put, nA, nB, nC])
      first | refine lQ rfl ?_ | refine lP rfl ?_ | fail
      (try simp only [Act.put, nA, nB, nC])
      refine lP rfl ?_
      (try simp only [Act.put, nA, nB, nC])
      refine lM rfl rfl ?_
      (try simp only [Act.put, nA, nB, nC])
      first | refine lQ rfl ?_ | refine lP rfl ?_ | fail
      (try simp only [Act.put, nA, nB, nC])
      first | refine lQ rfl ?_ | (refine ⟨?_⟩; ((first | refine sL1 hS rfl rfl rfl ?_ | refine sL2 hS rfl rfl rfl ?_ | refine sL3 hS rfl rfl ?_ | refine sL4 hS rfl rfl ?_ | refine sL5 hS rfl rfl ?_ | refine sL6 hS rfl rfl ?_ | refine sL7 hS rfl rfl ?_)); refine WL.h ?_) | fail
      (try simp only [Act.put, nA, nB, nC])
      first | refine lQ rfl ?_ | refine lP rfl ?_ | fail
      (try simp only [Act.put, nA, nB, nC])
      first | refine lQ rfl ?_ | (refine ⟨?_⟩; (refine st_ldf hS rfl rfl hc0 ?_); refine WL.h ?_) | fail
      (try simp only [Act.put, nA, nB, nC])
      first | refine lQ rfl ?_ | refine lP rfl ?_ | fail
      (try simp only [Act.put, nA, nB, nC])
      refine lP rfl ?_
      (try simp only [Act.put, nA, nB, nC])
      refine lM rfl rfl ?_
      (try simp only [Act.put, nA, nB, nC])
      first | refine lQ rfl ?_ | refine lP rfl ?_ | fail
      (try simp only [Act.put, nA, nB, nC])
      first | refine lQ rfl ?_ | (refine ⟨?_⟩; ((first | refine sL1 hS rfl rfl rfl ?_ | refine sL2 hS rfl rfl rfl ?_ | refine sL3 hS rfl rfl ?_ | refine sL4 hS rfl rfl ?_ | refine sL5 hS rfl rfl ?_ | refine sL6 hS rfl rfl ?_ | refine sL7 hS rfl rfl ?_)); refine WL.h ?_) | fail
      (try simp only [Act.put, nA, nB, nC])
      first | refine lQ rfl ?_ | refine lP rfl ?_ | fail
      (try simp only [Act.put, nA, nB, nC])
      first | refine lQ rfl ?_ | (refine ⟨?_⟩; (refine st_ldf hS rfl rfl hc1 ?_); refine WL.h ?_) | fail
      (try simp only [Act.put, nA, nB, nC])
      first | refine lQ rfl ?_ | refine lP rfl ?_ | fail
      (try simp only [Act.put, nA, nB, nC])
      refine lP rfl ?_
      (try simp only [Act.put, nA, nB, nC])
      refine lA rfl rfl ?_
      (try simp only [Act.put, nA, nB, nC])
      refine lZ ?_
      go_wp2_with (first | (refine oL ?_; (first | refine sL1 hS rfl rfl rfl ?_ | refine sL2 hS rfl rfl rfl ?_ | refine sL3 hS rfl rfl ?_ | refine sL4 hS rfl rfl ?_ | refine sL5 hS rfl rfl ?_ | refine sL6 hS rfl rfl ?_ | refine sL7 hS rfl rfl ?_)) | (refine oS ?_; ((first | refine sS1 hS rfl rfl rfl ?_ | refine sS2 hS rfl rfl rfl ?_ | refine sS3 hS rfl rfl rfl ?_ | refine sS4 hS rfl rfl rfl ?_ | refine sS5 hS rfl rfl rfl ?_); clear hS; intro w hS)) | ((first | refine sN1 hS rfl ?_ | (refine oC ?_; first | refine sC0 hS rfl ?_ | refine sC1 hS rfl rfl ?_ | refine sC2 hS rfl rfl ?_ | refine sC3 hS rfl rfl rfl ?_ | refine sC4 hS rfl rfl rfl ?_)); clear hS; first | ((fail_if_success guard_hyp g1); intro g1 w hS) | ((fail_if_success guard_hyp g2); intro g2 w hS) | ((fail_if_success guard_hyp g3); intro g3 w hS) | ((fail_if_success guard_hyp g4); intro g4 w hS) | fail) | fail)
      go_ret
      exact ⟨rfl, hS.toExt⟩
end Go.Proofs.Ytombhhhaidmpeaa
