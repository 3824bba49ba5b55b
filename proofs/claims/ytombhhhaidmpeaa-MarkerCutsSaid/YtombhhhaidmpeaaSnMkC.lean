/- A machine and moves by choices (start of law 23). Conditions: what is handed in lies in memory. -/
import Derived.Test.YtombhhhaidmpeaaSnMkB
namespace Go.Proofs.Ytombhhhaidmpeaa
open Go.RowKit
set_option linter.unusedVariables false
set_option linter.unusedSimpArgs false

theorem moves_z {w0 w : World} {M : Nat → Prop} {cs : List (Chunk w0 M)} {f : Chunk w0 M → List (Chunk w0 M)} {g n : Nat} {z : Int} {κ : CK} {r : List Int} (h : St w0 M cs w) [hp : PickC g cs κ r f] (hz : z = n) (hn2 : 2 ≤ n) (hn4 : n ≤ 4) :
    Calls Try.prog 51 #[.pointer (some ⟨g, 0, none⟩), .int .i64 z, .int .i64 50] w fun e w' => ∃ (L : Option Addr) (c m : Nat) (l : List Mv) (r' : List Int), e = .returned (.slice L m c) ∧ l.length = m ∧ m ≤ 50 ∧ St w0 M (row (.slice L m c) 62 4 m (l.flatMap mvCells) :: f (cds g κ r')) w' := by
  subst hz
  exact (moves_any g κ r n w h.codes hn2 hn4).mono fun e w' ⟨L, c, m, l, r', he, h1, h2, ho, hc, hk⟩ => ⟨L, c, m, l, r', he, h1, h2, h.usedAdd (r := r) hc hk (own_base ho (Nat.zero_le _)) (own_block ho)⟩
/-- what start returns, as rows of its own -/
def StRetO (w0 : World) (e : Ending) (w' : World) : Prop := ∃ (L1 : Option Addr) (c1 n : Nat) (xs : List Int) (L2 : Option Addr) (c2 m : Nat) (l : List Mv), e = .returned (.tuple #[.slice L1 n c1, .slice L2 m c2]) ∧ xs.length = n ∧ 2 ≤ n ∧ n ≤ 4 ∧ (∀ x ∈ xs, -9223372036854775808 ≤ x ∧ x ≤ 9223372036854775807) ∧ l.length = m ∧ m ≤ 50 ∧ w'.ownsRow w0.heap.size 3 1 (.slice L1 n c1) n (ints xs) ∧ w'.ownsRow w0.heap.size 62 4 (.slice L2 m c2) m (l.flatMap mvCells) ∧ Ext w0 w'
/-- what start returns -/
def StRet (w0 : World) (e : Ending) (w' : World) : Prop := ∃ (L1 : Option Addr) (c1 n : Nat) (xs : List Int) (L2 : Option Addr) (c2 m : Nat) (l : List Mv), e = .returned (.tuple #[.slice L1 n c1, .slice L2 m c2]) ∧ xs.length = n ∧ 2 ≤ n ∧ n ≤ 4 ∧ (∀ x ∈ xs, -9223372036854775808 ≤ x ∧ x ≤ 9223372036854775807) ∧ l.length = m ∧ m ≤ 50 ∧ RI (fun k => w0.heap.size ≤ k ∧ k < w'.heap.size) w' L1 xs ∧ RV (fun k => w0.heap.size ≤ k ∧ k < w'.heap.size) w' L2 (l.flatMap mvCells) ∧ Ext w0 w'
set_option maxRecDepth 100000 in
set_option maxHeartbeats 6400000 in
theorem start_own (V : Option Addr) (g : Nat) (vs : List Int) (C : Option Addr) (f : Nat) (bs : List Int) (w0 : World) (hvs : RI (fun b => b < w0.heap.size) w0 V vs) (hg : vs.length ≤ g) (hg' : g ≤ 9223372036854775807) (hin : ∀ b ∈ vs, -9223372036854775808 ≤ b ∧ b ≤ 9223372036854775807) (hbs : RV (fun b => b < w0.heap.size) w0 C (bytes bs)) (hf : bs.length ≤ f) (hf' : f ≤ 9223372036854775807) (hby : ∀ b ∈ bs, 0 ≤ b ∧ b ≤ 255) :
    Calls Try.prog 31 #[.slice V vs.length g, .slice C bs.length f] w0 (StRetO w0) := by
  have hS := St.start w0 NoM
  have HB := Lib.hid (And.intro hby (hbs.sub (S' := Froz w0 NoM) (fun b h => ⟨h, id⟩)))
  have HIN := Lib.hid hin
  clear hby hbs hin
  go_enter Try.func31, Try.ntmps31
  go_wp2_with (first | (refine oL ?_; (first | refine sL1 hS rfl rfl rfl ?_ | refine sL2 hS rfl rfl rfl ?_ | refine sL3 hS rfl rfl ?_ | refine sL4 hS rfl rfl ?_ | refine sL5 hS rfl rfl ?_ | refine sL6 hS rfl rfl ?_ | refine sL7 hS rfl rfl ?_)) | (refine oP ?_; ((first | refine sP1 hS rfl rfl rfl ?_ | refine sP2 hS rfl rfl rfl ?_ | refine sP3 hS rfl rfl rfl ?_); clear hS; first | ((fail_if_success guard_hyp L1); intro L1 cl1 w hL1 hM1 hS) | ((fail_if_success guard_hyp L2); intro L2 cl2 w hL2 hM2 hS) | fail)) | ((first | (refine oC ?_; first | refine sC0 hS rfl ?_ | refine sC1 hS rfl rfl ?_ | refine sC2 hS rfl rfl ?_ | refine sC3 hS rfl rfl rfl ?_ | refine sC4 hS rfl rfl rfl ?_)); clear hS; first | ((fail_if_success guard_hyp g1); intro g1 w hS) | ((fail_if_success guard_hyp g2); intro g2 w hS) | fail) | fail)
  refine (new_st (m := 160) hS (by omega) HB.out.2 hf hf' HB.out.1).mono ?_
  rintro e w ⟨g0, κ, rfl, hS1⟩
  replace hS := hS1
  clear hS1 HB
  generalize bs.take 160 = r at hS
  go_wp2_with (first | (refine oL ?_; (first | refine sL1 hS rfl rfl rfl ?_ | refine sL2 hS rfl rfl rfl ?_ | refine sL3 hS rfl rfl ?_ | refine sL4 hS rfl rfl ?_ | refine sL5 hS rfl rfl ?_ | refine sL6 hS rfl rfl ?_ | refine sL7 hS rfl rfl ?_)) | (refine oP ?_; ((first | refine sP1 hS rfl rfl rfl ?_ | refine sP2 hS rfl rfl rfl ?_ | refine sP3 hS rfl rfl rfl ?_); clear hS; first | ((fail_if_success guard_hyp L1); intro L1 cl1 w hL1 hM1 hS) | ((fail_if_success guard_hyp L2); intro L2 cl2 w hL2 hM2 hS) | fail)) | ((first | (refine oC ?_; first | refine sC0 hS rfl ?_ | refine sC1 hS rfl rfl ?_ | refine sC2 hS rfl rfl ?_ | refine sC3 hS rfl rfl rfl ?_ | refine sC4 hS rfl rfl rfl ?_)); clear hS; first | ((fail_if_success guard_hyp g1); intro g1 w hS) | ((fail_if_success guard_hyp g2); intro g2 w hS) | fail) | fail)
  refine (next_z 3 hS rfl (by omega) (by omega)).mono ?_
  rintro e w ⟨rfl, hS1⟩
  replace hS := hS1
  clear hS1
  have hk3 := nxt_lt r (n := 3) (by omega)
  generalize nxt r 3 = k at *
  generalize r.tail = r1 at *
  go_wp2_with (first | (refine oL ?_; (first | refine sL1 hS rfl rfl rfl ?_ | refine sL2 hS rfl rfl rfl ?_ | refine sL3 hS rfl rfl ?_ | refine sL4 hS rfl rfl ?_ | refine sL5 hS rfl rfl ?_ | refine sL6 hS rfl rfl ?_ | refine sL7 hS rfl rfl ?_)) | (refine oP ?_; ((first | refine sP1 hS rfl rfl rfl ?_ | refine sP2 hS rfl rfl rfl ?_ | refine sP3 hS rfl rfl rfl ?_); clear hS; first | ((fail_if_success guard_hyp L1); intro L1 cl1 w hL1 hM1 hS) | ((fail_if_success guard_hyp L2); intro L2 cl2 w hL2 hM2 hS) | fail)) | ((first | (refine oC ?_; first | refine sC0 hS rfl ?_ | refine sC1 hS rfl rfl ?_ | refine sC2 hS rfl rfl ?_ | refine sC3 hS rfl rfl rfl ?_ | refine sC4 hS rfl rfl rfl ?_)); clear hS; first | ((fail_if_success guard_hyp g1); intro g1 w hS) | ((fail_if_success guard_hyp g2); intro g2 w hS) | fail) | fail)
  go_loopw [8, 9] (fun s8 s9 wr => ∃ (i : Nat) (L : Option Addr) (cl : Nat) (ys : List Int), i ≤ k + 2 ∧ Hid (ys.length = i) ∧ Hid (∀ x ∈ ys, -9223372036854775808 ≤ x ∧ x ≤ 9223372036854775807) ∧ ys.length ≤ 4 ∧ s9 = .int .i64 i ∧ s8 = .slice L ys.length cl ∧ St w0 NoM [irow 3 L cl ys, cds g0 κ r1] wr) (fun _ s9 _ => k + 2 - (intOf s9).toNat)
  case atStart => exact ⟨0, none, 0, [], by omega, Lib.hid rfl, Lib.hid (by simp), by simp, rfl, rfl, hS.addNil _ _⟩
  case round =>
    obtain ⟨i, L, cl, ys, hi, HK, HY, hy4, rfl, rfl, hS⟩ := hrel
    by_cases hlt : i < k + 2
    · have hlt' : (i : Int) < 2 + (k : Int) := by omega
      have hend : ∀ z : Int, -9223372036854775808 ≤ z ∧ z ≤ 9223372036854775807 → (ys ++ [z]).length = i + 1 ∧ (ys ++ [z]).length ≤ 4 ∧ ∀ x ∈ ys ++ [z], -9223372036854775808 ≤ x ∧ x ≤ 9223372036854775807 := by
        intro z hz
        have := HK.out
        refine ⟨by simp; omega, by simp; omega, fun x hx => ?_⟩
        rcases List.mem_append.1 hx with h | h
        · exact HY.out x h
        · rw [List.mem_singleton.1 h]; exact hz
      have HEND := Lib.hid hend
      clear hend
      by_cases hv : i < vs.length
      · have hv' : (i : Int) < (vs.length : Int) := by omega
        obtain ⟨b1, o1, rfl, hb1, hc1⟩ := hvs.atS hv
        have HZ := Lib.hid (HIN.out _ (List.getElem_mem hv))
        generalize vs[i] = z at *
        go_wp2_with (first | (refine oL ?_; (first | refine sL1 hS rfl rfl rfl ?_ | refine sL2 hS rfl rfl rfl ?_ | refine sL3 hS rfl rfl ?_ | refine sL4 hS rfl rfl ?_ | refine sL5 hS rfl rfl ?_ | refine sL6 hS rfl rfl ?_ | refine sL7 hS rfl rfl ?_)) | (refine oP ?_; ((first | refine sP1 hS rfl rfl rfl ?_ | refine sP2 hS rfl rfl rfl ?_ | refine sP3 hS rfl rfl rfl ?_); clear hS; first | ((fail_if_success guard_hyp L1); intro L1 cl1 w hL1 hM1 hS) | ((fail_if_success guard_hyp L2); intro L2 cl2 w hL2 hM2 hS) | fail)) | ((first | (refine oC ?_; first | refine sC0 hS rfl ?_ | refine sC1 hS rfl rfl ?_ | refine sC2 hS rfl rfl ?_ | refine sC3 hS rfl rfl rfl ?_ | refine sC4 hS rfl rfl rfl ?_)); clear hS; first | ((fail_if_success guard_hyp g1); intro g1 w hS) | ((fail_if_success guard_hyp g2); intro g2 w hS) | fail) | fail)
        go_roundw
        case measure => simp [intOf]; omega
        exact ⟨i + 1, _, _, _, by omega, Lib.hid (HEND.out z HZ.out).1, Lib.hid (HEND.out z HZ.out).2.2, (HEND.out z HZ.out).2.1, by go_num, by first | rfl | simp, hS⟩
      · have hv' : ¬ (i : Int) < (vs.length : Int) := by omega
        go_wp2_with (first | (refine oL ?_; (first | refine sL1 hS rfl rfl rfl ?_ | refine sL2 hS rfl rfl rfl ?_ | refine sL3 hS rfl rfl ?_ | refine sL4 hS rfl rfl ?_ | refine sL5 hS rfl rfl ?_ | refine sL6 hS rfl rfl ?_ | refine sL7 hS rfl rfl ?_)) | (refine oP ?_; ((first | refine sP1 hS rfl rfl rfl ?_ | refine sP2 hS rfl rfl rfl ?_ | refine sP3 hS rfl rfl rfl ?_); clear hS; first | ((fail_if_success guard_hyp L1); intro L1 cl1 w hL1 hM1 hS) | ((fail_if_success guard_hyp L2); intro L2 cl2 w hL2 hM2 hS) | fail)) | ((first | (refine oC ?_; first | refine sC0 hS rfl ?_ | refine sC1 hS rfl rfl ?_ | refine sC2 hS rfl rfl ?_ | refine sC3 hS rfl rfl rfl ?_ | refine sC4 hS rfl rfl rfl ?_)); clear hS; first | ((fail_if_success guard_hyp g1); intro g1 w hS) | ((fail_if_success guard_hyp g2); intro g2 w hS) | fail) | fail)
        go_roundw
        case measure => simp [intOf]; omega
        exact ⟨i + 1, _, _, _, by omega, Lib.hid (HEND.out (10 * i) (by omega)).1, Lib.hid (HEND.out (10 * i) (by omega)).2.2, (HEND.out (10 * i) (by omega)).2.1, by go_num, by first | rfl | simp, hS⟩
    · have hlt' : ¬ (i : Int) < 2 + (k : Int) := by omega
      go_wp2_with (first | (refine oL ?_; (first | refine sL1 hS rfl rfl rfl ?_ | refine sL2 hS rfl rfl rfl ?_ | refine sL3 hS rfl rfl ?_ | refine sL4 hS rfl rfl ?_ | refine sL5 hS rfl rfl ?_ | refine sL6 hS rfl rfl ?_ | refine sL7 hS rfl rfl ?_)) | (refine oP ?_; ((first | refine sP1 hS rfl rfl rfl ?_ | refine sP2 hS rfl rfl rfl ?_ | refine sP3 hS rfl rfl rfl ?_); clear hS; first | ((fail_if_success guard_hyp L1); intro L1 cl1 w hL1 hM1 hS) | ((fail_if_success guard_hyp L2); intro L2 cl2 w hL2 hM2 hS) | fail)) | ((first | (refine oC ?_; first | refine sC0 hS rfl ?_ | refine sC1 hS rfl rfl ?_ | refine sC2 hS rfl rfl ?_ | refine sC3 hS rfl rfl rfl ?_ | refine sC4 hS rfl rfl rfl ?_)); clear hS; first | ((fail_if_success guard_hyp g1); intro g1 w hS) | ((fail_if_success guard_hyp g2); intro g2 w hS) | fail) | fail)
      refine (moves_z (n := k + 2) hS (by omega) (by omega) (by omega)).mono ?_
      rintro e w ⟨L2, c2, m, l, r2, rfl, hl, hm, hS1⟩
      replace hS := hS1
      clear hS1
      go_wp2_with (first | (refine oL ?_; (first | refine sL1 hS rfl rfl rfl ?_ | refine sL2 hS rfl rfl rfl ?_ | refine sL3 hS rfl rfl ?_ | refine sL4 hS rfl rfl ?_ | refine sL5 hS rfl rfl ?_ | refine sL6 hS rfl rfl ?_ | refine sL7 hS rfl rfl ?_)) | (refine oP ?_; ((first | refine sP1 hS rfl rfl rfl ?_ | refine sP2 hS rfl rfl rfl ?_ | refine sP3 hS rfl rfl rfl ?_); clear hS; first | ((fail_if_success guard_hyp L1); intro L1 cl1 w hL1 hM1 hS) | ((fail_if_success guard_hyp L2); intro L2 cl2 w hL2 hM2 hS) | fail)) | ((first | (refine oC ?_; first | refine sC0 hS rfl ?_ | refine sC1 hS rfl rfl ?_ | refine sC2 hS rfl rfl ?_ | refine sC3 hS rfl rfl rfl ?_ | refine sC4 hS rfl rfl rfl ?_)); clear hS; first | ((fail_if_success guard_hyp g1); intro g1 w hS) | ((fail_if_success guard_hyp g2); intro g2 w hS) | fail) | fail)
      go_ret2
      have hk := HK.out
      refine ⟨L, cl, ys.length, ys, L2, c2, m, l, rfl, rfl, by omega, by omega, HY.out, hl, hm, ?_, ?_, hS.toExt⟩
      · exact hS.rowNew (v := .slice L ys.length cl) (fun k hk _ => hk.elim)
      · exact hS.rowNew (v := .slice L2 m c2) (fun k hk _ => hk.elim)
theorem start_any (V : Option Addr) (g : Nat) (vs : List Int) (C : Option Addr) (f : Nat) (bs : List Int) (w0 : World) (hvs : RI (fun b => b < w0.heap.size) w0 V vs) (hg : vs.length ≤ g) (hg' : g ≤ 9223372036854775807) (hin : ∀ b ∈ vs, -9223372036854775808 ≤ b ∧ b ≤ 9223372036854775807) (hbs : RV (fun b => b < w0.heap.size) w0 C (bytes bs)) (hf : bs.length ≤ f) (hf' : f ≤ 9223372036854775807) (hby : ∀ b ∈ bs, 0 ≤ b ∧ b ≤ 255) :
    Calls Try.prog 31 #[.slice V vs.length g, .slice C bs.length f] w0 (StRet w0) := by
  refine (start_own V g vs C f bs w0 hvs hg hg' hin hbs hf hf' hby).mono ?_
  rintro e w ⟨L1, c1, n, xs, L2, c2, m, l, rfl, h1, h2, h3, h4, h5, h6, h7, h8, h9⟩
  exact ⟨L1, c1, n, xs, L2, c2, m, l, rfl, h1, h2, h3, h4, h5, h6, (RV.ofOwn h7).into (fun b hb hl => ⟨⟨hb, hl⟩, rfl⟩), (RV.ofOwn h8).into (fun b hb hl => ⟨⟨hb, hl⟩, rfl⟩), h9⟩
end Go.Proofs.Ytombhhhaidmpeaa
