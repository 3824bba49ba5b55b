/- The helpers of chapter 24's laws: in, lasts, needs, draw, the sanity check. Conditions: patterns are good and lie in memory. -/
import Derived.Test.YtmjmdncdmmcmaaaTwC
import Derived.Test.YtmjmdncdmmcmaaaSameI
import Derived.Test.YtmjmdncdmmcmaaaGe
import Derived.Test.YtmjmdncdmmcmaaaGg
namespace Go.Proofs.Ytmjmdncdmmcmaaa
open Go.RowKit
set_option linter.unusedVariables false
set_option linter.unusedSimpArgs false
set_option linter.unusedSectionVars false

set_option maxRecDepth 100000 in
set_option maxHeartbeats 1600000 in
theorem in24_any {S : Nat → Prop} (A : Option Addr) (c n : Nat) (xs : List Int) (k : Int) (w0 : World) (hx : RI S w0 A xs) (hn : xs.length = n) (hl : n ≤ 1000000) :
    Calls Try.prog 25 #[.slice A n c, .int .i64 k] w0 fun e w' => e = .returned (.bool (decide (k ∈ xs))) ∧ Ext w0 w' := by
  have hS := St.start w0 NoM
  subst hn
  go_enter Try.func25, Try.ntmps25
  go_wp2_with (fail)
  go_loopw [5] (fun s5 wr => ∃ (j : Nat), j ≤ xs.length ∧ s5 = .int .i64 j ∧ Hid (¬ k ∈ xs.take j) ∧ St w0 NoM [] wr) (fun s5 _ => xs.length - (intOf s5).toNat)
  case atStart => exact ⟨0, by omega, rfl, Lib.hid (by simp), hS⟩
  case round =>
    clear hS
    obtain ⟨j, hj, rfl, HK, hS⟩ := hrel
    by_cases hlt : j < xs.length
    · have hlt' : (j : Int) < xs.length := by omega
      obtain ⟨b, o, rfl, _, hc⟩ := hx.atNS hlt
      have HX := Lib.hid (nth_eq hlt)
      have HTK := Lib.hid (List.take_succ_eq_append_getElem hlt)
      by_cases he : nth xs j = k
      · have HF := Lib.hid (show decide (k ∈ xs) = true by rw [← he, HX.out]; simp)
        have he1 : (nth xs j == k) = true := by simp [he]
        clear he
        go_wp2_with (((refine oL ?_; ((refine sL4 hS rfl rfl ?_)))))
        go_ret
        rw [HF.out]
        exact ⟨rfl, hS.toExt⟩
      · have HF := Lib.hid (show ¬ k ∈ xs.take (j + 1) by
          rw [HTK.out, List.mem_append, ← HX.out]
          rintro (h | h)
          · exact HK.out h
          · simp only [List.mem_singleton] at h; exact he h.symm)
        have he1 : (nth xs j == k) = false := by simp [he]
        clear he
        go_wp2_with (((refine oL ?_; ((refine sL4 hS rfl rfl ?_)))))
        go_roundw
        case measure => simp [intOf]; try omega
        exact ⟨j + 1, by omega, by go_num, HF, hS⟩
    · have HF := Lib.hid (show decide (k ∈ xs) = false by have := HK.out; rw [List.take_of_length_le (by omega)] at this; simp [this])
      have hlt' : ¬ (j : Int) < xs.length := by omega
      go_wp2_with (fail)
      go_ret
      rw [HF.out]
      exact ⟨rfl, hS.toExt⟩
set_option maxRecDepth 100000 in
set_option maxHeartbeats 1600000 in
theorem draw24_any (C : Option Addr) (f : Nat) (bs : List Int) (w0 : World) (hbs : RV (fun b => b < w0.heap.size) w0 C (bytes bs)) (hf : bs.length ≤ f) (hf' : f ≤ 9223372036854775807) (hby : ∀ b ∈ bs, 0 ≤ b ∧ b ≤ 255) :
    Calls Try.prog 22 #[.slice C bs.length f] w0 fun e w' => ∃ v p, e = .returned (v.val p) ∧ Small p 40 ∧ PatAt (fun k => w0.heap.size ≤ k ∧ k < w'.heap.size) w' v p ∧ Ext w0 w' := by
  have hS := St.start w0 NoM
  have HB := Lib.hid (And.intro hby (RV.sub (S' := Froz w0 NoM) hbs (fun k hk => ⟨hk, id⟩)))
  clear hby hbs
  go_enter Try.func22, Try.ntmps22
  go_wp2_with (((((refine sN1 hS rfl ?_)); clear hS; (((fail_if_success guard_hyp g1); intro g1 w hS)))))
  refine (new_st (m := 120) hS (by omega) HB.out.2 hf hf' HB.out.1).mono ?_
  rintro e w ⟨gc, κ, rfl, hS⟩
  clear HB
  generalize bs.take 120 = r at *
  go_wp2_with (fail)
  refine (pattern_st (m := 40) hS rfl (by omega)).mono ?_
  rintro e w ⟨v, p, r1, T, rfl, hsm, hpa, hS⟩
  have HP := Lib.hid (And.intro hsm hpa)
  obtain ⟨A1, c1, A2, c2, A3, c3⟩ := v
  simp only [PV.val]
  clear hsm hpa
  generalize hu : w = u at *
  go_wp2_with (((refine oS ?_; (((refine sS4 hS rfl rfl rfl ?_)); clear hS; intro w hS))))
  refine st_retC hS rfl rfl rfl rfl ?_
  have hT : ∀ k, T k → w0.heap.size ≤ k ∧ k < w.heap.size := fun k hk => ⟨(hS.new (froz T u) (by simp) k hk).resolve_right id, (froz T u : Chunk w0 NoM).lt (hS.all _ (by simp)) hk⟩
  exact ⟨⟨A1, c1, A2, c2, A3, c3⟩, p, rfl, HP.out.1, HP.out.2.into (hS.frozInto.widen hT), hS.toExt⟩
set_option maxHeartbeats 800000 in
theorem mod24_any (x : Int) (n : Nat) (z : Int) (w0 : World) (hz : z = n) (hn : 1 ≤ n) (hn' : n ≤ 1000) :
    Calls Try.prog 12 #[.int .i64 x, .int .i64 z] w0 fun e w' => (∃ r : Nat, e = .returned (.int .i64 (r : Int)) ∧ r < n) ∧ Ext w0 w' := by
  subst hz
  have hS := St.start w0 NoM
  have h1 : Int.tmod x n < n := Int.tmod_lt_of_pos x (by omega)
  have h2 : -(n : Int) < Int.tmod x n := by
    have := Int.tmod_lt_of_pos (-x) (show (0 : Int) < n by omega)
    rw [Int.neg_tmod] at this; omega
  generalize hy : Int.tmod x n = y at *
  by_cases h0 : y < 0
  · go_enter Try.func12, Try.ntmps12
    go_wp2_with (fail)
    go_ret
    exact ⟨⟨(y + n).toNat, ret_int (by omega), by omega⟩, hS.toExt⟩
  · go_enter Try.func12, Try.ntmps12
    go_wp2_with (fail)
    go_ret
    exact ⟨⟨y.toNat, ret_int (by omega), by omega⟩, hS.toExt⟩
end Go.Proofs.Ytmjmdncdmmcmaaa
