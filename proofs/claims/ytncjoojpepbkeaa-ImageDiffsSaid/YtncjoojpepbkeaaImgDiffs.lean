/- ImageDiffs returns true for every input. No condition. -/
import Derived.Test.YtncjoojpepbkeaaImgAwake
import Derived.Test.YtncjoojpepbkeaaImgC
import Derived.Test.YtncjoojpepbkeaaChange
import Derived.Test.YtncjoojpepbkeaaLaw
namespace Go.Proofs.Ytncjoojpepbkeaa
open Go.RowKit
set_option linter.unusedVariables false

theorem costL_diffTo (a b : List Int) (k : Nat) : costL (diffTo a b k) ≤ 4 * k := by
  induction k with
  | zero => simp [diffTo, costL]
  | succ k ih =>
    have h := pg_length b k
    simp only [costL] at *
    simp only [diffTo, List.map_append, List.sum_append]
    split
    · simp; omega
    · simp; omega

set_option maxHeartbeats 3200000 in
theorem diffs_any (A B C : Option Addr) (c d f : Nat) (xs ys bs : List Int) (w : World) (ha : RI (fun b => b < w.heap.size) w A xs) (hb : RI (fun b => b < w.heap.size) w B ys) (hbs : RV (fun b => b < w.heap.size) w C (bytes bs))
    (hc : xs.length ≤ c) (hc' : c ≤ 9223372036854775807) (hd : ys.length ≤ d) (hd' : d ≤ 9223372036854775807) (hf : bs.length ≤ f) (hf' : f ≤ 9223372036854775807) (hby : ∀ b ∈ bs, 0 ≤ b ∧ b ≤ 255) :
    Calls Try.prog 4 #[.slice A xs.length c, .slice B ys.length d, .slice C bs.length f] w fun e w' => e = .returned (.bool true) ∧ Ext w w' := by
  by_cases h0 : 200 < xs.length
  · go_enter Try.func4, Try.ntmps4
    go_wp2_with (go_at_call 9; refine (awake_any _).mono ?_; rintro e w1 ⟨rfl, hx1⟩)
    go_ret
    exact ⟨rfl, hx1⟩
  by_cases h1 : 200 < ys.length
  · go_enter Try.func4, Try.ntmps4
    go_wp2_with (go_at_call 9; refine (awake_any _).mono ?_; rintro e w1 ⟨rfl, hx1⟩)
    go_ret
    exact ⟨rfl, hx1⟩
  have h0' : xs.length ≤ 200 := by omega
  have h1' : ys.length ≤ 200 := by omega
  clear h0 h1
  have HBY := Lib.hid hby
  clear hby
  go_enter Try.func4, Try.ntmps4
  go_wp2_with fail
  refine (awake_any _).mono ?_
  rintro e w1 ⟨rfl, hx1⟩
  have ha1 := RV.below ha hx1
  have hb1 := RV.below hb hx1
  have hbs1 := RV.below hbs hx1
  have hz1 := hx1.size
  clear ha hb hbs
  go_wp2_with fail
  refine (new_any _ _ 40 bs _ (by omega) hbs1 hf hf' HBY.out).mono ?_
  rintro e w2 ⟨rfl, hcd, hx2, hz2⟩
  have ha2 := RV.ext ha1 hx2
  have hb2 := RV.ext hb1 hx2
  have hx02 := hx1.trans' hx2
  clear ha1 hb1 hbs1 hx1 hx2
  go_wp2_with fail
  refine (change_any _ _ _ _ xs _ hcd ha2 (by omega)).mono ?_
  rintro e w3 ⟨L, cl, r', zs, rfl, hzl, hz, hcl, hcl', _, hk3⟩
  have hx03 : Ext w w3 := hx02.trans (hk3.below hx02.size (fun k hk => by omega))
  have ha3 : RI All w3 A xs := RV.into ha2 (fun k hs hk => ⟨trivial, hk3.block k hk (by omega)⟩)
  have hb3 : RI All w3 B ys := RV.into hb2 (fun k hs hk => ⟨trivial, hk3.block k hk (by omega)⟩)
  have hz3 : RI All w3 L zs := RV.sub hz (fun _ _ => trivial)
  have hzl' : zs.length ≤ 200 := by omega
  clear hzl hk3 hx02 ha2 hb2 hcd hz HBY hz1 hz2
  have hel : ∀ k, k < 2 → ∃ X cc zz, (w3.alloc (.cells #[.slice B ys.length d, .slice L zs.length cl] 22)).cell? ⟨w3.heap.size, k, none⟩ = some (.slice X zz.length cc) ∧ RI All w3 X zz ∧ zz.length ≤ 200 ∧ zz.length ≤ cc ∧ cc ≤ 9223372036854775807 := by
    intro k hk
    match k, hk with
    | 0, _ => exact ⟨B, d, ys, by simp, hb3, h1', hd, hd'⟩
    | 1, _ => exact ⟨L, cl, zs, by simp, hz3, hzl', hcl, hcl'⟩
  have HEL := Lib.hid hel
  have hxa := (Ext.refl' w3).alloc' (.cells #[.slice B ys.length d, .slice L zs.length cl] 22)
  clear hel hb3 hz3
  go_wp2
  go_loopw [29] (fun i wr => ∃ k : Nat, k ≤ 2 ∧ i = .int .i64 k ∧ Ext (w3.alloc (.cells #[.slice B ys.length d, .slice L zs.length cl] 22)) wr) (fun i _ => 2 - (intOf i).toNat)
  case atStart => exact ⟨0, by omega, rfl, Ext.refl' _⟩
  case round =>
    obtain ⟨k, hk, rfl, hext⟩ := hrel
    by_cases hlt : k < 2
    · obtain ⟨X, cc, zz, hcell, hzz, hz1, hz2, hz3⟩ := HEL.out k hlt
      have hcell' := hext.cell hcell
      have hx3r : Ext w3 wr := hxa.trans' hext
      have haR := RI.ext ha3 hx3r
      have hzR := RI.ext hzz hx3r
      have hci := costL_diffTo xs zz (cnt zz.length)
      have hdl := diffTo_le xs zz (cnt zz.length)
      have hcn : cnt zz.length ≤ 50 := by unfold cnt; omega
      clear hcell
      go_wp2_with fail
      refine (diff_any (S := All) _ _ _ _ xs zz _ (fun _ _ => trivial) haR hzR (by omega) (by omega) hc hc' hz2 hz3).mono ?_
      rintro e w4 ⟨⟨L1, c1, rfl, hp1, hc1, hc1'⟩, hx4⟩
      go_wp2_with fail
      refine (rdiff_any (S := All) _ _ _ _ xs zz _ (fun _ _ => trivial) (haR.ext hx4) (hzR.ext hx4) (by omega) (by omega) hc hc' hz2 hz3).mono ?_
      rintro e w5 ⟨⟨L2, c2, rfl, hp2, hc2, hc2'⟩, hx5⟩
      have hp1' := hp1.ext hx5
      go_wp2_with fail
      refine (same_any _ _ _ _ (diffL xs zz) (diffL xs zz) _ hp1' hp2 (by unfold diffL; omega) (by unfold diffL; omega)).mono ?_
      rintro e w6 ⟨rfl, nq, rfl⟩
      have hdt : decide (diffL xs zz = diffL xs zz) = true := by simp
      rw [hdt]
      clear hdt
      go_wp2_with fail
      refine (cost_any _ _ (diffL xs zz) _ (RP.ext hp1' ((Ext.refl' w5).drewN' nq)) (by unfold diffL; omega) (by unfold diffL; omega)).mono ?_
      rintro e w7 ⟨rfl, hx7⟩
      have hx57 : Ext w5 w7 := ((Ext.refl' w5).drewN' nq).trans' hx7
      go_wp2_with fail
      refine (rcost_any _ _ (diffL xs zz) _ (hp1'.ext hx57) (by unfold diffL; omega) (by unfold diffL; omega)).mono ?_
      rintro e w8 ⟨rfl, rfl⟩
      have hne : ((costL (diffL xs zz) : Int) != (costL (diffL xs zz) : Int)) = false := by simp
      go_wp2_with fail
      refine (count_any _ _ _ _ (by omega)).mono ?_
      rintro e w8 ⟨rfl, rfl⟩
      go_wp2_with fail
      refine (rcount_any _ _ _ _ (by omega)).mono ?_
      rintro e w8 ⟨rfl, rfl⟩
      have hne2 : ((cnt zz.length : Int) != (cnt zz.length : Int)) = false := by simp
      have hext7 := ((hext.trans' hx4).trans' hx5).trans' hx57
      clear hp1 hp1' hp2 hx57 hx7 hx4 hx5 hx3r haR hzR hci hdl
      go_wp2
      go_roundw
      case rel => exact ⟨k + 1, by omega, by go_num, hext7⟩
      case measure => simp [intOf]; omega
    · go_wp2
      go_ret
      exact ⟨rfl, (hx03.trans' hxa).trans' hext⟩

open Go.ChangeShapes Go.WideShapes Go.ChangeAt
set_option maxRecDepth 100000 in
theorem lifted_ImageDiffs (os : Os) (started : os.Started) (H : Type) (enc : TypeId × Value → H) :
    ReturnsInHanded {} Try.checked os 4 .any (Rows.imageDiffsSpec.pre6 enc Try.prog Try.f4 Rows.imageDiffsRow.domain false) (Rows.imageDiffsSpec.post enc Try.prog Try.f4 false true false false) := by
  refine law_lifted (C := Try.checked) (s := Rows.imageDiffsSpec) (tb := 4) (by kernel_rfl) started (by kernel_rfl) Try.func4
      (ChangeSpec.witness6 (enc := enc) (C := Try.checked) false ⟨#[], #[.slice none 0 0, .slice none 0 0, .slice none 0 0], []⟩ 8 (by kernel_rfl) (by kernel_rfl) (by kernel_rfl) (by kernel_rfl))
      (by kernel_rfl) rfl rfl Try.underlying4 (read_of (by kernel_rfl)) ?_ ?_
  · intro ds hl
    match ds, hl with
    | [d0, d1, d2], _ => exact ⟨rfl, rfl, rfl⟩
  · intro W base args ds p hval0 hA0
    have hval : ∀ (j : Nat) t v, Try.f4.params[j]? = some t → args[j]? = some v → Value.okWide Try.prog W .any base t v := hval0
    have hA : DataW.TrodAll enc Try.prog W 0 (fun _ => true) true Try.f4.params.toList args.toList ds p := hA0
    clear hA0 hval0
    rw [Try.params4] at hA hval
    obtain ⟨v0, v1, v2, d0, d1, d2, p0, p1, p2, rfl, rfl, rfl, h0, h1, h2⟩ := trodAll_three hA
    obtain ⟨A, c, xs, rfl, hri, hc, hc', hwf⟩ := open_nums Try.underlying22 Try.underlying3 (by kernel_rfl) (hval 0 _ v0 rfl rfl) h0
    obtain ⟨B, d, ys, rfl, hri1, hd, hd', hwf1⟩ := open_nums Try.underlying22 Try.underlying3 (by kernel_rfl) (hval 1 _ v1 rfl rfl) h1
    obtain ⟨C, f, bs, rfl, hri2, hf, hf', hwf2⟩ := open_nums Try.underlying30 Try.underlying5 (by kernel_rfl) (hval 2 _ v2 rfl rfl) h2
    exact diffs_any A B C c d f xs ys bs W hri hri1 hri2 hc hc' hd hd' hf hf' (fun b hb => u8_bd (hwf2 b hb))

/-- ImageDiffs returns true for every input, and leaves its arguments as they were. -/
theorem proved_ImageDiffs : Rows.ImageDiffsSaid :=
  OpenClaim.holds_of_wide 4 Try.f4 rfl rfl rfl rfl rfl rfl rfl ⟨rfl, rfl, rfl, rfl, rfl⟩ rfl rfl rfl rfl rfl (by kernel_rfl) Try.func4 (by kernel_rfl)
    (of_decide_eq_true (by kernel_rfl)) (by unfold Func.isWrapper; rw [if_neg (by decide +kernel)]; exact ⟨rfl, rfl⟩)
    (fun os started H enc _ => lifted_ImageDiffs os started H enc)
end Go.Proofs.Ytncjoojpepbkeaa
