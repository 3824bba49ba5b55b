/- ImageBack returns true for every input. No condition. -/
import Derived.Test.YtncjoojpepbkeaaImgAwake
import Derived.Test.YtncjoojpepbkeaaImgC
import Derived.Test.YtncjoojpepbkeaaImgD
import Derived.Test.YtncjoojpepbkeaaImgE
import Derived.Test.YtncjoojpepbkeaaChange
import Derived.Test.YtncjoojpepbkeaaLaw
namespace Go.Proofs.Ytncjoojpepbkeaa
open Go.RowKit
set_option linter.unusedVariables false

set_option maxHeartbeats 3200000 in
theorem back_any (A C : Option Addr) (c f : Nat) (xs bs : List Int) (w : World) (ha : RI (fun b => b < w.heap.size) w A xs) (hbs : RV (fun b => b < w.heap.size) w C (bytes bs))
    (hc : xs.length ≤ c) (hc' : c ≤ 9223372036854775807) (hf : bs.length ≤ f) (hf' : f ≤ 9223372036854775807) (hby : ∀ b ∈ bs, 0 ≤ b ∧ b ≤ 255) :
    Calls Try.prog 6 #[.slice A xs.length c, .slice C bs.length f] w fun e w' => e = .returned (.bool true) ∧ Ext w w' := by
  by_cases h0 : 200 < xs.length
  · go_enter Try.func6, Try.ntmps6
    go_wp2_with (go_at_call 9; refine (awake_any _).mono ?_; rintro e w1 ⟨rfl, hx1⟩)
    go_ret
    exact ⟨rfl, hx1⟩
  have h0' : xs.length ≤ 200 := by omega
  clear h0
  have HBY := Lib.hid hby
  clear hby
  go_enter Try.func6, Try.ntmps6
  go_wp2_with fail
  refine (awake_any _).mono ?_
  rintro e w1 ⟨rfl, hx1⟩
  have ha1 := RV.below ha hx1
  have hbs1 := RV.below hbs hx1
  have hz1 := hx1.size
  clear ha hbs
  go_wp2_with fail
  refine (new_any _ _ 40 bs _ (by omega) hbs1 hf hf' HBY.out).mono ?_
  rintro e w2 ⟨rfl, hcd, hx2, hz2⟩
  have ha2 := RV.ext ha1 hx2
  have hx02 := hx1.trans' hx2
  clear ha1 hbs1 hx1 hx2
  go_wp2_with fail
  refine (change_any _ _ _ _ xs _ hcd ha2 (by omega)).mono ?_
  rintro e w3 ⟨L, cl, r', zs, rfl, hzl, hz, hcl, hcl', _, hk3⟩
  have hx03 : Ext w w3 := hx02.trans (hk3.below hx02.size (fun k hk => by omega))
  have ha3 : RI All w3 A xs := RV.into ha2 (fun k hs hk => ⟨trivial, hk3.block k hk (by omega)⟩)
  have hz3 : RI All w3 L zs := RV.sub hz (fun _ _ => trivial)
  have hzl' : zs.length ≤ 200 := by omega
  have hback := appL_diffL xs zs hzl
  have hcost := costL_diffL xs zs
  have hself := diffL_self zs
  have hdl := diffTo_le xs zs (cnt zs.length)
  have hcn : cnt zs.length ≤ 50 := by unfold cnt; omega
  have hdl2 : (diffL xs zs).length ≤ 50 := by unfold diffL; omega
  have HB := Lib.hid hback
  have HC := Lib.hid hcost
  have HS := Lib.hid hself
  clear hzl hk3 hx02 ha2 hcd hz HBY hz1 hz2 hback hcost hself hdl
  go_wp2_with fail
  refine (diff_any (S := All) _ _ _ _ xs zs _ (fun _ _ => trivial) ha3 hz3 (by omega) (by omega) hc hc' hcl hcl').mono ?_
  rintro e w4 ⟨⟨L1, c1, rfl, hp1, hc1, hc1'⟩, hx4⟩
  go_wp2_with fail
  refine (apply_any (S := All) _ _ _ _ xs (diffL xs zs) _ (fun _ _ => trivial) (ha3.ext hx4) hp1 (by omega) (by omega)).mono ?_
  rw [HB.out]
  rintro e w5 ⟨⟨L2, c2, rfl, hp2⟩, hx5⟩
  have hz5 := (hz3.ext hx4).ext hx5
  go_wp2_with fail
  refine (sameInts_any _ _ _ _ zs zs _ hz5 hp2 (by omega) (by omega)).mono ?_
  rintro e w6 ⟨rfl, nq, rfl⟩
  have hdt : decide (zs = zs) = true := by simp
  rw [hdt]
  clear hdt
  have hx56 := (Ext.refl' w5).drewN' nq
  go_wp2_with fail
  refine (cost_any _ _ (diffL xs zs) _ ((hp1.ext hx5).ext hx56) (by omega) (by have := HC.out; omega)).mono ?_
  rintro e w7 ⟨rfl, hx7⟩
  have hle : costL (diffL xs zs) ≤ zs.length := HC.out
  have hx57 := hx56.trans' hx7
  have hz7 := hz5.ext hx57
  go_wp2_with fail
  refine (diff_any (S := All) _ _ _ _ zs zs _ (fun _ _ => trivial) hz7 hz7 (by omega) (by omega) hcl hcl' hcl hcl').mono ?_
  rw [HS.out]
  rintro e w8 ⟨⟨L3, c3, rfl, hp3, hc3, hc3'⟩, hx8⟩
  have hx := (((hx03.trans' hx4).trans' hx5).trans' hx57).trans' hx8
  clear hp1 hp2 hp3 hz5 hz7 hx4 hx5 hx56 hx57 hx7 hx8 ha3 hz3
  go_wp2
  go_ret
  exact ⟨rfl, hx⟩

open Go.ChangeShapes Go.WideShapes Go.ChangeAt
set_option maxRecDepth 100000 in
theorem lifted_ImageBack (os : Os) (started : os.Started) (H : Type) (enc : TypeId × Value → H) :
    ReturnsInHanded {} Try.checked os 6 .any (Rows.imageBackSpec.pre6 enc Try.prog Try.f6 Rows.imageBackRow.domain false) (Rows.imageBackSpec.post enc Try.prog Try.f6 false true false false) := by
  refine law_lifted (C := Try.checked) (s := Rows.imageBackSpec) (tb := 4) (by kernel_rfl) started (by kernel_rfl) Try.func6
      (ChangeSpec.witness6 (enc := enc) (C := Try.checked) false ⟨#[], #[.slice none 0 0, .slice none 0 0], []⟩ 8 (by kernel_rfl) (by kernel_rfl) (by kernel_rfl) (by kernel_rfl))
      (by kernel_rfl) rfl rfl Try.underlying4 (read_of (by kernel_rfl)) ?_ ?_
  · intro ds hl
    match ds, hl with
    | [d0, d1], _ => exact ⟨rfl, rfl, rfl⟩
  · intro W base args ds p hval0 hA0
    have hval : ∀ (j : Nat) t v, Try.f6.params[j]? = some t → args[j]? = some v → Value.okWide Try.prog W .any base t v := hval0
    have hA : DataW.TrodAll enc Try.prog W 0 (fun _ => true) true Try.f6.params.toList args.toList ds p := hA0
    clear hA0 hval0
    rw [Try.params6] at hA hval
    obtain ⟨v0, v1, d0, d1, p0, p1, rfl, rfl, rfl, h0, h1⟩ := trodAll_two hA
    obtain ⟨A, c, xs, rfl, hri, hc, hc', hwf⟩ := open_nums Try.underlying22 Try.underlying3 (by kernel_rfl) (hval 0 _ v0 rfl rfl) h0
    obtain ⟨C, f, bs, rfl, hri2, hf, hf', hwf2⟩ := open_nums Try.underlying30 Try.underlying5 (by kernel_rfl) (hval 1 _ v1 rfl rfl) h1
    exact back_any A C c f xs bs W hri hri2 hc hc' hf hf' (fun b hb => u8_bd (hwf2 b hb))

/-- ImageBack returns true for every input, and leaves its arguments as they were. -/
theorem proved_ImageBack : Rows.ImageBackSaid :=
  OpenClaim.holds_of_wide 6 Try.f6 rfl rfl rfl rfl rfl rfl rfl ⟨rfl, rfl, rfl, rfl, rfl⟩ rfl rfl rfl rfl rfl (by kernel_rfl) Try.func6 (by kernel_rfl)
    (of_decide_eq_true (by kernel_rfl)) (by unfold Func.isWrapper; rw [if_neg (by decide +kernel)]; exact ⟨rfl, rfl⟩)
    (fun os started H enc _ => lifted_ImageBack os started H enc)
end Go.Proofs.Ytncjoojpepbkeaa
