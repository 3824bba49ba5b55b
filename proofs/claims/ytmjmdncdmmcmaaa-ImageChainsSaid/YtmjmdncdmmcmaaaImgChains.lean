/- ImageChains returns true for every input. No condition. -/
import Derived.Test.YtmjmdncdmmcmaaaImgI
import Derived.Test.YtmjmdncdmmcmaaaImgAwake
import Derived.Test.YtmjmdncdmmcmaaaImgC
import Derived.Test.YtmjmdncdmmcmaaaImgD
import Derived.Test.YtmjmdncdmmcmaaaImgE
import Derived.Test.YtmjmdncdmmcmaaaChange
import Derived.Test.YtmjmdncdmmcmaaaLaw
namespace Go.Proofs.Ytmjmdncdmmcmaaa
open Go.RowKit
set_option linter.unusedVariables false
set_option linter.unusedSimpArgs false
set_option linter.unusedSectionVars false

theorem compL_len (l : List Pg) : (compL l).length ≤ l.length := by
  unfold compL
  rw [List.length_map, sortI_length]
  exact nums_length l
theorem RP.ofRet {S : Nat → Prop} {w w' : World} {L : Option Addr} {c n : Nat} {vs : List Value} {ps : List Pg} (ho : w'.ownsRow w.heap.size 27 2 (.slice L n c) n vs) (hr : Reps (repPage S w) 2 vs ps) (hx : Ext w w') (hS : ∀ k, w.heap.size ≤ k → S k) : RP S w' L ps :=
  ⟨vs, RV.ofOwn' ho hS, hr.mono (repPage.into (fun k hs hk => ⟨hs, hx.block k hk⟩))⟩
set_option maxRecDepth 100000 in
set_option maxHeartbeats 6400000 in
theorem imageChains_any (V : Option Addr) (g : Nat) (vs : List Int) (C : Option Addr) (f : Nat) (bs : List Int) (w0 : World) (hvs : RI (fun b => b < w0.heap.size) w0 V vs) (hg : vs.length ≤ g) (hg' : g ≤ 9223372036854775807) (hin : ∀ b ∈ vs, -9223372036854775808 ≤ b ∧ b ≤ 9223372036854775807) (hbs : RV (fun b => b < w0.heap.size) w0 C (bytes bs)) (hf : bs.length ≤ f) (hf' : f ≤ 9223372036854775807) (hby : ∀ b ∈ bs, 0 ≤ b ∧ b ≤ 255) :
    Calls Try.prog 4 #[.slice V vs.length g, .slice C bs.length f] w0 fun e w' => e = .returned (.bool true) ∧ Ext w0 w' := by
  by_cases h0 : 200 < vs.length
  · go_enter Try.func4, Try.ntmps4
    go_wp2_with (go_at_call 11; refine (awake_any _).mono ?_; rintro e w1 ⟨rfl, hx1⟩)
    go_ret
    exact ⟨rfl, hx1⟩
  have h0' : vs.length ≤ 200 := by omega
  clear h0
  have HBY := Lib.hid hby
  have HIN := Lib.hid hin
  clear hby hin
  go_enter Try.func4, Try.ntmps4
  go_wp2_with fail
  refine (awake_any _).mono ?_
  rintro e w1 ⟨rfl, hx1⟩
  have ha1 := RV.below hvs hx1
  have hbs1 := RV.below hbs hx1
  have hz1 := hx1.size
  clear hvs hbs
  go_wp2_with fail
  refine (new_any _ _ 60 bs _ (by omega) hbs1 hf hf' HBY.out).mono ?_
  rintro e w2 ⟨rfl, hcd, hx2, hz2⟩
  have ha2 := RV.ext ha1 hx2
  have hx02 := hx1.trans' hx2
  have hz02 := hx02.size
  clear ha1 hbs1 hx1 hx2
  generalize hgg : w1.heap.size = gc at *
  have hag : RI (fun k => k ≠ gc ∧ k < w2.heap.size) w2 V vs := RV.into ha2 (fun k hs hk => ⟨⟨by omega, hk⟩, rfl⟩)
  have hnil : RP (fun k => k ≠ gc) w2 none [] := RL.nil_ _ _ _ _ _
  go_wp2_with fail
  go_loopw [6, 7, 8, 9] (fun s6 s7 s8 s9 wr => ∃ (k c6 c7 : Nat) (L Lp : Option Addr) (last : List Int) (all : List Pg) (r : List Int), k ≤ 4 ∧ s8 = .int .i64 k ∧ s6 = .slice L last.length c6 ∧ s7 = .slice Lp all.length c7 ∧ last.length ≤ c6 ∧ c6 ≤ 9223372036854775807 ∧ all.length ≤ 50 * k ∧ Hid (last.length = vs.length ∧ appL vs all = .ok last ∧ Srt all) ∧ Hid (RI (fun b => b ≠ gc) wr L last ∧ RP (fun b => b ≠ gc) wr Lp all ∧ Codes wr gc r ∧ RI (fun k => k ≠ gc ∧ k < w2.heap.size) wr V vs) ∧ Keep (fun k => k ≠ gc) w2 wr) (fun _ _ s8 _ _ => 4 - (intOf s8).toNat)
  case atStart => exact ⟨0, g, 0, V, none, vs, [], _, by omega, rfl, rfl, rfl, hg, hg', by simp, Lib.hid ⟨rfl, rfl, List.Pairwise.nil⟩, Lib.hid ⟨hag.sub (fun _ h => h.1), hnil, hcd, hag⟩, Keep.refl _ _⟩
  case round =>
    clear ha2 hag hnil hcd
    obtain ⟨k, c6, c7, L, Lp, last, all, r, hk, rfl, rfl, rfl, hlc, hlc', hal, HA, HM, hkp⟩ := hrel
    have hll : last.length ≤ 200 := by have := HA.out.1; omega
    have hzr := hkp.size
    by_cases hlt : k < 4
    · have hlt' : (k : Int) < 4 := by omega
      go_wp2_with fail
      refine (change_any _ _ _ _ last _ HM.out.2.2.1 HM.out.1 (by omega)).mono ?_
      rintro e w3 ⟨L3, c3, r', next, rfl, hnl, hn3, hc3, hc3', hcd3, hk3⟩
      have HN := Lib.hid (chain_step HA.out.2.1 hnl)
      have hz3 := hk3.size
      have HM3 := Lib.hid (show RI (fun b => b ≠ gc) w3 L last ∧ RP (fun b => b ≠ gc) w3 Lp all ∧ Codes w3 gc r' ∧ RI (fun k => k ≠ gc ∧ k < w2.heap.size) w3 V vs ∧ RI (fun b => b ≠ gc) w3 L3 next from
        ⟨RV.into HM.out.1 (fun k hs hk => ⟨hs, hk3.block k hk hs⟩), RP.into HM.out.2.1 (fun k hs hk => ⟨hs, hk3.block k hk hs⟩), hcd3, RV.into HM.out.2.2.2 (fun k hs hk => ⟨hs, hk3.block k hk hs.1⟩), hn3.sub (fun k hk => by have := HM.out.2.2.1.lt; omega)⟩)
      have hgl3 := HM3.out.2.2.1.lt
      have hkp3 := hkp.trans hk3
      have hnl2 : next.length ≤ 200 := by omega
      clear hn3 hcd3 hk3 HM hkp
      have HNL := Lib.hid hnl
      clear hnl
      go_wp2_with fail
      refine (diff_any (S := fun b => b ≠ gc) _ _ _ _ last next _ (fun k hk => by omega) HM3.out.1 HM3.out.2.2.2.2 (by omega) (by omega) hlc hlc' hc3 hc3').mono ?_
      rintro e w4 ⟨⟨L4, c4, rfl, hp4, hc4, hc4'⟩, hx4⟩
      have hdl := diffTo_le last next (cnt next.length)
      have hcn : cnt next.length ≤ 50 := by unfold cnt; omega
      have hdl2 : (diffL last next).length ≤ 50 := by unfold diffL; omega
      have HP4 := Lib.hid hp4
      have HPA4 := Lib.hid (HM3.out.2.1.ext hx4)
      have hz4 := hx4.size
      clear hp4 hdl
      obtain ⟨us4, hua4, hur4⟩ := HPA4.out
      obtain ⟨vs4, hva4, hvr4⟩ := HP4.out
      have HU := Lib.hid (And.intro hua4 (And.intro hur4 (And.intro hva4 hvr4)))
      clear hua4 hur4 hva4 hvr4
      go_wp2_with fail
      refine (compose_any (PgR.page (fun b => b ≠ gc) w4) _ _ _ _ all (diffL last next) us4 vs4 _ HU.out.1 HU.out.2.1 HU.out.2.2.1 HU.out.2.2.2 (by omega) (by omega)).mono ?_
      rintro e w5 ⟨vs5, hr5, L5, c5, rfl, ho5, hx5⟩
      have HP5 := Lib.hid (RP.ofRet ho5 hr5 hx5 (fun k hk => by omega))
      have hx35 := hx4.trans' hx5
      have hcl5 := compL_len (all ++ diffL last next)
      rw [List.length_append] at hcl5
      have HSR := Lib.hid (compL_srt (all ++ diffL last next))
      generalize compL (all ++ diffL last next) = all2 at *
      clear ho5 hr5 hx4 hx5
      have hkp5 := hkp3.trans (Keep.ofExt hx35)
      go_wp2
      go_roundw
      case measure => simp [intOf]; try omega
      case rel => exact ⟨k + 1, c3, c5, L3, L5, next, all2, r', by omega, by go_num, rfl, rfl, hc3, hc3', by omega, Lib.hid ⟨by have := HNL.out; have := HA.out.1; omega, HN.out, HSR.out⟩, Lib.hid ⟨HM3.out.2.2.2.2.ext hx35, HP5.out, HM3.out.2.2.1.ext hx35, HM3.out.2.2.2.1.ext hx35⟩, hkp5⟩
    · have hlt' : ¬ (k : Int) < 4 := by omega
      clear hlt
      have hxr : Ext w0 wr := hx02.trans (hkp.below hx02.size (fun k hk => by omega))
      go_wp2_with fail
      refine (apply_any (S := All) _ _ _ _ vs all _ (fun _ _ => trivial) (HM.out.2.2.2.sub fun _ _ => trivial) (HM.out.2.1.into (Into.sub _ fun _ _ => trivial)) (by omega) (by omega)).mono ?_
      rw [HA.out.2.1]
      rintro e w5 ⟨⟨L5, c5, rfl, hp5⟩, hx5⟩
      have HF := Lib.hid (And.intro (HM.out.2.1.ext hx5) (And.intro (HM.out.1.ext hx5) (show RI All w5 L5 last from hp5)))
      have hx05 := hxr.trans' hx5
      clear hp5 hx5 hxr HM hkp
      simp only [resL, resE]
      go_wp2
      go_loopw [12] (fun i wr => ∃ (m n : Nat), 1 ≤ m ∧ m ≤ all.length + 1 ∧ i = .int .i64 m ∧ wr = w5.drewN n) (fun i _ => all.length + 1 - (intOf i).toNat)
      case atStart => exact ⟨1, 0, by omega, by omega, rfl, rfl⟩
      case round =>
        obtain ⟨m, n, hm1, hm2, rfl, rfl⟩ := hrel
        by_cases hml : m < all.length
        · have hml' : (m : Int) < all.length := by omega
          have hm0 : m - 1 < all.length := by omega
          obtain ⟨b1, o1, A1, d1, hLp, hn1, _⟩ := HF.out.1.at_ hml
          obtain ⟨b2, o2, A2, d2, hLp2, hn2, _⟩ := HF.out.1.at_ hm0
          subst hLp
          injection hLp2 with hLp2
          injection hLp2 with e1 e2
          subst e1 e2
          have hm1z : ((m : Int) - 1) = ((m - 1 : Nat) : Int) := by omega
          have hord : all[m - 1].1 < all[m].1 := List.pairwise_iff_getElem.1 HA.out.2.2 (m - 1) m hm0 hml (by omega)
          generalize all[m - 1].1 = k1 at *
          generalize all[m].1 = k2 at *
          have hd : decide (k2 ≤ k1) = false := decide_eq_false (by omega)
          go_wp2
          go_quiet (fail)
          go_wp2
          go_roundw
          case rel => exact ⟨m + 1, _, by omega, by omega, by go_num, rfl⟩
          case measure => simp [intOf]; try omega
        · have hml' : ¬ (m : Int) < all.length := by omega
          go_wp2_with fail
          refine (sameInts_any _ _ _ _ last last _ (HF.out.2.2.ext ((Ext.refl' w5).drewN' n)) (HF.out.2.1.ext ((Ext.refl' w5).drewN' n)) (by omega) (by omega)).mono ?_
          rintro e w6 ⟨rfl, nq, rfl⟩
          have hdt : decide (last = last) = true := by simp
          rw [hdt]
          clear hdt
          have hxf := hx05.drewN' (n + nq)
          go_wp2
          go_ret
          exact ⟨rfl, hxf⟩
open Go.ChangeShapes Go.WideShapes Go.ChangeAt
set_option maxRecDepth 100000 in
theorem lifted_ImageChains (os : Os) (started : os.Started) (H : Type) (enc : TypeId × Value → H) :
    ReturnsInHanded {} Try.checked os 4 .any (Rows.imageChainsSpec.pre6 enc Try.prog Try.f4 Rows.imageChainsRow.domain false) (Rows.imageChainsSpec.post enc Try.prog Try.f4 false true false false) := by
  refine law_lifted (C := Try.checked) (s := Rows.imageChainsSpec) (tb := 4) (by kernel_rfl) started (by kernel_rfl) Try.func4
      (ChangeSpec.witness6 (enc := enc) (C := Try.checked) false ⟨#[], #[.slice none 0 0, .slice none 0 0], []⟩ 8 (by kernel_rfl) (by kernel_rfl) (by kernel_rfl) (by kernel_rfl))
      (by kernel_rfl) rfl rfl Try.underlying4 (read_of (by kernel_rfl)) ?_ ?_
  · intro ds hl
    match ds, hl with
    | [d0, d1], _ => exact ⟨rfl, rfl, rfl⟩
  · intro W base args ds p hval0 hA0
    have hval : ∀ (j : Nat) t v, Try.f4.params[j]? = some t → args[j]? = some v → Value.okWide Try.prog W .any base t v := hval0
    have hA : DataW.TrodAll enc Try.prog W 0 (fun _ => true) true Try.f4.params.toList args.toList ds p := hA0
    clear hA0 hval0
    rw [Try.params4] at hA hval
    obtain ⟨v0, v1, d0, d1, p0, p1, rfl, rfl, rfl, h0, h1⟩ := trodAll_two hA
    obtain ⟨A0, c0, xs0, rfl, hri0, hc0, hd0, hwf0⟩ := open_nums Try.underlying25 Try.underlying3 (by kernel_rfl) (hval 0 _ v0 rfl rfl) h0
    obtain ⟨A1, c1, xs1, rfl, hri1, hc1, hd1, hwf1⟩ := open_nums Try.underlying31 Try.underlying5 (by kernel_rfl) (hval 1 _ v1 rfl rfl) h1
    exact imageChains_any A0 c0 xs0 A1 c1 xs1 W hri0 hc0 hd0 (fun b hb => i64_bd (hwf0 b hb)) hri1 hc1 hd1 (fun b hb => u8_bd (hwf1 b hb))
/-- ImageChains returns true for every input, and leaves its arguments as they were. -/
theorem proved_ImageChains : Rows.ImageChainsSaid :=
  OpenClaim.holds_of_wide 4 Try.f4 rfl rfl rfl rfl rfl rfl rfl ⟨rfl, rfl, rfl, rfl, rfl⟩ rfl rfl rfl rfl rfl (by kernel_rfl) Try.func4 (by kernel_rfl)
    (of_decide_eq_true (by kernel_rfl)) (by unfold Func.isWrapper; rw [if_neg (by decide +kernel)]; exact ⟨rfl, rfl⟩)
    (fun os started H enc _ => lifted_ImageChains os started H enc)
end Go.Proofs.Ytmjmdncdmmcmaaa
