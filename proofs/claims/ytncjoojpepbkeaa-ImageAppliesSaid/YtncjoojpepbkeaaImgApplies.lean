/- ImageApplies returns true for every input. No condition. -/
import Derived.Test.YtncjoojpepbkeaaImgAwake
import Derived.Test.YtncjoojpepbkeaaImgD
import Derived.Test.YtncjoojpepbkeaaLaw
import Derived.Deep.SlicePairs
namespace Go.Proofs.Ytncjoojpepbkeaa
open Go.RowKit
set_option linter.unusedVariables false

theorem repPage.one {S : Nat → Prop} {w : World} (cs : List Value) (p : Pg) (h : repPage S w cs p) : ∀ u ∈ cs, u.oneCell' = true := by
  obtain ⟨A, c, rfl, _⟩ := h
  simp [Value.oneCell']

set_option maxHeartbeats 3200000 in
theorem applies_any (A B : Option Addr) (c d : Nat) (xs : List Int) (ps : List Pg) (w : World) (ha : RI (fun b => b < w.heap.size) w A xs) (hb : RP (fun b => b < w.heap.size) w B ps)
    (hc : xs.length ≤ c) (hc' : c ≤ 9223372036854775807) (hd : ps.length ≤ d) (hd' : d ≤ 9223372036854775807) (hnum : ∀ p ∈ ps, -9223372036854775808 ≤ p.1 ∧ p.1 ≤ 9223372036854775807) :
    Calls Try.prog 5 #[.slice A xs.length c, .slice B ps.length d] w fun e w' => e = .returned (.bool true) ∧ Ext w w' := by
  by_cases h0 : 200 < xs.length
  · go_enter Try.func5, Try.ntmps5
    go_wp2_with (go_at_call 9; refine (awake_any _).mono ?_; rintro e w1 ⟨rfl, hx1⟩)
    go_ret
    exact ⟨rfl, hx1⟩
  by_cases h1 : 50 < ps.length
  · go_enter Try.func5, Try.ntmps5
    go_wp2_with (go_at_call 9; refine (awake_any _).mono ?_; rintro e w1 ⟨rfl, hx1⟩)
    go_ret
    exact ⟨rfl, hx1⟩
  have h0' : xs.length ≤ 200 := by omega
  have h1' : ps.length ≤ 50 := by omega
  clear h0 h1
  have HN := Lib.hid hnum
  clear hnum
  have hcnt : cnt xs.length * 4 < xs.length + 4 ∧ xs.length ≤ cnt xs.length * 4 := by unfold cnt; omega
  obtain ⟨hcn1, hcn2⟩ := hcnt
  go_enter Try.func5, Try.ntmps5
  go_wp2_with fail
  refine (awake_any _).mono ?_
  rintro e w1 ⟨rfl, hx1⟩
  have ha1 := RV.below ha hx1
  have hb1 : RP (fun b => b < w.heap.size) w1 B ps := RP.keep hb (.ofBelow hx1 fun _ h => h)
  have hz1 := hx1.size
  clear ha hb
  have hb1' := hb1
  obtain ⟨vs, hbv, hbr⟩ := hb1
  have hvl := hbr.length
  go_wp2_with (at_builtin; refine wpList_app ety_page rfl _ _ rfl rfl (ownsRow_nil _ w1.heap.size _ _) rfl ?c1 hbv ?c2 ?c4 ?c5 ?_)
  case c1 => exact hvl
  case c2 => exact hbr.all repPage.one
  case c4 => omega
  case c5 => exact Nat.le_refl _
  intro v w2 hown0 happ
  have hx2 : Ext w1 w2 := (Ext.refl' w1).app (Ext.refl' w1) happ (by simp [Value.ownBlock])
  have hown : w2.ownsRow w1.heap.size 28 2 v ps.length vs := by simpa using hown0
  have hb2 : RP (fun b => b < w1.heap.size) w2 B ps := RP.into ⟨vs, hbv, hbr⟩ (fun k hs hk => ⟨by omega, hx2.block k hk⟩)
  have hr2 : Reps (repPage (fun b => b < w1.heap.size) w2) 2 vs ps := hbr.mono (repPage.into (fun k hs hk => ⟨by omega, hx2.block k hk⟩))
  have hx02 := hx1.trans' hx2
  have hz2 := hx2.size
  clear hown0 happ hbv hbr hvl
  obtain ⟨L, cp, rfl, hcp, hcp'⟩ := own_form hown
  go_wp2
  go_loopw [27] (fun i wr => ∃ k : Nat, k ≤ ps.length ∧ i = .int .i64 k ∧ (∃ (qs : List Pg) (us : List Value), qs.length = ps.length ∧ Hid (∀ p ∈ qs, -9223372036854775808 ≤ p.1 ∧ p.1 ≤ 9223372036854775807) ∧ wr.ownsRow w1.heap.size 28 2 (.slice L ps.length cp) ps.length us ∧ Reps (repPage (fun b => b < w1.heap.size) wr) 2 us qs) ∧ Ext w1 wr) (fun i _ => ps.length - (intOf i).toNat)
  case atStart => exact ⟨0, Nat.zero_le _, rfl, ⟨ps, vs, rfl, Lib.hid HN.out, hown, hr2⟩, hx2⟩
  case round =>
    clear hown hr2
    obtain ⟨k, hk, rfl, ⟨qs, us, hql, HQ, hown, hreps⟩, hext⟩ := hrel
    by_cases hlt : k < ps.length
    · by_cases heven : k % 2 = 0 ∧ 0 < cnt xs.length
      · obtain ⟨he, hc0⟩ := heven
        have he1 : ((k : Int) % 2 == 0) = true := by simp; omega
        have hlt2 : k < qs.length := by omega
        obtain ⟨cs, hcl, ⟨A1, c1, hcs, hle1, hmx1, hr1⟩, hcc⟩ := hreps.at_ hlt2
        have hq1 := HQ.out qs[k] (by simp)
        obtain ⟨hq1, hq2⟩ := hq1
        obtain ⟨gb, cp', hv, hgb, hcp1, hcp2⟩ := own_some hown (by omega)
        injection hv with hL hn hcc'
        subst hL; subst hcc'
        clear hn
        have hcell : wr.cell? ⟨gb, k * 2, none⟩ = some (.int .i64 qs[k].1) := (hown.cellAt _ (by omega)).trans ((hcc 0 (by omega)).trans (by rw [hcs]; rfl))
        have hfz := hown.frozenAt (k * 2)
        obtain ⟨hst, hgr⟩ := hown.stored (k * 2) (.int .i64 (modI qs[k].1 (cnt xs.length)))
        have hx3 := hext.setCell' (p := ⟨gb, k * 2, none⟩) hgb (.int .i64 (modI qs[k].1 (cnt xs.length)))
        have hmb := modI_bd qs[k].1 (n := cnt xs.length) hc0
        have hreps3 : Reps (repPage (fun b => b < w1.heap.size) (wr.setCell ⟨gb, k * 2, none⟩ (.int .i64 (modI qs[k].1 (cnt xs.length))))) 2 (us.set (k * 2) (.int .i64 (modI qs[k].1 (cnt xs.length)))) (qs.set k (modI qs[k].1 (cnt xs.length), qs[k].2)) := by
          refine Reps.set (i := 0) (hreps.mono (repPage.into (fun b hb' hlt' => ⟨hb', Below.heap_setCell _ _ _ _ (by simp; omega)⟩))) (by omega) hlt2 ?_
          rintro cs ⟨A2, c2, rfl, h1, h2, h3⟩ _
          exact ⟨A2, c2, rfl, h1, h2, h3⟩
        have HQ3 : Hid (∀ p ∈ qs.set k (modI qs[k].1 (cnt xs.length), qs[k].2), -9223372036854775808 ≤ p.1 ∧ p.1 ≤ 9223372036854775807) := by
          intro p hp
          rcases List.mem_or_eq_of_mem_set hp with h | h
          · exact HQ.out p h
          · rw [h]; simp only; omega
        have hql3 : (qs.set k (modI qs[k].1 (cnt xs.length), qs[k].2)).length = ps.length := by simp [hql]
        have HL3 := Lib.hid hql3
        clear hql hql3 hcs hcc hcl hgr hown hreps HQ
        generalize qs.set k (modI qs[k].1 (cnt xs.length), qs[k].2) = qs' at *
        have hmod := fun W => stillOf (mod_any qs[k].1 (cnt xs.length) W hc0 (by omega) hq1 hq2)
        have hcou := fun W => stillOf (count_any A xs.length c W (by omega))
        have HM := Lib.hid hmod
        have HC := Lib.hid hcou
        clear hmod hcou
        generalize modI qs[k].1 (cnt xs.length) = y at *
        generalize qs[k].1 = z at *
        go_wp2_with fail
        refine (count_any _ _ _ _ (by omega)).mono ?_
        rintro e w' ⟨rfl, rfl⟩
        go_wp2_with fail
        refine wp_region_still_tail 12 (by kernel_rfl) (by kernel_rfl) ?_
        simp only [List.take_succ_cons, List.take_zero, List.drop_succ_cons, List.drop_zero]
        repeat still_step
        still_call (HC.out _)
        still_call (HM.out _)
        repeat still_step
        refine wpStill_nil ?_
        change wpList _ _ _ _ _ wr.drew
        have hcell2 : wr.drew.cell? ⟨gb, k * 2, none⟩ = some (.int .i64 z) := hcell
        have hfz2 : wr.drew.frozen? ⟨gb, k * 2, none⟩ = false := hfz
        clear hcell hfz
        go_wp2
        go_roundw
        case rel => exact ⟨k + 1, by omega, by go_num, ⟨qs', _, HL3.out, HQ3, hst, hreps3⟩, hx3.drewN' 1⟩
        case measure => simp [intOf]; omega
      · by_cases he : k % 2 = 0
        · have he1 : ((k : Int) % 2 == 0) = true := by simp; omega
          have hc0 : cnt xs.length ≤ 0 := by omega
          have HQL := Lib.hid hql
          clear heven he hql
          go_wp2_with fail
          refine (count_any _ _ _ _ (by omega)).mono ?_
          rintro e w' ⟨rfl, rfl⟩
          go_wp2
          go_roundw
          case rel => exact ⟨k + 1, by omega, by go_num, ⟨qs, us, HQL.out, HQ, hown, hreps⟩, hext⟩
          case measure => simp [intOf]; omega
        · have he1 : ((k : Int) % 2 == 0) = false := beq_eq_false_iff_ne.2 (by omega)
          have HQL := Lib.hid hql
          clear heven he hql
          go_wp2
          go_roundw
          case rel => exact ⟨k + 1, by omega, by go_num, ⟨qs, us, HQL.out, HQ, hown, hreps⟩, hext⟩
          case measure => simp [intOf]; omega
    · have hbA : RP All wr B ps := (hb1'.ext hext).into (Into.sub _ fun _ _ => trivial)
      have hqA : RP All wr L qs := ⟨us, RV.ofOwn' hown (fun _ _ => trivial), hreps.mono (repPage.into (Into.sub _ fun _ _ => trivial))⟩
      have haA : RI All wr A xs := RV.sub (RV.ext ha1 hext) (fun _ _ => trivial)
      have hel : ∀ k, k < 2 → ∃ X cc rs, (wr.alloc (.cells #[.slice B ps.length d, .slice L ps.length cp] 25)).cell? ⟨wr.heap.size, k, none⟩ = some (.slice X rs.length cc) ∧ RP All wr X rs ∧ rs.length ≤ 50 := by
        intro k hk
        match k, hk with
        | 0, _ => exact ⟨B, d, ps, by simp, hbA, h1'⟩
        | 1, _ => exact ⟨L, cp, qs, by simp [hql], hqA, by omega⟩
      have HEL := Lib.hid hel
      have hxw := hx1.trans' hext
      have hxa := (Ext.refl' wr).alloc' (.cells #[.slice B ps.length d, .slice L ps.length cp] 25)
      clear hel hbA hqA hql hown hreps HQ hb1' hb2 hx2 hx02
      go_wp2
      obtain ⟨wo, rfl⟩ : ∃ wo : World, wo = wr := ⟨_, rfl⟩
      go_loopw [55] (fun i wr => ∃ k : Nat, k ≤ 2 ∧ i = .int .i64 k ∧ Ext (wo.alloc (.cells #[.slice B ps.length d, .slice L ps.length cp] 25)) wr) (fun i _ => 2 - (intOf i).toNat)
      case atStart => exact ⟨0, by omega, rfl, Ext.refl' _⟩
      case round =>
        obtain ⟨j, hj, rfl, hext2⟩ := hrel
        by_cases hjl : j < 2
        · obtain ⟨X, cc, rs, hcell, hrs, hrl⟩ := HEL.out j hjl
          have hcell' := hext2.cell hcell
          have hx3r := hxa.trans' hext2
          have haR := haA.ext hx3r
          have hrR := hrs.ext hx3r
          clear hcell
          go_wp2_with fail
          refine (apply_any (S := All) _ _ _ _ xs rs _ (fun _ _ => trivial) haR hrR (by omega) (by omega)).mono ?_
          rintro e w4 ⟨⟨L1, c1, rfl, hp1⟩, hx4⟩
          go_wp2_with fail
          refine (rapply_any (S := All) _ _ _ _ xs rs _ (fun _ _ => trivial) (haR.ext hx4) (hrR.ext hx4) (by omega) (by omega) hc hc').mono ?_
          rintro e w5 ⟨⟨L2, c2, rfl, hp2⟩, hx5⟩
          have hne : (resE (appL xs rs) != resE (appL xs rs)) = false := by simp
          have hlen : (resL (appL xs rs)).length ≤ 1000000 := appL_length xs rs (by omega)
          go_wp2_with fail
          refine (sameInts_any _ _ _ _ (resL (appL xs rs)) (resL (appL xs rs)) _ (hp1.ext hx5) hp2 (by omega) (by omega)).mono ?_
          rintro e w6 ⟨rfl, nq, rfl⟩
          have hdt : decide (resL (appL xs rs) = resL (appL xs rs)) = true := by simp
          rw [hdt]
          clear hdt
          have hext7 := ((hext2.trans' hx4).trans' hx5).drewN' nq
          clear hp1 hp2 hx4 hx5 hx3r haR hrR
          go_wp2
          go_roundw
          case rel => exact ⟨j + 1, by omega, by go_num, hext7⟩
          case measure => simp [intOf]; omega
        · go_wp2
          go_ret
          exact ⟨rfl, (hxw.trans' hxa).trans' hext2⟩

/-- an argument that is a slice of pages -/
theorem open_pages {H : Type} {enc : TypeId × Value → H} {W : World} {v : Value} {d : DataW H} {p : List MemPlace} {r : Reach} {b0 : Nat} (hok : Value.okWide Try.prog W r b0 25 v) (h : DataW.Trod enc Try.prog W 0 (fun _ => true) true 25 v d p) :
    ∃ A c, ∃ ps : List Pg, v = .slice A ps.length c ∧ RP (fun b => b < W.heap.size) W A ps ∧ ps.length ≤ c ∧ c ≤ 9223372036854775807 ∧ ∀ p ∈ ps, -9223372036854775808 ≤ p.1 ∧ p.1 ≤ 9223372036854775807 := by
  have hv : v.cells = #[v] := by obtain ⟨a, l, c, rfl⟩ := Go.WideShapes.okWide_slice Try.underlying25 hok; rfl
  obtain ⟨fuel, hf⟩ := h
  rcases Go.Deep.open_slice_pairs Try.underlying25 Try.underlying28 (by kernel_rfl) rfl rfl (by kernel_rfl) (by kernel_rfl) hf with ⟨h1, _⟩ | ⟨a, len, cap, m, n, V0, V1, D0, D1, P0, P1, h1, _, h3, h4, h5, _, h7⟩
  · rw [hv] at h1
    injection h1 with h1
    exact ⟨none, 0, [], h1, RL.nil_ _ _ _ _ _, by simp, by omega, by simp⟩
  · rw [hv] at h1
    injection h1 with h1
    rw [if_pos rfl] at h5
    have each : ∀ i, i < len → ∃ p : Pg, (-9223372036854775808 ≤ p.1 ∧ p.1 ≤ 9223372036854775807) ∧ ∃ A c, W.cell? (a.add (i * 2)) = some (.int .i64 p.1) ∧ W.cell? (a.add (i * 2 + 1)) = some (.slice A p.2.length c) ∧ p.2.length ≤ c ∧ c ≤ 9223372036854775807 ∧ RI (fun b => b < W.heap.size) W A p.2 := by
      intro i hi
      obtain ⟨c0, c1, t0, t1⟩ := h7 i (by omega)
      obtain ⟨y, hy, _, wy⟩ := DataW.trod_int Try.underlying3 t0
      obtain ⟨A, c, xs, hx, hr, hl1, hl2, _⟩ := open_nums_cs Try.underlying22 Try.underlying3 (by kernel_rfl) t1
      injection hy with hy
      exact ⟨(y, xs), i64_bd wy, A, c, by rw [c0, hy], by rw [c1, hx], hl1, hl2, hr⟩
    obtain ⟨ps, hl, hps⟩ := choose_list len each
    refine ⟨some a, cap, ps, by rw [hl]; exact h1, ?_, by omega, by unfold maxLen at h4; omega, fun p hp => ?_⟩
    · by_cases h0 : ps.length = 0
      · obtain rfl : ps = [] := List.eq_nil_of_length_eq_zero h0
        exact RL.nil_ _ _ _ _ _
      · obtain ⟨_, _, _, hc0, _⟩ := hps 0 (by omega)
        have hsp := spot_of_cell hc0
        obtain ⟨b, o, sp⟩ := a
        have hsn : sp = none := by
          have := congrArg Addr.spot hsp
          simpa [Addr.add] using this
        subst hsn
        have hb : b < W.heap.size := by have := lt_of_cell hc0; rwa [block_add] at this
        obtain ⟨vs, hv1, hv2⟩ := reps_mk (rep := repPage (fun b => b < W.heap.size) W) (sz := 2) (w := W) (b := b) ps o (fun j hj => by
          obtain ⟨_, A, c, h0, h1, h2, h3, h4⟩ := hps j hj
          refine ⟨[.int .i64 ps[j].1, .slice A ps[j].2.length c], rfl, ⟨A, c, rfl, h2, h3, h4⟩, fun i u hu => ?_⟩
          rw [add_mk] at h0 h1
          match i, hu with
          | 0, hu => injection hu with hu; rw [← hu]; exact h0
          | 1, hu => injection hu with hu; rw [← hu]; exact h1
          | i + 2, hu => simp at hu)
        exact ⟨vs, fun j u hu => ⟨b, o, rfl, hb, hv1 j u hu⟩, hv2⟩
    · obtain ⟨i, hi, rfl⟩ := List.getElem_of_mem hp
      exact (hps i hi).1

open Go.ChangeShapes Go.WideShapes Go.ChangeAt
set_option maxRecDepth 100000 in
theorem lifted_ImageApplies (os : Os) (started : os.Started) (H : Type) (enc : TypeId × Value → H) :
    ReturnsInHanded {} Try.checked os 5 .any (Rows.imageAppliesSpec.pre6 enc Try.prog Try.f5 Rows.imageAppliesRow.domain false) (Rows.imageAppliesSpec.post enc Try.prog Try.f5 false true false false) := by
  refine law_lifted (C := Try.checked) (s := Rows.imageAppliesSpec) (tb := 4) (by kernel_rfl) started (by kernel_rfl) Try.func5
      (ChangeSpec.witness6 (enc := enc) (C := Try.checked) false ⟨#[], #[.slice none 0 0, .slice none 0 0], []⟩ 8 (by kernel_rfl) (by kernel_rfl) (by kernel_rfl) (by kernel_rfl))
      (by kernel_rfl) rfl rfl Try.underlying4 (read_of (by kernel_rfl)) ?_ ?_
  · intro ds hl
    match ds, hl with
    | [d0, d1], _ => exact ⟨rfl, rfl, rfl⟩
  · intro W base args ds p hval0 hA0
    have hval : ∀ (j : Nat) t v, Try.f5.params[j]? = some t → args[j]? = some v → Value.okWide Try.prog W .any base t v := hval0
    have hA : DataW.TrodAll enc Try.prog W 0 (fun _ => true) true Try.f5.params.toList args.toList ds p := hA0
    clear hA0 hval0
    rw [Try.params5] at hA hval
    obtain ⟨v0, v1, d0, d1, p0, p1, rfl, rfl, rfl, h0, h1⟩ := trodAll_two hA
    obtain ⟨A, c, xs, rfl, hri, hc, hc', hwf⟩ := open_nums Try.underlying22 Try.underlying3 (by kernel_rfl) (hval 0 _ v0 rfl rfl) h0
    obtain ⟨B, d, ps, rfl, hrp, hd, hd', hn⟩ := open_pages (hval 1 _ v1 rfl rfl) h1
    exact applies_any A B c d xs ps W hri hrp hc hc' hd hd' hn

/-- ImageApplies returns true for every input, and leaves its arguments as they were. -/
theorem proved_ImageApplies : Rows.ImageAppliesSaid :=
  OpenClaim.holds_of_wide 5 Try.f5 rfl rfl rfl rfl rfl rfl rfl ⟨rfl, rfl, rfl, rfl, rfl⟩ rfl rfl rfl rfl rfl (by kernel_rfl) Try.func5 (by kernel_rfl)
    (of_decide_eq_true (by kernel_rfl)) (by unfold Func.isWrapper; rw [if_neg (by decide +kernel)]; exact ⟨rfl, rfl⟩)
    (fun os started H enc _ => lifted_ImageApplies os started H enc)
end Go.Proofs.Ytncjoojpepbkeaa
