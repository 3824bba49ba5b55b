/- ImageLocal returns true for every input. No condition. -/
import Derived.Test.YtncjoojpepbkeaaImgB
import Derived.Test.YtncjoojpepbkeaaLaw
namespace Go.Proofs.Ytncjoojpepbkeaa
open Go.RowKit
set_option linter.unusedVariables false

theorem diff_awake : diffL [1, 2, 3, 4, 5] [1, 2, 3, 4, 6] = [((1 : Int), [6])] := by decide
set_option maxHeartbeats 1600000 in
theorem awake_any (w : World) : Calls Try.prog 9 #[] w fun e w' => e = .returned (.bool true) ∧ Ext w w' := by
  have hx0 := ((Ext.refl' w).alloc' (Obj.cells #[.int .i64 1, .int .i64 2, .int .i64 3, .int .i64 4, .int .i64 5] 3)).alloc' (Obj.cells #[.int .i64 1, .int .i64 2, .int .i64 3, .int .i64 4, .int .i64 6] 3)
  have hx1 : RI All ((w.alloc (Obj.cells #[.int .i64 1, .int .i64 2, .int .i64 3, .int .i64 4, .int .i64 5] 3)).alloc (Obj.cells #[.int .i64 1, .int .i64 2, .int .i64 3, .int .i64 4, .int .i64 6] 3)) (some ⟨w.heap.size, 0, none⟩) [1, 2, 3, 4, 5] :=
    ((RV.new w (ints [1, 2, 3, 4, 5]) 3).sub (fun _ _ => trivial)).ext ((Ext.refl' _).alloc' _)
  have hx2 : RI All ((w.alloc (Obj.cells #[.int .i64 1, .int .i64 2, .int .i64 3, .int .i64 4, .int .i64 5] 3)).alloc (Obj.cells #[.int .i64 1, .int .i64 2, .int .i64 3, .int .i64 4, .int .i64 6] 3)) (some ⟨w.heap.size + 1, 0, none⟩) [1, 2, 3, 4, 6] :=
    RV.new' _ (ints [1, 2, 3, 4, 6]) _ _ (by simp) trivial
  go_enter Try.func9, Try.ntmps9
  go_wp2_with fail
  refine (diff_any (S := All) _ _ _ _ [1, 2, 3, 4, 5] [1, 2, 3, 4, 6] _ (fun _ _ => trivial) hx1 hx2 (by decide) (by decide) (by decide) (by decide) (by decide) (by decide)).mono ?_
  rw [diff_awake]
  rintro e w' ⟨⟨L, c, rfl, hp, h1, h2⟩, hext⟩
  obtain ⟨b, o, B, d, rfl, c0, c1, _, _, hri⟩ := hp.at_ (j := 0) (by decide)
  obtain ⟨b2, o2, rfl, c2⟩ := hri.at_ (k := 0) (by decide)
  have d0 : w'.cell? ⟨b, o, none⟩ = some (.int .i64 1) := c0
  have d1 : w'.cell? ⟨b, o + 1, none⟩ = some (.slice (some ⟨b2, o2, none⟩) 1 d) := by simpa using c1
  have d2 : w'.cell? ⟨b2, o2, none⟩ = some (.int .i64 6) := c2
  clear c0 c1 c2 hri hp
  go_wp2
  go_ret
  exact ⟨rfl, hx0.trans' hext⟩

theorem pg_set_other {a : List Int} {k n : Nat} {x : Int} (h : n ≠ k / 4) : pg (a.set k x) n = pg a n := by
  apply List.ext_getElem?
  intro i
  rw [pg_get, pg_get]
  split
  · rw [List.getElem?_set_ne (by omega)]
  · rfl
theorem pg_at {a : List Int} {k : Nat} : (pg a (k / 4))[k % 4]? = a[k]? := by
  rw [pg_get, if_pos (Nat.mod_lt _ (by omega)), show 4 * (k / 4) + k % 4 = k by omega]
theorem diffTo_set (a : List Int) (k : Nat) (x : Int) (hk : k < a.length) (m : Nat) :
    diffTo a (a.set k x) m = if k / 4 < m ∧ x ≠ a[k] then [(((k / 4 : Nat) : Int), pg (a.set k x) (k / 4))] else [] := by
  induction m with
  | zero => simp [diffTo]
  | succ m ih =>
    rw [diffTo, ih]
    by_cases hm : m = k / 4
    · subst hm
      by_cases hx : x = a[k]
      · have e : a.set k x = a := by rw [hx]; simp
        simp [dif, hx]
      · have hne : pg a (k / 4) ≠ pg (a.set k x) (k / 4) := by
          intro e
          have h1 := pg_at (a := a) (k := k)
          have h2 := pg_at (a := a.set k x) (k := k)
          rw [← e, h1] at h2
          simp [hk] at h2
          exact hx h2.symm
        simp [dif, hx, hne]
    · have h1 : dif a (a.set k x) m = false := by simp [dif, pg_set_other hm]
      rw [h1]
      by_cases h2 : k / 4 < m
      · simp [h2, Nat.lt_succ_of_lt h2]
      · have : ¬ k / 4 < m + 1 := by omega
        simp [h2, this]
theorem diffL_set (a : List Int) (k : Nat) (x : Int) (hk : k < a.length) :
    diffL a (a.set k x) = if x = a[k] then [] else [(((k / 4 : Nat) : Int), pg (a.set k x) (k / 4))] := by
  have hc : k / 4 < cnt (a.set k x).length := by rw [List.length_set]; unfold cnt; omega
  rw [diffL, diffTo_set a k x hk]
  by_cases hx : x = a[k]
  · simp [hx]
  · rw [if_pos ⟨hc, hx⟩, if_neg hx]

set_option maxHeartbeats 3200000 in
theorem local_any (A : Option Addr) (c : Nat) (xs : List Int) (n y : Int) (w : World) (ha : RI (fun b => b < w.heap.size) w A xs) (hc : xs.length ≤ c) (hc' : c ≤ 9223372036854775807) (hn1 : -9223372036854775808 ≤ n) (hn2 : n ≤ 9223372036854775807) :
    Calls Try.prog 3 #[.slice A xs.length c, .int .i64 n, .int .i64 y] w fun e w' => e = .returned (.bool true) ∧ Ext w w' := by
  by_cases h0 : xs.length = 0
  · have h1 : ((xs.length : Int) == 0) = true := by simp [h0]
    clear h0
    go_enter Try.func3, Try.ntmps3
    go_wp2_with (go_at_call 9; refine (awake_any _).mono ?_; rintro e w1 ⟨rfl, hx1⟩)
    go_ret
    exact ⟨rfl, hx1⟩
  · have h1 : ((xs.length : Int) == 0) = false := beq_eq_false_iff_ne.2 (by omega)
    have h1' : 0 < xs.length := by omega
    clear h0
    by_cases h2 : 200 < xs.length
    · go_enter Try.func3, Try.ntmps3
      go_wp2_with (go_at_call 9; refine (awake_any _).mono ?_; rintro e w1 ⟨rfl, hx1⟩)
      go_ret
      exact ⟨rfl, hx1⟩
    · have h2' : xs.length ≤ 200 := by omega
      clear h2
      have hbd := modI_bd n (n := xs.length) (by omega)
      obtain ⟨k, hk⟩ : ∃ k : Nat, modI n xs.length = k := ⟨_, (Int.toNat_of_nonneg hbd.1).symm⟩
      rw [hk] at hbd
      have hkl : k < xs.length := by omega
      clear hbd
      have HK := Lib.hid hk
      clear hk
      go_enter Try.func3, Try.ntmps3
      go_wp2_with fail
      refine (awake_any _).mono ?_
      rintro e w1 ⟨rfl, hx1⟩
      have ha1 := RV.below ha hx1
      have hz1 := hx1.size
      clear ha
      go_wp2_with fail
      refine (mod_any _ _ _ (by omega) (by omega) hn1 hn2).mono ?_
      rintro e w' ⟨rfl, rfl⟩
      rw [HK.out]
      go_wp2_with (at_builtin; refine wpList_app ety_int rfl _ _ rfl rfl (ownsRow_nil _ w1.heap.size _ _) rfl ?c1 ha1 ?c2 ?c4 ?c5 ?_)
      case c1 => simp
      case c2 => exact oneCell_ints xs
      case c4 => omega
      case c5 => exact Nat.le_refl _
      intro v' w2 hown happ
      have hx2 : Ext w1 w2 := (Ext.refl' w1).app (Ext.refl' w1) happ (by simp [Value.ownBlock])
      clear happ
      obtain ⟨g, cp, hv, hg, hcp, hcp'⟩ := own_some hown h1'
      rw [hv]
      rw [hv] at hown
      clear hv
      have hcell : w2.cell? ⟨g, k, none⟩ = some (.int .i64 xs[k]) := (hown.cellAt k (by omega)).trans (by simp [hkl])
      have hfz := hown.frozenAt k
      obtain ⟨hst, hgr⟩ := hown.stored k (.int .i64 y)
      have hst' : (w2.setCell ⟨g, k, none⟩ (.int .i64 y)).ownsRow w1.heap.size 3 1 (.slice (some ⟨g, 0, none⟩) xs.length cp) xs.length (ints (xs.set k y)) := by
        rw [ints, List.map_set]; exact hst
      have hx3 : Ext w1 (w2.setCell ⟨g, k, none⟩ (.int .i64 y)) := hx2.own hgr (by rintro k' h; injection h; omega)
      have hb3 : RI All (w2.setCell ⟨g, k, none⟩ (.int .i64 y)) (some ⟨g, 0, none⟩) (xs.set k y) := RV.ofOwn' hst' (fun _ _ => trivial)
      have ha3 : RI All (w2.setCell ⟨g, k, none⟩ (.int .i64 y)) A xs := (RV.sub ha1 (fun _ _ => trivial)).ext hx3
      clear hst hst' hgr hown hx2
      go_wp2_with fail
      have hd := diff_any (S := All) A (some ⟨g, 0, none⟩) c cp xs (xs.set k y) (w2.setCell ⟨g, k, none⟩ (.int .i64 y)) (fun _ _ => trivial) ha3 hb3 (by omega) (by simp; omega) hc hc' (by simp; omega) hcp'
      rw [List.length_set] at hd
      refine hd.mono ?_
      clear hd
      rintro e w3 ⟨⟨L, d, rfl, hp, h3, h4⟩, hx4⟩
      rw [diffL_set xs k y hkl] at hp h3 ⊢
      have ha4 := ha3.ext hx4
      obtain ⟨ba, oa, rfl, hca⟩ := ha4.at_ hkl
      have hext : Ext w w3 := (hx1.trans' hx3).trans' hx4
      have hkx : (k : Int) < xs.length := by omega
      clear hx1 hx3 hx4 ha3 hb3 ha4 ha1 hcell hfz
      by_cases hy : y = xs[k]
      · have hy1 : (y == xs[k]) = true := by simp [hy]
        rw [if_pos hy] at hp h3 ⊢
        clear hy hp
        go_wp2
        go_ret
        exact ⟨rfl, hext⟩
      · have hy1 : (y == xs[k]) = false := by simp [hy]
        rw [if_neg hy] at hp h3 ⊢
        clear hy
        obtain ⟨b, o, B, e, rfl, c0, c1, h5, h6, hri⟩ := hp.at_ (j := 0) (by simp)
        have hpl : k % 4 < (pg (xs.set k y) (k / 4)).length := by rw [pg_length, List.length_set]; omega
        obtain ⟨b2, o2, rfl, c2⟩ := hri.at_ (k := k % 4) (by simpa using hpl)
        have hget : (pg (xs.set k y) (k / 4))[k % 4] = y := by
          have h := pg_at (a := xs.set k y) (k := k)
          rw [List.getElem?_eq_getElem hpl, List.getElem?_set_self hkl] at h
          injection h
        have d0 : w3.cell? ⟨b, o, none⟩ = some (.int .i64 ((k / 4 : Nat) : Int)) := c0
        have d1 : w3.cell? ⟨b, o + 1, none⟩ = some (.slice (some ⟨b2, o2, none⟩) (pg (xs.set k y) (k / 4)).length e) := by simpa using c1
        have d2 : w3.cell? ⟨b2, o2 + k % 4, none⟩ = some (.int .i64 y) := by rw [← hget]; exact c2
        have hq : (((k / 4 : Nat) : Int) == (k : Int) / 4) = true := by simp
        have hle : (pg (xs.set k y) (k / 4)).length ≤ 4 := by rw [pg_length]; omega
        clear hp c0 c1 c2 hget hri
        have hyy : (y == y) = true := by simp
        generalize (pg (xs.set k y) (k / 4)).length = m at *
        go_wp2
        go_ret
        exact ⟨rfl, hext⟩

open Go.ChangeShapes Go.WideShapes Go.ChangeAt
set_option maxRecDepth 100000 in
theorem lifted_ImageLocal (os : Os) (started : os.Started) (H : Type) (enc : TypeId × Value → H) :
    ReturnsInHanded {} Try.checked os 3 .any (Rows.imageLocalSpec.pre6 enc Try.prog Try.f3 Rows.imageLocalRow.domain false) (Rows.imageLocalSpec.post enc Try.prog Try.f3 false true false false) := by
  refine law_lifted (C := Try.checked) (s := Rows.imageLocalSpec) (tb := 4) (by kernel_rfl) started (by kernel_rfl) Try.func3
      (ChangeSpec.witness6 (enc := enc) (C := Try.checked) false ⟨#[], #[.slice none 0 0, .int .i64 0, .int .i64 0], []⟩ 8 (by kernel_rfl) (by kernel_rfl) (by kernel_rfl) (by kernel_rfl))
      (by kernel_rfl) rfl rfl Try.underlying4 ?_ ?_ ?_
  · exact read_of (by kernel_rfl)
  · intro ds hl
    match ds, hl with
    | [d0, d1, d2], _ => exact ⟨rfl, rfl, rfl⟩
  · intro W base args ds p hval0 hA0
    have hval : ∀ (j : Nat) t v, Try.f3.params[j]? = some t → args[j]? = some v → Value.okWide Try.prog W .any base t v := hval0
    have hA : DataW.TrodAll enc Try.prog W 0 (fun _ => true) true Try.f3.params.toList args.toList ds p := hA0
    clear hA0 hval0
    rw [Try.params3] at hA hval
    obtain ⟨v0, v1, v2, d0, d1, d2, p0, p1, p2, rfl, rfl, rfl, h0, h1, h2⟩ := trodAll_three hA
    obtain ⟨A, c, xs, rfl, hri, hc, hc', hwf⟩ := open_nums Try.underlying22 Try.underlying3 (by kernel_rfl) (hval 0 _ v0 rfl rfl) h0
    obtain ⟨n, rfl, rfl, rfl, wn⟩ := open_int Try.underlying3 (hval 1 _ v1 rfl rfl) h1
    obtain ⟨y, rfl, rfl, rfl, wy⟩ := open_int Try.underlying3 (hval 2 _ v2 rfl rfl) h2
    exact local_any A c xs n y W hri hc hc' (i64_bd wn).1 (i64_bd wn).2

/-- ImageLocal returns true for every input, and leaves its arguments as they were. -/
theorem proved_ImageLocal : Rows.ImageLocalSaid :=
  OpenClaim.holds_of_wide 3 Try.f3 rfl rfl rfl rfl rfl rfl rfl ⟨rfl, rfl, rfl, rfl, rfl⟩ rfl rfl rfl rfl rfl (by kernel_rfl) Try.func3 (by kernel_rfl)
    (of_decide_eq_true (by kernel_rfl)) (by unfold Func.isWrapper; rw [if_neg (by decide +kernel)]; exact ⟨rfl, rfl⟩)
    (fun os started H enc _ => lifted_ImageLocal os started H enc)
end Go.Proofs.Ytncjoojpepbkeaa
