/- What the reference's Diff and Same, and both Costs, return. Conditions: lengths up to a million. -/
import Derived.Test.YtncjoojpepbkeaaImgB
namespace Go.Proofs.Ytncjoojpepbkeaa
open Go.RowKit
set_option linter.unusedVariables false

set_option maxHeartbeats 1600000 in
theorem same_any {S T : Nat → Prop} (A B : Option Addr) (c d : Nat) (ps qs : List Pg) (w : World) (ha : RP S w A ps) (hb : RP T w B qs) (hx : ps.length ≤ 1000000) (hy : qs.length ≤ 1000000) :
    Calls Try.prog 14 #[.slice A ps.length c, .slice B qs.length d] w fun e w' => e = .returned (.bool (decide (ps = qs))) ∧ ∃ n, w' = w.drewN n := by
  by_cases hl : ps.length = qs.length
  · have hl1 : ((ps.length : Int) != (qs.length : Int)) = false := by simp [hl]
    have hl2 : ps.length ≤ qs.length := by omega
    have HL := Lib.hid hl
    clear hl
    go_enter Try.func14, Try.ntmps14
    go_wp2
    clear hl1
    go_loopw [5] (fun i wr => ∃ k n : Nat, k ≤ ps.length ∧ i = .int .i64 k ∧ Hid (ps.take k = qs.take k) ∧ wr = w.drewN n) (fun i _ => ps.length - (intOf i).toNat)
    case atStart => exact ⟨0, 0, Nat.zero_le _, rfl, Lib.hid rfl, rfl⟩
    case round =>
      obtain ⟨k, n, hk, rfl, HK, rfl⟩ := hrel
      by_cases hlt : k < ps.length
      · have hlt2 : k < qs.length := by omega
        obtain ⟨b1, o1, A1, c1, rfl, hn1, hs1, hle1, hmx1, hr1⟩ := ha.at_ hlt
        obtain ⟨b2, o2, A2, c2, rfl, hn2, hs2, hle2, hmx2, hr2⟩ := hb.at_ hlt2
        have hlt' : (k : Int) < qs.length := by omega
        by_cases he : ps[k].1 = qs[k].1
        · have he1 : (ps[k].1 != qs[k].1) = false := by simp [he]
          have HE := Lib.hid he
          clear he
          by_cases hf : ps[k].2 = qs[k].2
          · have hpq : ps[k] = qs[k] := Prod.ext HE.out hf
            have HP := Lib.hid hpq
            have hd : decide (ps[k].2 = qs[k].2) = true := by simp [hf]
            have hc := fun m => sameInts_any A1 A2 c1 c2 ps[k].2 qs[k].2 (w.drewN m) hr1 hr2 (by omega) (by omega)
            rw [hd] at hc
            have HC := Lib.hid hc
            clear hc hd hpq hf
            generalize hpk : ps[k].1 = p1 at *
            generalize hqk : qs[k].1 = q1 at *
            generalize hpl : ps[k].2 = p2 at *
            generalize hql : qs[k].2 = q2 at *
            clear hpk hqk hpl hql
            go_wp2
            go_quiet ((go_at_call 22; exact quietAdd (HC.out _)))
            go_wp2
            go_roundw
            case rel => exact ⟨k + 1, _, by omega, by go_num, Lib.hid (take_eq_step hlt hlt2 HK.out HP.out), rfl⟩
            case measure => simp [intOf]; omega
          · have hd : decide (ps[k].2 = qs[k].2) = false := by simp [hf]
            have hc := fun m => sameInts_any A1 A2 c1 c2 ps[k].2 qs[k].2 (w.drewN m) hr1 hr2 (by omega) (by omega)
            rw [hd] at hc
            have HC := Lib.hid hc
            have hfin : decide (ps = qs) = false := by simp; intro h; exact hf (by simp [h])
            have HF := Lib.hid hfin
            clear hc hd hf hfin
            generalize hpk : ps[k].1 = p1 at *
            generalize hqk : qs[k].1 = q1 at *
            generalize hpl : ps[k].2 = p2 at *
            generalize hql : qs[k].2 = q2 at *
            clear hpk hqk hpl hql
            go_wp2
            go_quiet ((go_at_call 22; exact quietAdd (HC.out _)))
            go_wp2
            go_ret
            exact ⟨ret_bool HF.out.symm, _, World.drewN_drewN _ _ _⟩
        · have he1 : (ps[k].1 != qs[k].1) = true := by simp [he]
          have hfin : decide (ps = qs) = false := by simp; intro h; exact he (by simp [h])
          have HF := Lib.hid hfin
          clear he hfin
          generalize hpk : ps[k].1 = p1 at *
          generalize hqk : qs[k].1 = q1 at *
          clear hpk hqk
          go_wp2
          go_quiet (fail)
          go_wp2
          go_ret
          exact ⟨ret_bool HF.out.symm, _, World.drewN_drewN _ _ _⟩
      · go_wp2
        go_ret
        exact ⟨ret_bool (by simpa using eq_of_take HL.out (by omega) HK.out), n, rfl⟩
  · have hl1 : ((ps.length : Int) != (qs.length : Int)) = true := by simp; omega
    go_enter Try.func14, Try.ntmps14
    go_wp2
    go_ret
    exact ⟨ret_bool (by simp; intro h; exact hl (by rw [h])), 0, rfl⟩

set_option maxHeartbeats 1600000 in
theorem rdiff_any {S : Nat → Prop} (A B : Option Addr) (c d : Nat) (xs ys : List Int) (w : World) (hS : ∀ k, w.heap.size ≤ k → S k) (ha : RI S w A xs) (hb : RI S w B ys)
    (hx : xs.length ≤ 1000000) (hy : ys.length ≤ 1000000) (hc : xs.length ≤ c) (hc' : c ≤ 9223372036854775807) (hd : ys.length ≤ d) (hd' : d ≤ 9223372036854775807) :
    Calls Try.prog 15 #[.slice A xs.length c, .slice B ys.length d] w fun e w' =>
      (∃ L c', e = .returned (.slice L (diffL xs ys).length c') ∧ RP S w' L (diffL xs ys) ∧ (diffL xs ys).length ≤ c' ∧ c' ≤ 9223372036854775807) ∧ Ext w w' := by
  have hcnt : cnt ys.length ≤ 1000000 := by unfold cnt; omega
  go_enter Try.func15, Try.ntmps15
  go_wp2
  go_loopw [5, 6] (fun v i wr => ∃ k : Nat, k ≤ cnt ys.length ∧ i = .int .i64 k ∧ OP S w.heap.size wr v (diffTo xs ys k) ∧ Ext w wr) (fun _ i _ => cnt ys.length - (intOf i).toNat)
  case atStart => exact ⟨0, Nat.zero_le _, rfl, OP.nil_ _ _ _, Ext.refl' _⟩
  case round =>
    obtain ⟨k, hk, rfl, hop, hext⟩ := hrel
    have hsz := hext.size
    by_cases hlt : k < cnt ys.length
    · have hb1 := hb.ext hext
      have ha1 := ha.ext hext
      have hle := diffTo_le xs ys k
      have hpl := pg_length ys k
      have hpl4 : (pg ys k).length ≤ 4 := by omega
      clear hpl
      by_cases hdf : dif xs ys k = true
      · have hstep : diffTo xs ys (k + 1) = diffTo xs ys k ++ [((k : Int), pg ys k)] := by simp [diffTo, hdf]
        have HS := Lib.hid hstep
        clear hstep
        obtain ⟨vs, hown, hreps⟩ := hop
        have hblk := own_block hown
        go_wp2_with fail
        refine (rcount_any _ _ _ _ (by omega)).mono ?_
        rintro e w' ⟨rfl, rfl⟩
        go_wp2_with fail
        refine (rpage_any _ _ _ xs _ ha1 (by omega) hc hx hc').mono ?_
        rintro e w' ⟨⟨A2, d2, rfl, hr2, hd2, hd2'⟩, rfl⟩
        go_wp2_with fail
        refine (rpage_any _ _ _ ys _ hb1 (by omega) hd hy hd').mono ?_
        rintro e w' ⟨⟨A1, d1, rfl, hr1, hd1, hd1'⟩, rfl⟩
        by_cases hl : xs.length = ys.length
        · have hl1 : ((xs.length : Int) != (ys.length : Int)) = false := by simp [hl]
          have he1 : decide (pg xs k = pg ys k) = false := by simpa [dif, hl] using hdf
          clear hl hdf
          go_wp2_with fail
          refine (sameInts_any _ _ _ _ _ _ _ hr2 hr1 (by omega) (by omega)).mono ?_
          rintro e w' ⟨rfl, nq, rfl⟩
          rw [he1]
          clear he1
          go_wp2_with (at_builtin; refine wpList_app ety_int rfl _ _ rfl rfl (ownsRow_nil _ wr.heap.size _ _) rfl ?c1 hr1 ?c2 ?c4 ?c5 ?_)
          case c1 => simp
          case c2 => exact oneCell_ints _
          case c4 => omega
          case c5 => simp
          intro v1 w1 hown1 happ1
          have hown1' : w1.ownsRow wr.heap.size 3 1 v1 (pg ys k).length (ints (pg ys k)) := by simpa using hown1
          have hx1 : Ext wr w1 := ((Ext.refl' wr).drewN' nq).app (Ext.refl' _) happ1 (by simp [Value.ownBlock])
          obtain ⟨L1, c1, hv1, hc1, hc1'⟩ := own_form hown1'
          rw [hv1] at hown1' ⊢
          have hr3 := RV.ofOwn hown1'
          have hown2 := own_ext hown hx1
          clear hv1 hown1 happ1 hown1'
          go_wp2_with (at_builtin; refine wpList_app ety_page rfl _ _ rfl rfl (hown2.alloc _) (A := some ⟨w1.heap.size, 0, none⟩) (m := 1) (c := 1) (news := [.int .i64 k, .slice L1 (pg ys k).length c1]) rfl rfl (RV.new _ _ _) ?c2 ?c4 ?c5 ?_)
          case c2 => simp [Value.oneCell']
          case c4 => omega
          case c5 => have := hx1.size; simp; omega
          intro v' w2 hown' happ
          have hxa := hx1.alloc' (Obj.cells #[Value.int IntKind.i64 ↑k, Value.slice L1 (pg ys k).length c1] 28)
          have hop1 : OP S w.heap.size w2 v' (diffTo xs ys (k + 1)) := by
            rw [HS.out]
            refine OP.snoc hreps hown' rfl hxa happ ⟨L1, c1, rfl, hc1, by omega, ?_⟩
            exact (RV.into hr3 (Into.fresh (S := S) w1 hown (fun k hk => hS k (by omega)))).into (Into.app ((Ext.refl' w1).alloc' _) happ)
          have hext1 := hext.app hxa happ hblk
          clear hxa happ hown' hown hreps hblk HS hown2 hr3 hx1
          go_wp2
          go_roundw
          case rel => exact ⟨k + 1, by omega, by go_num, hop1, hext1⟩
          case measure => simp [intOf]; omega
        · have hl1 : ((xs.length : Int) != (ys.length : Int)) = true := by simp; omega
          clear hl hdf
          go_wp2_with (at_builtin; refine wpList_app ety_int rfl _ _ rfl rfl (ownsRow_nil _ wr.heap.size _ _) rfl ?c1 hr1 ?c2 ?c4 ?c5 ?_)
          case c1 => simp
          case c2 => exact oneCell_ints _
          case c4 => omega
          case c5 => exact Nat.le_refl _
          intro v1 w1 hown1 happ1
          have hown1' : w1.ownsRow wr.heap.size 3 1 v1 (pg ys k).length (ints (pg ys k)) := by simpa using hown1
          have hx1 : Ext wr w1 := (Ext.refl' wr).app (Ext.refl' _) happ1 (by simp [Value.ownBlock])
          obtain ⟨L1, c1, hv1, hc1, hc1'⟩ := own_form hown1'
          rw [hv1] at hown1' ⊢
          have hr3 := RV.ofOwn hown1'
          have hown2 := own_ext hown hx1
          clear hv1 hown1 happ1 hown1'
          go_wp2_with (at_builtin; refine wpList_app ety_page rfl _ _ rfl rfl (hown2.alloc _) (A := some ⟨w1.heap.size, 0, none⟩) (m := 1) (c := 1) (news := [.int .i64 k, .slice L1 (pg ys k).length c1]) rfl rfl (RV.new _ _ _) ?c2 ?c4 ?c5 ?_)
          case c2 => simp [Value.oneCell']
          case c4 => omega
          case c5 => have := hx1.size; simp; omega
          intro v' w2 hown' happ
          have hxa := hx1.alloc' (Obj.cells #[Value.int IntKind.i64 ↑k, Value.slice L1 (pg ys k).length c1] 28)
          have hop1 : OP S w.heap.size w2 v' (diffTo xs ys (k + 1)) := by
            rw [HS.out]
            refine OP.snoc hreps hown' rfl hxa happ ⟨L1, c1, rfl, hc1, by omega, ?_⟩
            exact (RV.into hr3 (Into.fresh (S := S) w1 hown (fun k hk => hS k (by omega)))).into (Into.app ((Ext.refl' w1).alloc' _) happ)
          have hext1 := hext.app hxa happ hblk
          clear hxa happ hown' hown hreps hblk HS hown2 hr3 hx1
          go_wp2
          go_roundw
          case rel => exact ⟨k + 1, by omega, by go_num, hop1, hext1⟩
          case measure => simp [intOf]; omega
      · have hl : xs.length = ys.length := by simp [dif] at hdf; exact hdf.1
        have he1 : decide (pg xs k = pg ys k) = true := by simp [dif] at hdf; simp [hdf.2]
        have hl1 : ((xs.length : Int) != (ys.length : Int)) = false := by simp [hl]
        have hstep : diffTo xs ys (k + 1) = diffTo xs ys k := by simp [diffTo, hdf]
        have HS := Lib.hid hstep
        clear hstep hl hdf
        go_wp2_with fail
        refine (rcount_any _ _ _ _ (by omega)).mono ?_
        rintro e w' ⟨rfl, rfl⟩
        go_wp2_with fail
        refine (rpage_any _ _ _ xs _ ha1 (by omega) hc hx hc').mono ?_
        rintro e w' ⟨⟨A2, d2, rfl, hr2, hd2, hd2'⟩, rfl⟩
        go_wp2_with fail
        refine (rpage_any _ _ _ ys _ hb1 (by omega) hd hy hd').mono ?_
        rintro e w' ⟨⟨A1, d1, rfl, hr1, hd1, hd1'⟩, rfl⟩
        go_wp2_with fail
        refine (sameInts_any _ _ _ _ _ _ _ hr2 hr1 (by omega) (by omega)).mono ?_
        rintro e w' ⟨rfl, nq, rfl⟩
        rw [he1]
        clear he1
        go_wp2
        go_roundw
        case rel => exact ⟨k + 1, by omega, by go_num, by rw [HS.out]; exact hop, hext.drewN' nq⟩
        case measure => simp [intOf]; omega
    · obtain rfl : k = cnt ys.length := by omega
      obtain ⟨L, c', rfl, h1, h2, h3⟩ := hop.shut hS
      go_wp2_with fail
      refine (rcount_any _ _ _ _ (by omega)).mono ?_
      rintro e w' ⟨rfl, rfl⟩
      go_wp2
      go_ret
      exact ⟨⟨L, c', rfl, h1, h2, h3⟩, hext⟩

/-- the cells of the first k pages -/
def costL (ps : List Pg) : Nat := (ps.map (fun p => p.2.length)).sum
theorem costL_take (ps : List Pg) {k : Nat} (hk : k < ps.length) : costL (ps.take (k + 1)) = costL (ps.take k) + ps[k].2.length := by
  rw [List.take_succ_eq_append_getElem hk]; simp only [costL, List.map_append, List.sum_append, List.map_cons, List.map_nil, List.sum_cons, List.sum_nil, Nat.add_zero]
theorem costL_take_le (ps : List Pg) (k : Nat) : costL (ps.take k) ≤ costL ps := by
  have : costL ps = costL (ps.take k) + costL (ps.drop k) := by
    rw [costL, costL, costL, ← List.sum_append, ← List.map_append, List.take_append_drop]
  omega
set_option maxHeartbeats 800000 in
theorem rcost_any {S : Nat → Prop} (A : Option Addr) (c : Nat) (ps : List Pg) (w : World) (ha : RP S w A ps) (hx : ps.length ≤ 1000000) (hm : costL ps ≤ 1000000000) :
    Calls Try.prog 17 #[.slice A ps.length c] w fun e w' => e = .returned (.int .i64 (costL ps : Int)) ∧ w = w' := by
  go_enter Try.func17, Try.ntmps17
  go_wp2
  go_loop [3, 4] (fun t i => ∃ k : Nat, k ≤ ps.length ∧ i = .int .i64 k ∧ t = .int .i64 (costL (ps.take k) : Int)) (fun _ i => ps.length - (intOf i).toNat)
  case atStart => exact ⟨0, Nat.zero_le _, rfl, rfl⟩
  case round =>
    obtain ⟨k, hk, rfl, rfl⟩ := hrel
    have hle := costL_take_le ps k
    by_cases hlt : k < ps.length
    · obtain ⟨b1, o1, A1, c1, rfl, hn1, hs1, hle1, hmx1, hr1⟩ := ha.at_ hlt
      have hst := costL_take ps hlt
      have hle2 := costL_take_le ps (k + 1)
      have hb : costL (ps.take k) + ps[k].2.length ≤ 1000000000 := by omega
      have HS := Lib.hid hst
      clear hst hle2 hn1
      generalize ps[k].2.length = m at *
      generalize costL (ps.take k) = t at *
      go_wp2
      go_round
      case rel => exact ⟨k + 1, by omega, by go_num, by rw [HS.out]; go_num⟩
      case measure => simp [intOf]; omega
    · go_wp2
      go_ret
      exact ⟨ret_int (by rw [List.take_of_length_le (by omega)]), rfl⟩

set_option maxHeartbeats 800000 in
theorem cost_any {S : Nat → Prop} (A : Option Addr) (c : Nat) (ps : List Pg) (w : World) (ha : RP S w A ps) (hx : ps.length ≤ 1000000) (hm : costL ps ≤ 1000000000) :
    Calls Try.prog 16 #[.slice A ps.length c] w fun e w' => e = .returned (.int .i64 (costL ps : Int)) ∧ Ext w w' := by
  go_enter Try.func16, Try.ntmps16
  go_wp2
  go_loopw [3, 8] (fun t i wr => ∃ k : Nat, k ≤ ps.length ∧ i = .int .i64 k ∧ t = .int .i64 (costL (ps.take k) : Int) ∧ Ext w wr) (fun _ i _ => ps.length - (intOf i).toNat)
  case atStart => exact ⟨0, Nat.zero_le _, rfl, rfl, Ext.refl' _⟩
  case round =>
    obtain ⟨k, hk, rfl, rfl, hext⟩ := hrel
    have hle := costL_take_le ps k
    by_cases hlt : k < ps.length
    · obtain ⟨b1, o1, A1, c1, rfl, hn1, hs1, hle1, hmx1, hr1⟩ := (ha.ext hext).at_ hlt
      have hst := costL_take ps hlt
      have hle2 := costL_take_le ps (k + 1)
      have hb : costL (ps.take k) + ps[k].2.length ≤ 1000000000 := by omega
      have HS := Lib.hid hst
      clear hst hle2
      generalize ps[k].2.length = m at *
      generalize costL (ps.take k) = t at *
      generalize ps[k].1 = y at *
      go_wp2
      go_roundw
      case rel => exact ⟨k + 1, by omega, by go_num, by rw [HS.out]; go_num, hext.alloc' _⟩
      case measure => simp [intOf]; omega
    · go_wp2
      go_ret
      exact ⟨ret_int (by rw [List.take_of_length_le (by omega)]), hext⟩
end Go.Proofs.Ytncjoojpepbkeaa
