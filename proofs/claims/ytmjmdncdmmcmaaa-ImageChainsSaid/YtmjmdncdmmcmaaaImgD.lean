/- What slices.Clone and the program's and the reference's Apply return. Conditions: lengths up to a million. -/
import Derived.Test.YtmjmdncdmmcmaaaImgB
namespace Go.Proofs.Ytmjmdncdmmcmaaa
open Go.RowKit
set_option linter.unusedVariables false

set_option maxHeartbeats 400000 in
theorem clone_any {S : Nat → Prop} (A : Option Addr) (c : Nat) (xs : List Int) (w : World) (ha : RI S w A xs) (hx : xs.length ≤ 1000000) :
    Calls Try.prog 51 #[.slice A xs.length c] w fun e w' => (∃ v, e = .returned v ∧ w'.ownsRow w.heap.size 3 1 v xs.length (ints xs)) ∧ Ext w w' := by
  cases A with
  | none =>
    have h0 : xs = [] := by
      cases xs with
      | nil => rfl
      | cons x r => obtain ⟨b, o, e, _⟩ := ha.at_ (k := 0) (by simp); cases e
    subst h0
    have hq := fun (w : World) => Lib.run_eql_slice_nil (P := Try.prog) w 25 3 none 0 c 0 0 Try.underlying25
    simp only [List.length_nil]
    go_enter Try.func51, Try.ntmps51
    go_wp2
    go_ret
    exact ⟨⟨_, rfl, ownsRow_nil _ _ _ _⟩, Ext.refl' _⟩
  | some ad =>
    have hq := fun (w : World) => Lib.run_eql_slice_nil (P := Try.prog) w 25 3 (some ad) xs.length c 0 0 Try.underlying25
    have hown0 : (w.alloc (.cells #[] 3)).ownsRow w.heap.size 3 1 (.slice (some ⟨w.heap.size, 0, none⟩) 0 0) 0 [] :=
      ⟨rfl, .inr ⟨w.heap.size, 0, #[], rfl, Nat.le_refl _, by show (w.heap.push _)[w.heap.size]? = _; simp, Nat.le_refl _, by simp [maxLen], rfl, rfl⟩⟩
    have hx0 := (Ext.refl' w).alloc' (.cells #[] 3)
    have ha0 := ha.ext hx0
    go_enter Try.func51, Try.ntmps51
    go_wp2_with (at_builtin; refine wpList_app ety_int rfl _ _ rfl rfl hown0 rfl ?c1 ha0 ?c2 ?c4 ?c5 ?_)
    case c1 => simp
    case c2 => exact oneCell_ints xs
    case c4 => omega
    case c5 => simp
    intro v w1 hown happ
    have hx1 : Ext w w1 := hx0.app (Ext.refl' _) happ (by simp [Value.ownBlock])
    have hown1 : w1.ownsRow w.heap.size 3 1 v xs.length (ints xs) := by simpa using hown
    clear hown happ hown0 hx0 ha0
    go_wp2
    go_ret
    exact ⟨⟨_, rfl, hown1⟩, hx1⟩

set_option maxHeartbeats 400000 in
theorem page_at (A : Option Addr) (c k n : Nat) (w : World) (hk : 4 * k < n) (hc : n ≤ c) (hx : n ≤ 1000000) (hc' : c ≤ 9223372036854775807) :
    Calls Try.prog 49 #[.slice A n c, .int .i64 k] w fun e w' => e = .returned (.slice (Option.map (fun x => x.add (k * 4)) A) (min 4 (n - 4 * k)) (min 4 (n - 4 * k))) ∧ w = w' := by
  go_enter Try.func49, Try.ntmps49
  go_wp2
  all_goals
    go_ret
    exact ⟨ret_slice2 (by omega) (by omega), rfl⟩

/-- one page, or its error -/
def app1 (b : List Int) (p : Pg) : Except Int (List Int) :=
  if p.1 < 0 ∨ (cnt b.length : Int) ≤ p.1 then .error 3 else if p.2.length ≠ (pg b p.1.toNat).length then .error 7 else .ok (over b (4 * p.1.toNat) p.2)
/-- the pages in order, or the first error -/
def appL (b : List Int) (ps : List Pg) : Except Int (List Int) := ps.foldlM app1 b
def resL : Except Int (List Int) → List Int | .ok ys => ys | .error _ => []
def resE : Except Int (List Int) → Int | .ok _ => 0 | .error e => e
theorem appL_take (b : List Int) (ps : List Pg) {k : Nat} (hk : k < ps.length) : appL b (ps.take (k + 1)) = (appL b (ps.take k)).bind (fun y => app1 y ps[k]) := by
  rw [List.take_succ_eq_append_getElem hk, appL, List.foldlM_append]
  simp only [appL, List.foldlM_cons, List.foldlM_nil, bind, Except.bind]
  cases List.foldlM app1 b (List.take k ps) with
  | error e => rfl
  | ok v => simp only; cases app1 v ps[k] <;> rfl
theorem appL_error (b : List Int) (ps : List Pg) (k : Nat) {e : Int} (h : appL b (ps.take k) = .error e) : appL b ps = .error e := by
  have : appL b (ps.take k ++ ps.drop k) = .error e := by
    rw [appL, List.foldlM_append]
    unfold appL at h
    rw [h]; rfl
  rwa [List.take_append_drop] at this
theorem pg_full {n : Nat} (b : List Int) (h : n < cnt b.length) : 4 * n + (pg b n).length ≤ b.length ∧ 4 * n < b.length := by
  rw [pg_length]; unfold cnt at h; omega

theorem app1_length {b y : List Int} {p : Pg} (h : app1 b p = .ok y) : y.length = b.length := by
  unfold app1 at h
  split at h
  · cases h
  · split at h
    · cases h
    · injection h with h
      rename_i h1 h2
      rw [← h, over_length]
      have := pg_full (n := p.1.toNat) b (by omega)
      simp at h2
      omega
theorem foldlM_length : ∀ (ps : List Pg) (b y : List Int), ps.foldlM app1 b = Except.ok y → y.length = b.length
  | [], b, y, h => by simp [pure, Except.pure] at h; rw [h]
  | p :: ps, b, y, h => by
    rw [List.foldlM_cons] at h
    cases hz : app1 b p with
    | error e => rw [hz] at h; cases h
    | ok z => rw [hz] at h; exact (foldlM_length ps z y h).trans (app1_length hz)
theorem appL_length (b : List Int) (ps : List Pg) (hb : b.length ≤ 1000000) : (resL (appL b ps)).length ≤ 1000000 := by
  cases h : appL b ps with
  | error e => simp [resL]
  | ok y => show y.length ≤ _; rw [foldlM_length ps b y h]; exact hb

set_option maxHeartbeats 3200000 in
theorem apply_any {S : Nat → Prop} (A B : Option Addr) (c d : Nat) (xs : List Int) (ps : List Pg) (w : World) (hS : ∀ k, w.heap.size ≤ k → S k) (ha : RI S w A xs) (hb : RP S w B ps)
    (hx : xs.length ≤ 1000000) (hy : ps.length ≤ 1000000) :
    Calls Try.prog 19 #[.slice A xs.length c, .slice B ps.length d] w fun e w' =>
      (∃ L c', e = .returned (.tuple #[.slice L (resL (appL xs ps)).length c', .int .i64 (resE (appL xs ps))]) ∧ RI S w' L (resL (appL xs ps))) ∧ Ext w w' := by
  have hcnt : cnt xs.length * 4 < xs.length + 4 ∧ xs.length ≤ cnt xs.length * 4 := by unfold cnt; omega
  obtain ⟨hcn1, hcn2⟩ := hcnt
  have hb0 : RP (fun k => S k ∧ k < w.heap.size) w B ps := hb.into (Into.subLt _ fun k h1 h2 => ⟨h1, h2⟩)
  go_enter Try.func19, Try.ntmps19
  go_wp2_with fail
  refine (clone_any _ _ xs _ ha hx).mono ?_
  rintro e w1 ⟨⟨v, rfl, hown⟩, hx1⟩
  obtain ⟨L, cp, rfl, hcp, hcp'⟩ := own_form hown
  go_wp2
  go_loopw [14] (fun i wr => ∃ k : Nat, k ≤ ps.length ∧ i = .int .i64 k ∧ (∃ ys : List Int, Hid (appL xs (ps.take k) = .ok ys) ∧ ys.length = xs.length ∧ wr.ownsRow w.heap.size 3 1 (.slice L xs.length cp) xs.length (ints ys)) ∧ Ext w wr) (fun i _ => ps.length - (intOf i).toNat)
  case atStart => exact ⟨0, Nat.zero_le _, rfl, ⟨xs, Lib.hid rfl, rfl, hown⟩, hx1⟩
  case round =>
    clear hown hx1
    obtain ⟨k, hk, rfl, ⟨ys, HA, hyl, hown⟩, hext⟩ := hrel
    have HY := Lib.hid hyl
    clear hyl
    have hsz := hext.size
    by_cases hlt : k < ps.length
    · obtain ⟨b1, o1, A1, c1, rfl, hn1, hs1, hle1, hmx1, hr1⟩ := (hb0.ext hext).at_ hlt
      have hstep := appL_take xs ps hlt
      rw [HA.out] at hstep
      have hstep' : appL xs (ps.take (k + 1)) = app1 ys ps[k] := hstep
      have herr := fun e (h : appL xs (ps.take (k + 1)) = .error e) => appL_error xs ps (k + 1) h
      have HS := Lib.hid hstep'
      have HE := Lib.hid herr
      clear hstep hstep' herr
      generalize hpk : ps[k] = p at *
      obtain ⟨num, cells⟩ := p
      simp only at hn1 hs1 hle1 hr1
      clear hpk
      by_cases hneg : num < 0
      · have happ : appL xs ps = .error 3 := HE.out 3 (by rw [HS.out]; unfold app1; rw [if_pos (.inl hneg)])
        have HP := Lib.hid happ
        clear happ
        go_wp2
        go_quiet (fail)
        go_wp2
        go_ret2
        rw [HP.out]
        exact ⟨⟨none, 0, rfl, RI.nil_ _ _ _⟩, (hext.alloc' _).drewN' _⟩
      · have hneg' : 0 ≤ num := by omega
        clear hneg
        obtain ⟨q, rfl⟩ := Int.eq_ofNat_of_zero_le hneg'
        by_cases hbig : cnt xs.length ≤ q
        · have happ : appL xs ps = .error 3 := HE.out 3 (by rw [HS.out]; unfold app1; rw [HY.out, if_pos (.inr (by simpa using hbig))])
          have HP := Lib.hid happ
          clear happ
          go_wp2
          go_quiet ((go_at_call 48; exact quietSame (count_any _ _ _ _ (by omega))))
          go_wp2
          go_ret2
          rw [HP.out]
          exact ⟨⟨none, 0, rfl, RI.nil_ _ _ _⟩, (hext.alloc' _).drewN' _⟩
        · have hsm : q < cnt xs.length := by omega
          clear hbig
          have hpgl := pg_length ys q
          rw [HY.out] at hpgl
          have hq4 : 4 * q < xs.length := by omega
          have HPG := Lib.hid hpgl
          clear hpgl
          go_wp2
          go_quiet ((go_at_call 48; exact quietSame (count_any _ _ _ _ (by omega))))
          go_wp2_with fail
          refine (page_at _ _ q xs.length _ hq4 hcp hx hcp').mono ?_
          rintro e w' ⟨rfl, rfl⟩
          have hm1 : 4 * q + min 4 (xs.length - 4 * q) ≤ xs.length := by omega
          generalize min 4 (xs.length - 4 * q) = m at *
          by_cases hlen : cells.length = m
          · have hl1 : ((m : Int) != (cells.length : Int)) = false := by simp [hlen]
            have hok : appL xs (ps.take (k + 1)) = .ok (over ys (4 * q) cells) := by
              rw [HS.out]; unfold app1
              rw [if_neg (by rw [HY.out]; simp; omega), if_neg (by simp; rw [HPG.out]; exact hlen)]; rfl
            have HO := Lib.hid hok
            have HL := Lib.hid hlen
            clear hok hlen
            obtain ⟨gb, cp', hv, hgb, hcp1, hcp2⟩ := own_some hown (by omega)
            injection hv with hL hn hcc
            subst hL; subst hcc
            clear hn
            have hxa := (hext.alloc' (.cells #[.int .i64 (q : Int), .slice A1 cells.length c1] 27)).drewN' nq
            have hxr := ((Ext.refl' wr).alloc' (.cells #[.int .i64 (q : Int), .slice A1 cells.length c1] 27)).drewN' nq
            have hown2 := own_ext hown hxr
            have hr2 := RV.ext hr1 hxr
            go_wp2_with (with_reducible refine wpList_copyRow ety_int rfl (.tmp 38) (.tmp 40) rfl (off := 4 * q) (cs := ints cells) hown2 rfl rfl ?c1 ?c2 ?c3 hr2 ?c4 (oneCell_ints _) ?_)
            case c1 => simp
            case c2 => simpa using HL.out
            case c3 => intro _; rw [Nat.mul_comm]
            case c4 => simp; rw [HL.out]; exact hm1
            intro w3 hown3 hk3 hz3
            have hk3' : Keep (fun k => k ≠ gb) ((wr.alloc (.cells #[.int .i64 (q : Int), .slice A1 cells.length c1] 27)).drewN nq) w3 := hk3
            have hext3 : Ext w w3 := hxa.trans (hk3'.below hxa.size (fun k hk => by omega))
            have hown4 : w3.ownsRow w.heap.size 3 1 (.slice (some ⟨gb, 0, none⟩) xs.length cp) xs.length (ints (over ys (4 * q) cells)) := by rw [ints, over_map]; exact hown3
            have hyl2 : (over ys (4 * q) cells).length = xs.length := by rw [over_length _ _ _ (by rw [HL.out, HY.out]; exact hm1), HY.out]
            clear hown3 hk3 hk3' hxa hxr hown2 hr2 hz3
            have HY2 := Lib.hid hyl2
            clear hyl2
            go_wp2
            go_roundw
            case rel => exact ⟨k + 1, by omega, by go_num, ⟨_, HO, HY2.out, hown4⟩, hext3⟩
            case measure => simp [intOf]; omega
          · have hl1 : ((m : Int) != (cells.length : Int)) = true := by simp; omega
            have happ : appL xs ps = .error 7 := HE.out 7 (by
              rw [HS.out]; unfold app1
              rw [if_neg (by rw [HY.out]; simp; omega), if_pos (by simp; rw [HPG.out]; exact hlen)])
            have HP := Lib.hid happ
            clear happ hlen
            go_wp2
            go_ret2
            rw [HP.out]
            exact ⟨⟨none, 0, rfl, RI.nil_ _ _ _⟩, (hext.alloc' _).drewN' _⟩
    · go_wp2
      go_ret2
      have hfin : appL xs ps = .ok ys := by have := HA.out; rwa [List.take_of_length_le (by omega)] at this
      rw [hfin]
      exact ⟨⟨L, cp, by show _ = Ending.returned (.tuple #[.slice L ys.length cp, _]); rw [HY.out]; rfl, RV.ofOwn' hown (fun b hb => hS b hb)⟩, hext⟩

end Go.Proofs.Ytmjmdncdmmcmaaa
