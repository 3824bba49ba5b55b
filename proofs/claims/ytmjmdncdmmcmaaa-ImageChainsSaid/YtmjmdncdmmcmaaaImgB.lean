/- What the program's and the reference's Diff and Cost return. Conditions: lengths up to a million. -/
import Derived.Test.YtmjmdncdmmcmaaaImgA
namespace Go.Proofs.Ytmjmdncdmmcmaaa
open Go.RowKit
set_option linter.unusedVariables false

abbrev Pg := Int × List Int
def repPage (S : Nat → Prop) (w : World) (cs : List Value) (p : Pg) : Prop :=
  ∃ A c, cs = [.int .i64 p.1, .slice A p.2.length c] ∧ p.2.length ≤ c ∧ c ≤ 9223372036854775807 ∧ RI S w A p.2
theorem repPage.keep {S : Nat → Prop} {w w' : World} (k : Keep S w w') (cs : List Value) (p : Pg) (h : repPage S w cs p) : repPage S w' cs p :=
  let ⟨A, c, e, h1, h2, h3⟩ := h; ⟨A, c, e, h1, h2, h3.keep k⟩
/-- a slice of pages -/
def RP (S : Nat → Prop) (w : World) (A : Option Addr) (ps : List Pg) : Prop := RL (repPage S) 2 S w A ps
theorem RP.keep {S : Nat → Prop} {w w' : World} {A : Option Addr} {ps : List Pg} (h : RP S w A ps) (k : Keep S w w') : RP S w' A ps := RL.keep h k (repPage.keep k)
theorem RP.ext {S : Nat → Prop} {w w' : World} {A : Option Addr} {ps : List Pg} (h : RP S w A ps) (k : Ext w w') : RP S w' A ps := h.keep (.ofExt k)
theorem RP.at_ {S : Nat → Prop} {w : World} {A : Option Addr} {ps : List Pg} (h : RP S w A ps) {j : Nat} (hj : j < ps.length) :
    ∃ b o B c, A = some ⟨b, o, none⟩ ∧ w.cell? ⟨b, o + j * 2, none⟩ = some (.int .i64 ps[j].1) ∧ w.cell? ⟨b, o + j * 2 + 1, none⟩ = some (.slice B ps[j].2.length c) ∧ ps[j].2.length ≤ c ∧ c ≤ 9223372036854775807 ∧ RI S w B ps[j].2 := by
  obtain ⟨b, o, cs, rfl, _, ⟨B, c, rfl, h1, h2, h3⟩, hc⟩ := RL.at_ h hj (by omega)
  exact ⟨b, o, B, c, rfl, by simpa using hc 0 (by omega), by simpa using hc 1 (by omega), h1, h2, h3⟩

theorem ety_page : ElemTy Try.prog 22 27 2 32 := ElemTy.mk' (z := .agg #[.int .i64 0, .slice none 0 0]) Try.underlying22 (by kernel_rfl) rfl (by omega) (by omega)
theorem ety_int : ElemTy Try.prog 25 3 1 8 := ElemTy.mk' (z := .int .i64 0) Try.underlying25 (by kernel_rfl) rfl (by omega) (by omega)
theorem repPage.into {S S' : Nat → Prop} {w w' : World} (k : Into S S' w w') (cs : List Value) (p : Pg) (h : repPage S w cs p) : repPage S' w' cs p :=
  let ⟨A, c, e, h1, h2, h3⟩ := h; ⟨A, c, e, h1, h2, h3.into k⟩
theorem RP.into {S S' : Nat → Prop} {w w' : World} {A : Option Addr} {ps : List Pg} (h : RP S w A ps) (k : Into S S' w w') : RP S' w' A ps := RL.into h k (repPage.into k)
/-- a row of pages that the call owns -/
def OP (S : Nat → Prop) (base : Nat) (w : World) (v : Value) (ps : List Pg) : Prop := ∃ vs, w.ownsRow base 27 2 v ps.length vs ∧ Reps (repPage (Off v S) w) 2 vs ps
theorem OP.shut {S : Nat → Prop} {base : Nat} {w : World} {v : Value} {ps : List Pg} (h : OP S base w v ps) (hS : ∀ k, base ≤ k → S k) : ∃ L c, v = .slice L ps.length c ∧ RP S w L ps ∧ ps.length ≤ c ∧ c ≤ 9223372036854775807 := by
  obtain ⟨vs, h1, h2⟩ := h
  obtain ⟨L, c, rfl, h3, h4⟩ := own_form h1
  exact ⟨L, c, rfl, ⟨vs, RV.ofOwn' h1 hS, h2.mono (repPage.into (Into.sub _ fun k hk => hk.1))⟩, h3, h4⟩
theorem OP.nil_ (S : Nat → Prop) (base : Nat) (w : World) : OP S base w (.slice none 0 0) [] := ⟨[], ownsRow_nil _ _ _ _, rfl⟩
theorem OP.snoc {S : Nat → Prop} {base : Nat} {wr wa w1 : World} {v v' : Value} {ps : List Pg} {vs cs : List Value} {p : Pg} (h2 : Reps (repPage (Off v S) wr) 2 vs ps) (h1 : w1.ownsRow base 27 2 v' (ps.length + 1) (vs ++ cs)) (hl : cs.length = 2) (hx : Ext wr wa)
    (ha : Appd wa w1 v v') (hp : repPage (Off v' S) w1 cs p) : OP S base w1 v' (ps ++ [p]) :=
  ⟨vs ++ cs, by simpa using h1, (h2.mono (repPage.into (Into.app hx ha))).snoc hl hp⟩

theorem pg_get (a : List Int) (n i : Nat) : (pg a n)[i]? = if i < 4 then a[4 * n + i]? else none := by
  unfold pg; rw [List.getElem?_take]; split <;> simp [List.getElem?_drop]
/-- page n belongs to the difference -/
def dif (a b : List Int) (n : Nat) : Bool := decide (a.length ≠ b.length) || !decide (pg a n = pg b n)
/-- the difference, up to page k -/
def diffTo (a b : List Int) : Nat → List Pg
  | 0 => []
  | k + 1 => diffTo a b k ++ if dif a b k then [((k : Int), pg b k)] else []
def diffL (a b : List Int) : List Pg := diffTo a b (cnt b.length)
theorem diffTo_le (a b : List Int) (k : Nat) : (diffTo a b k).length ≤ k := by
  induction k with
  | zero => simp [diffTo]
  | succ k ih => simp only [diffTo, List.length_append]; split <;> simp <;> omega

set_option maxHeartbeats 1600000 in
theorem diff_any {S : Nat → Prop} (A B : Option Addr) (c d : Nat) (xs ys : List Int) (w : World) (hS : ∀ k, w.heap.size ≤ k → S k) (ha : RI S w A xs) (hb : RI S w B ys)
    (hx : xs.length ≤ 1000000) (hy : ys.length ≤ 1000000) (hc : xs.length ≤ c) (hc' : c ≤ 9223372036854775807) (hd : ys.length ≤ d) (hd' : d ≤ 9223372036854775807) :
    Calls Try.prog 18 #[.slice A xs.length c, .slice B ys.length d] w fun e w' =>
      (∃ L c', e = .returned (.slice L (diffL xs ys).length c') ∧ RP S w' L (diffL xs ys) ∧ (diffL xs ys).length ≤ c' ∧ c' ≤ 9223372036854775807) ∧ Ext w w' := by
  have hcnt : cnt ys.length ≤ 1000000 := by unfold cnt; omega
  have hb0 : RI (fun k => S k ∧ k < w.heap.size) w B ys := hb.into (Into.subLt _ fun k h1 h2 => ⟨h1, h2⟩)
  go_enter Try.func18, Try.ntmps18
  go_wp2_with (go_at_call 48; refine (count_any _ _ _ _ (by omega)).mono ?_; rintro e w' ⟨rfl, rfl⟩)
  go_loopw [5, 10] (fun v i wr => ∃ k : Nat, k ≤ cnt ys.length ∧ i = .int .i64 k ∧ OP S w.heap.size wr v (diffTo xs ys k) ∧ Ext w wr) (fun _ i _ => cnt ys.length - (intOf i).toNat)
  case atStart => exact ⟨0, Nat.zero_le _, rfl, OP.nil_ _ _ _, Ext.refl' _⟩
  case round =>
    obtain ⟨k, hk, rfl, hop, hext⟩ := hrel
    have hsz := hext.size
    by_cases hlt : k < cnt ys.length
    · have hlt4 : 4 * k < ys.length := by unfold cnt at hlt; omega
      have hb1 := hb0.ext hext
      have ha1 := ha.ext hext
      have hle := diffTo_le xs ys k
      by_cases hdf : dif xs ys k = true
      · have hstep : diffTo xs ys (k + 1) = diffTo xs ys k ++ [((k : Int), pg ys k)] := by simp [diffTo, hdf]
        have HS := Lib.hid hstep
        clear hstep
        obtain ⟨vs, hown, hreps⟩ := hop
        have hblk := own_block hown
        by_cases hl : xs.length = ys.length
        · have hl1 : ((xs.length : Int) != (ys.length : Int)) = false := by simp [hl]
          have hlt5 : 4 * k < xs.length := by omega
          have he1 : decide (pg xs k = pg ys k) = false := by simpa [dif, hl] using hdf
          clear hl hdf
          go_wp2_with fail
          refine (page_any _ _ _ ys _ hb1 hlt4 hd hy hd').mono ?_
          rintro e w' ⟨⟨A1, d1, rfl, hr1, hd1, hd1'⟩, rfl⟩
          go_wp2_with fail
          refine (page_any _ _ _ xs _ ha1 hlt5 hc hx hc').mono ?_
          rintro e w' ⟨⟨A2, d2, rfl, hr2, hd2, hd2'⟩, rfl⟩
          go_wp2_with fail
          refine (equal_any _ _ _ _ _ _ _ hr2 hr1 (by omega) (by omega)).mono ?_
          rintro e w' ⟨rfl, nq, rfl⟩
          rw [he1]
          clear he1
          go_wp2_with (at_builtin; refine wpList_app ety_page rfl _ _ rfl rfl (hown.alloc _) (A := some ⟨wr.heap.size, 0, none⟩) (m := 1) (c := 1) (news := [.int .i64 k, .slice A1 (pg ys k).length d1]) rfl rfl (RV.new _ _ _) ?c2 ?c4 ?c5 ?_)
          case c2 => simp [Value.oneCell']
          case c4 => omega
          case c5 => simp; omega
          intro v' w1 hown' happ
          have hxa := ((Ext.refl' wr).drewN' nq).alloc' (Obj.cells #[Value.int IntKind.i64 ↑k, Value.slice A1 (pg ys k).length d1] 27)
          have hop1 : OP S w.heap.size w1 v' (diffTo xs ys (k + 1)) := by
            rw [HS.out]
            exact OP.snoc hreps hown' rfl hxa happ ⟨A1, d1, rfl, hd1, by omega, (hr1.into (Into.old _ hblk)).into (Into.app hxa happ)⟩
          have hext1 := hext.app hxa happ hblk
          clear hxa happ hown' hown hreps hblk HS
          go_wp2
          go_roundw
          case rel => exact ⟨k + 1, by omega, by go_num, hop1, hext1⟩
          case measure => simp [intOf]; omega
        · have hl1 : ((xs.length : Int) != (ys.length : Int)) = true := by simp; omega
          clear hl hdf
          go_wp2_with fail
          refine (page_any _ _ _ ys _ hb1 hlt4 hd hy hd').mono ?_
          rintro e w' ⟨⟨A1, d1, rfl, hr1, hd1, hd1'⟩, rfl⟩
          go_wp2_with (at_builtin; refine wpList_app ety_page rfl _ _ rfl rfl (hown.alloc _) (A := some ⟨wr.heap.size, 0, none⟩) (m := 1) (c := 1) (news := [.int .i64 k, .slice A1 (pg ys k).length d1]) rfl rfl (RV.new _ _ _) ?c2 ?c4 ?c5 ?_)
          case c2 => simp [Value.oneCell']
          case c4 => omega
          case c5 => simp; omega
          intro v' w1 hown' happ
          have hxa := (Ext.refl' wr).alloc' (Obj.cells #[Value.int IntKind.i64 ↑k, Value.slice A1 (pg ys k).length d1] 27)
          have hop1 : OP S w.heap.size w1 v' (diffTo xs ys (k + 1)) := by
            rw [HS.out]
            exact OP.snoc hreps hown' rfl hxa happ ⟨A1, d1, rfl, hd1, by omega, (hr1.into (Into.old _ hblk)).into (Into.app hxa happ)⟩
          have hext1 := hext.app hxa happ hblk
          clear hxa happ hown' hown hreps hblk HS
          go_wp2
          go_roundw
          case rel => exact ⟨k + 1, by omega, by go_num, hop1, hext1⟩
          case measure => simp [intOf]; omega
      · have hl : xs.length = ys.length := by simp [dif] at hdf; exact hdf.1
        have he1 : decide (pg xs k = pg ys k) = true := by simp [dif] at hdf; simp [hdf.2]
        have hl1 : ((xs.length : Int) != (ys.length : Int)) = false := by simp [hl]
        have hlt5 : 4 * k < xs.length := by omega
        have hstep : diffTo xs ys (k + 1) = diffTo xs ys k := by simp [diffTo, hdf]
        have HS := Lib.hid hstep
        clear hstep hl hdf
        go_wp2_with fail
        refine (page_any _ _ _ ys _ hb1 hlt4 hd hy hd').mono ?_
        rintro e w' ⟨⟨A1, d1, rfl, hr1, hd1, hd1'⟩, rfl⟩
        go_wp2_with fail
        refine (page_any _ _ _ xs _ ha1 hlt5 hc hx hc').mono ?_
        rintro e w' ⟨⟨A2, d2, rfl, hr2, hd2, hd2'⟩, rfl⟩
        go_wp2_with fail
        refine (equal_any _ _ _ _ _ _ _ hr2 hr1 (by omega) (by omega)).mono ?_
        rintro e w' ⟨rfl, nq, rfl⟩
        rw [he1]
        clear he1
        go_wp2
        go_roundw
        case rel => exact ⟨k + 1, by omega, by go_num, by rw [HS.out]; exact hop, hext.drewN' nq⟩
        case measure => simp [intOf]; omega
    · obtain rfl : k = cnt ys.length := by omega
      obtain ⟨L, c', rfl, h1, h2, h3⟩ := hop.shut hS
      go_wp2
      go_ret
      exact ⟨⟨L, c', rfl, h1, h2, h3⟩, hext⟩
end Go.Proofs.Ytmjmdncdmmcmaaa
