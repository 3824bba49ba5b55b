/- rollbacknetref07.Compose: what it returns. Conditions: the lists of pages lie in memory, of at most 1000 pages. -/
import Derived.Test.YtmjmdncdmmcmaaaImgG
import Derived.Test.YtmjmdncdmmcmaaaLine
namespace Go.Proofs.Ytmjmdncdmmcmaaa
open Go.RowKit
set_option linter.unusedVariables false
set_option linter.unusedSimpArgs false
set_option linter.unusedSectionVars false

theorem own_facts {w : World} {e : TypeId} {sz n c : Nat} {A : Option Addr} {vs : List Value} (ho : w.ownsRow 0 e sz (.slice A n c) n vs) : (A = none → n = 0 ∧ c = 0) ∧ (∀ a, A = some a → a.spot = none) ∧ n ≤ c ∧ c ≤ 9223372036854775807 := by
  obtain ⟨A', c', hv, h1, h2⟩ := own_form ho
  injection hv with e1 _ e2
  subst e1 e2
  refine ⟨?_, ?_, h1, h2⟩
  · rintro rfl
    rcases ho.2 with ⟨hv, h0⟩ | ⟨g, cap, cur, hv, _⟩
    · injection hv with _ _ h3; exact ⟨h0, h3⟩
    · injection hv with h3; cases h3
  · rintro a rfl
    rcases ho.2 with ⟨hv, h0⟩ | ⟨g, cap, cur, hv, _⟩
    · injection hv with h3; cases h3
    · injection hv with h3; injection h3 with h3; rw [h3]
theorem refLoop_yes {l : List Pg} {c : Int → Bool} {out : List Pg} {k : Nat} (h : lastIx l (l.getD k (0, [])).1 l.length = k) (hc : c (l.getD k (0, [])).1 = true) : refLoop l c out (k + 1) = insL (refLoop l c out k) (l.getD k (0, [])) := by
  show refStep l c (refLoop l c out k) k = _
  unfold refStep
  simp only
  rw [if_pos ⟨h, hc⟩]
theorem refLoop_no {l : List Pg} {c : Int → Bool} {out : List Pg} {k : Nat} (h : ¬ (lastIx l (l.getD k (0, [])).1 l.length = k ∧ c (l.getD k (0, [])).1 = true)) : refLoop l c out (k + 1) = refLoop l c out k := by
  show refStep l c (refLoop l c out k) k = _
  unfold refStep
  simp only
  rw [if_neg h]
set_option maxRecDepth 100000 in
set_option maxHeartbeats 3200000 in
theorem rcompose_any {S T : Nat → Prop} {rep : List Value → Pg → Prop} (hR : PgR rep) (A B : Option Addr) (c d : Nat) (xs ys : List Pg) (us vs : List Value) (w0 : World) (hA : RV S w0 A us) (hxs : Reps rep 2 us xs) (hB : RV T w0 B vs) (hys : Reps rep 2 vs ys) (hx : xs.length ≤ 1000) (hy : ys.length ≤ 1000) :
    Calls Try.prog 15 #[.slice A xs.length c, .slice B ys.length d] w0 (RetPg rep w0 (refL xs ys)) := by
  have hS := St.start w0 NoM
  have HP := Lib.hid (And.intro hR (And.intro hA (And.intro hxs (And.intro hB hys))))
  clear hR hA hxs hB hys
  go_enter Try.func15, Try.ntmps15
  go_wp2_with (first | (refine oL ?_; (first | refine sL1 hS rfl rfl rfl ?_ | refine sL2 hS rfl rfl rfl ?_ | refine sL3 hS rfl rfl ?_ | refine sL4 hS rfl rfl ?_ | refine sL5 hS rfl rfl ?_ | refine sL6 hS rfl rfl ?_ | refine sL7 hS rfl rfl ?_)) | fail)
  replace hS := hS.addNil 27 2
  go_loopw [5, 6] (fun s5 s6 wr => ∃ (i n c5 : Nat) (L : Option Addr) (zs : List Value), i ≤ ys.length ∧ n ≤ i ∧ s6 = .int .i64 i ∧ s5 = .slice L n c5 ∧ Hid (Reps rep 2 zs (refLoop ys (fun _ => true) [] i) ∧ (refLoop ys (fun _ => true) [] i).length = n) ∧ St w0 NoM [row (.slice L n c5) 27 2 n zs] wr) (fun _ s6 _ => ys.length - (intOf s6).toNat)
  case atStart => exact ⟨0, 0, 0, none, [], by omega, by omega, rfl, rfl, Lib.hid ⟨rfl, rfl⟩, hS⟩
  case round =>
    clear hS
    obtain ⟨i, n, c5, L, zs, hi, hni, rfl, rfl, HZ, hS⟩ := hrel
    by_cases hlt : i < ys.length
    · have hlt' : (i : Int) < ys.length := by omega
      obtain ⟨b, o, v, hBB, _, hc0, hcs, hv, hrep⟩ := pg_cells HP.out.1 HP.out.2.2.2.1 HP.out.2.2.2.2 hlt
      have HRV := Lib.hid HP.out.2.2.2.1
      subst hBB
      have HRP := Lib.hid hrep
      clear hrep
      have HY := Lib.hid (refLoop_yes (l := ys) (c := fun _ => true) (out := []) (k := i))
      have HNO := Lib.hid (refLoop_no (l := ys) (c := fun _ => true) (out := []) (k := i))
      by_cases hl : lastIx ys (ys.getD i (0, [])).1 ys.length = i
      · have HN := Lib.hid (HY.out hl rfl)
        have HLX := Lib.hid hl
        have he2 : ((i : Int) == (i : Int)) = true := by simp
        clear hl HY HNO
        generalize ys.getD i (0, []) = p at *
        have HOF := Lib.hid (own_facts (hS.rowOk (v := .slice L n c5)))
        have HZL := Lib.hid (show zs.length = n * 2 by rw [HZ.out.1.length, HZ.out.2])
        go_wp2_with (first | (go_at_call 44; refine (last_any HP.out.1 _ _ ys vs p.1 _ (HRV.out.into (hS.into fun _ _ => id)) HP.out.2.2.2.2 (by omega)).mono ?_; rintro e w ⟨rfl, hx1⟩; replace hS := hS.ext hx1; clear hx1; rw [HLX.out]) | (go_at_call 45; obtain ⟨hz1, hz2⟩ := HZ.out; subst hz2; refine (insert_any HP.out.1 _ _ (refLoop ys (fun _ => true) [] i) zs p v _ hS.rv hz1 HRP.out hv (by omega) HOF.out.1 HOF.out.2.1 HOF.out.2.2.1 HOF.out.2.2.2).mono ?_; rintro e w ⟨vs2, hz3, L2, c2, rfl, ho2, hx2⟩; replace hS := hS.addRow ho2 hx2; clear ho2 hx2) | (refine oL ?_; (first | refine sL1 hS rfl rfl rfl ?_ | refine sL2 hS rfl rfl rfl ?_ | refine sL3 hS rfl rfl ?_ | refine sL4 hS rfl rfl ?_ | refine sL5 hS rfl rfl ?_ | refine sL6 hS rfl rfl ?_ | refine sL7 hS rfl rfl ?_)) | fail)
        go_roundw
        case measure => simp [intOf]; try omega
        refine ⟨i + 1, _, c2, L2, vs2, by omega, by rw [insL_length]; omega, by go_num, rfl, Lib.hid ?_, hS.re⟩
        rw [HN.out]
        exact ⟨hz3, rfl⟩
      · have HN := Lib.hid (HNO.out (fun h => hl h.1))
        have he2 : (lastIx ys (ys.getD i (0, [])).1 ys.length == (i : Int)) = false := beq_eq_false_iff_ne.2 hl
        clear hl HY HNO
        generalize ys.getD i (0, []) = p at *
        go_wp2_with (first | (go_at_call 44; refine (last_any HP.out.1 _ _ ys vs p.1 _ (HRV.out.into (hS.into fun _ _ => id)) HP.out.2.2.2.2 (by omega)).mono ?_; rintro e w ⟨rfl, hx1⟩; replace hS := hS.ext hx1; clear hx1) | (refine oL ?_; (first | refine sL1 hS rfl rfl rfl ?_ | refine sL2 hS rfl rfl rfl ?_ | refine sL3 hS rfl rfl ?_ | refine sL4 hS rfl rfl ?_ | refine sL5 hS rfl rfl ?_ | refine sL6 hS rfl rfl ?_ | refine sL7 hS rfl rfl ?_)) | fail)
        go_roundw
        case measure => simp [intOf]; try omega
        refine ⟨i + 1, n, c5, L, zs, by omega, by omega, by go_num, rfl, Lib.hid ?_, hS⟩
        rw [HN.out]
        exact HZ.out
    · have HE := Lib.hid (show i = ys.length by omega)
      rw [show i = ys.length from HE.out] at HZ
      have hlt' : ¬ (i : Int) < ys.length := by omega
      clear hlt
      go_wp2_with (first | (refine oL ?_; (first | refine sL1 hS rfl rfl rfl ?_ | refine sL2 hS rfl rfl rfl ?_ | refine sL3 hS rfl rfl ?_ | refine sL4 hS rfl rfl ?_ | refine sL5 hS rfl rfl ?_ | refine sL6 hS rfl rfl ?_ | refine sL7 hS rfl rfl ?_)) | fail)
      generalize hO : refLoop ys (fun _ => true) [] ys.length = out at *
      have HO := Lib.hid hO
      clear hO
      go_loopw [5, 7] (fun s5 s7 wr => ∃ (i n c5 : Nat) (L : Option Addr) (zs : List Value), i ≤ xs.length ∧ n ≤ i + ys.length ∧ s7 = .int .i64 i ∧ s5 = .slice L n c5 ∧ Hid (Reps rep 2 zs (refLoop xs (fun k => (lastP ys k).isNone) out i) ∧ (refLoop xs (fun k => (lastP ys k).isNone) out i).length = n) ∧ St w0 NoM [row (.slice L n c5) 27 2 n zs] wr) (fun _ s7 _ => xs.length - (intOf s7).toNat)
      case atStart => exact ⟨0, n, c5, L, zs, by omega, by omega, rfl, rfl, HZ, hS⟩
      case round =>
        clear hS HZ
        obtain ⟨i, n, c5, L, zs, hi, hni, rfl, rfl, HZ, hS⟩ := hrel
        by_cases hlt : i < xs.length
        · have hlt' : (i : Int) < xs.length := by omega
          obtain ⟨b, o, v, hBB, _, hc0, hcs, hv, hrep⟩ := pg_cells HP.out.1 HP.out.2.1 HP.out.2.2.1 hlt
          have HRV := Lib.hid HP.out.2.1
          subst hBB
          have HRP := Lib.hid hrep
          clear hrep
          have HY := Lib.hid (refLoop_yes (l := xs) (c := fun k => (lastP ys k).isNone) (out := out) (k := i))
          have HNO := Lib.hid (refLoop_no (l := xs) (c := fun k => (lastP ys k).isNone) (out := out) (k := i))
          have HNG := Lib.hid (lastIx_neg ys (xs.getD i (0, [])).1)
          have HOF := Lib.hid (own_facts (hS.rowOk (v := .slice L n c5)))
          by_cases hl : lastIx xs (xs.getD i (0, [])).1 xs.length = i
          · have HLX := Lib.hid hl
            have he2 : ((i : Int) == (i : Int)) = true := by simp
            by_cases hc : lastIx ys (xs.getD i (0, [])).1 ys.length < 0
            · have HN := Lib.hid (HY.out hl (by rw [HNG.out.1 hc]; rfl))
              have dk : decide (lastIx ys (xs.getD i (0, [])).1 ys.length < 0) = true := decide_eq_true hc
              clear hl HY HNO hc HNG
              generalize xs.getD i (0, []) = p at *
              go_upto_region 10 with (first | (refine oL ?_; (first | refine sL1 hS rfl rfl rfl ?_ | refine sL2 hS rfl rfl rfl ?_ | refine sL3 hS rfl rfl ?_ | refine sL4 hS rfl rfl ?_ | refine sL5 hS rfl rfl ?_ | refine sL6 hS rfl rfl ?_ | refine sL7 hS rfl rfl ?_)) | fail)
              refine lR ?_
              refine lM rfl rfl ?_
              (try simp only [Act.put, nA, nB, nC])
              refine lM rfl rfl ?_
              (try simp only [Act.put, nA, nB, nC])
              refine lM rfl rfl ?_
              (try simp only [Act.put, nA, nB, nC])
              refine lP rfl ?_
              (try simp only [Act.put, nA, nB, nC])
              refine lP rfl ?_
              (try simp only [Act.put, nA, nB, nC])
              (refine ⟨?_⟩; ((first | refine sL1 hS rfl rfl rfl ?_ | refine sL2 hS rfl rfl rfl ?_ | refine sL3 hS rfl rfl ?_ | refine sL4 hS rfl rfl ?_ | refine sL5 hS rfl rfl ?_ | refine sL6 hS rfl rfl ?_ | refine sL7 hS rfl rfl ?_)); refine WL.h ?_)
              (try simp only [Act.put, nA, nB, nC])
              (refine ⟨?_⟩; (refine st_call rfl (by kernel_rfl) rfl ?_; go_at_call 44; refine (last_any HP.out.1 _ _ xs us p.1 _ (HRV.out.into (hS.into fun _ _ => id)) HP.out.2.2.1 (by omega)).mono ?_; rintro e w ⟨rfl, hx1⟩; replace hS := hS.ext hx1; clear hx1; rw [HLX.out]); refine WL.h ?_)
              (try simp only [Act.put, nA, nB, nC])
              refine lM rfl rfl ?_
              (try simp only [Act.put, nA, nB, nC])
              refine lP rfl ?_
              (try simp only [Act.put, nA, nB, nC])
              refine lM rfl rfl ?_
              (try simp only [Act.put, nA, nB, nC])
              first | refine lQ rfl ?_ | refine lM rfl rfl ?_ | fail
              (try simp only [Act.put, nA, nB, nC])
              first | refine lQ rfl ?_ | refine lM rfl rfl ?_ | fail
              (try simp only [Act.put, nA, nB, nC])
              first | refine lQ rfl ?_ | refine lM rfl rfl ?_ | fail
              (try simp only [Act.put, nA, nB, nC])
              first | refine lQ rfl ?_ | refine lP rfl ?_ | fail
              (try simp only [Act.put, nA, nB, nC])
              first | refine lQ rfl ?_ | refine lP rfl ?_ | fail
              (try simp only [Act.put, nA, nB, nC])
              first | refine lQ rfl ?_ | (refine ⟨?_⟩; ((first | refine sL1 hS rfl rfl rfl ?_ | refine sL2 hS rfl rfl rfl ?_ | refine sL3 hS rfl rfl ?_ | refine sL4 hS rfl rfl ?_ | refine sL5 hS rfl rfl ?_ | refine sL6 hS rfl rfl ?_ | refine sL7 hS rfl rfl ?_)); refine WL.h ?_) | fail
              (try simp only [Act.put, nA, nB, nC])
              first | refine lQ rfl ?_ | (refine ⟨?_⟩; (refine st_call rfl (by kernel_rfl) rfl ?_; go_at_call 44; refine (last_any HP.out.1 _ _ ys vs p.1 _ (HP.out.2.2.2.1.into (hS.into fun _ _ => id)) HP.out.2.2.2.2 (by omega)).mono ?_; rintro e w ⟨rfl, hx1⟩; replace hS := hS.ext hx1; clear hx1); refine WL.h ?_) | fail
              (try simp only [Act.put, nA, nB, nC])
              first | refine lQ rfl ?_ | refine lP rfl ?_ | fail
              (try simp only [Act.put, nA, nB, nC])
              refine lP rfl ?_
              (try simp only [Act.put, nA, nB, nC])
              refine lZ ?_
              go_wp2_with (first | (go_at_call 45; obtain ⟨hz1, hz2⟩ := HZ.out; subst hz2; refine (insert_any HP.out.1 _ _ (refLoop xs (fun k => (lastP ys k).isNone) out i) zs p v _ hS.rv hz1 HRP.out hv (by omega) HOF.out.1 HOF.out.2.1 HOF.out.2.2.1 HOF.out.2.2.2).mono ?_; rintro e w ⟨vs2, hz3, L2, c2, rfl, ho2, hx2⟩; replace hS := hS.addRow ho2 hx2; clear ho2 hx2) | (refine oL ?_; (first | refine sL1 hS rfl rfl rfl ?_ | refine sL2 hS rfl rfl rfl ?_ | refine sL3 hS rfl rfl ?_ | refine sL4 hS rfl rfl ?_ | refine sL5 hS rfl rfl ?_ | refine sL6 hS rfl rfl ?_ | refine sL7 hS rfl rfl ?_)) | fail)
              go_roundw
              case measure => simp [intOf]; try omega
              refine ⟨i + 1, _, c2, L2, vs2, by omega, by rw [insL_length]; omega, by go_num, rfl, Lib.hid ?_, hS.re⟩
              rw [HN.out]
              exact ⟨hz3, rfl⟩
            · have HN := Lib.hid (HNO.out (fun h => hc (HNG.out.2 (by simpa using h.2))))
              have dk : decide (lastIx ys (xs.getD i (0, [])).1 ys.length < 0) = false := decide_eq_false hc
              clear hl HY HNO hc HNG
              generalize xs.getD i (0, []) = p at *
              go_upto_region 10 with (first | (refine oL ?_; (first | refine sL1 hS rfl rfl rfl ?_ | refine sL2 hS rfl rfl rfl ?_ | refine sL3 hS rfl rfl ?_ | refine sL4 hS rfl rfl ?_ | refine sL5 hS rfl rfl ?_ | refine sL6 hS rfl rfl ?_ | refine sL7 hS rfl rfl ?_)) | fail)
              refine lR ?_
              refine lM rfl rfl ?_
              (try simp only [Act.put, nA, nB, nC])
              refine lM rfl rfl ?_
              (try simp only [Act.put, nA, nB, nC])
              refine lM rfl rfl ?_
              (try simp only [Act.put, nA, nB, nC])
              refine lP rfl ?_
              (try simp only [Act.put, nA, nB, nC])
              refine lP rfl ?_
              (try simp only [Act.put, nA, nB, nC])
              (refine ⟨?_⟩; ((first | refine sL1 hS rfl rfl rfl ?_ | refine sL2 hS rfl rfl rfl ?_ | refine sL3 hS rfl rfl ?_ | refine sL4 hS rfl rfl ?_ | refine sL5 hS rfl rfl ?_ | refine sL6 hS rfl rfl ?_ | refine sL7 hS rfl rfl ?_)); refine WL.h ?_)
              (try simp only [Act.put, nA, nB, nC])
              (refine ⟨?_⟩; (refine st_call rfl (by kernel_rfl) rfl ?_; go_at_call 44; refine (last_any HP.out.1 _ _ xs us p.1 _ (HRV.out.into (hS.into fun _ _ => id)) HP.out.2.2.1 (by omega)).mono ?_; rintro e w ⟨rfl, hx1⟩; replace hS := hS.ext hx1; clear hx1; rw [HLX.out]); refine WL.h ?_)
              (try simp only [Act.put, nA, nB, nC])
              refine lM rfl rfl ?_
              (try simp only [Act.put, nA, nB, nC])
              refine lP rfl ?_
              (try simp only [Act.put, nA, nB, nC])
              refine lM rfl rfl ?_
              (try simp only [Act.put, nA, nB, nC])
              first | refine lQ rfl ?_ | refine lM rfl rfl ?_ | fail
              (try simp only [Act.put, nA, nB, nC])
              first | refine lQ rfl ?_ | refine lM rfl rfl ?_ | fail
              (try simp only [Act.put, nA, nB, nC])
              first | refine lQ rfl ?_ | refine lM rfl rfl ?_ | fail
              (try simp only [Act.put, nA, nB, nC])
              first | refine lQ rfl ?_ | refine lP rfl ?_ | fail
              (try simp only [Act.put, nA, nB, nC])
              first | refine lQ rfl ?_ | refine lP rfl ?_ | fail
              (try simp only [Act.put, nA, nB, nC])
              first | refine lQ rfl ?_ | (refine ⟨?_⟩; ((first | refine sL1 hS rfl rfl rfl ?_ | refine sL2 hS rfl rfl rfl ?_ | refine sL3 hS rfl rfl ?_ | refine sL4 hS rfl rfl ?_ | refine sL5 hS rfl rfl ?_ | refine sL6 hS rfl rfl ?_ | refine sL7 hS rfl rfl ?_)); refine WL.h ?_) | fail
              (try simp only [Act.put, nA, nB, nC])
              first | refine lQ rfl ?_ | (refine ⟨?_⟩; (refine st_call rfl (by kernel_rfl) rfl ?_; go_at_call 44; refine (last_any HP.out.1 _ _ ys vs p.1 _ (HP.out.2.2.2.1.into (hS.into fun _ _ => id)) HP.out.2.2.2.2 (by omega)).mono ?_; rintro e w ⟨rfl, hx1⟩; replace hS := hS.ext hx1; clear hx1); refine WL.h ?_) | fail
              (try simp only [Act.put, nA, nB, nC])
              first | refine lQ rfl ?_ | refine lP rfl ?_ | fail
              (try simp only [Act.put, nA, nB, nC])
              refine lP rfl ?_
              (try simp only [Act.put, nA, nB, nC])
              refine lZ ?_
              go_wp2_with (first | (refine oL ?_; (first | refine sL1 hS rfl rfl rfl ?_ | refine sL2 hS rfl rfl rfl ?_ | refine sL3 hS rfl rfl ?_ | refine sL4 hS rfl rfl ?_ | refine sL5 hS rfl rfl ?_ | refine sL6 hS rfl rfl ?_ | refine sL7 hS rfl rfl ?_)) | fail)
              go_roundw
              case measure => simp [intOf]; try omega
              refine ⟨i + 1, n, c5, L, zs, by omega, by omega, by go_num, rfl, Lib.hid ?_, hS⟩
              rw [HN.out]
              exact HZ.out
          · have HN := Lib.hid (HNO.out (fun h => hl h.1))
            have he2 : (lastIx xs (xs.getD i (0, [])).1 xs.length == (i : Int)) = false := beq_eq_false_iff_ne.2 hl
            clear hl HY HNO HNG
            generalize xs.getD i (0, []) = p at *
            generalize hLL : lastIx xs p.1 xs.length = ll at *
            have HLX := Lib.hid hLL
            clear hLL
            go_upto_region 10 with (first | (refine oL ?_; (first | refine sL1 hS rfl rfl rfl ?_ | refine sL2 hS rfl rfl rfl ?_ | refine sL3 hS rfl rfl ?_ | refine sL4 hS rfl rfl ?_ | refine sL5 hS rfl rfl ?_ | refine sL6 hS rfl rfl ?_ | refine sL7 hS rfl rfl ?_)) | fail)
            refine lR ?_
            refine lM rfl rfl ?_
            (try simp only [Act.put, nA, nB, nC])
            refine lM rfl rfl ?_
            (try simp only [Act.put, nA, nB, nC])
            refine lM rfl rfl ?_
            (try simp only [Act.put, nA, nB, nC])
            refine lP rfl ?_
            (try simp only [Act.put, nA, nB, nC])
            refine lP rfl ?_
            (try simp only [Act.put, nA, nB, nC])
            (refine ⟨?_⟩; ((first | refine sL1 hS rfl rfl rfl ?_ | refine sL2 hS rfl rfl rfl ?_ | refine sL3 hS rfl rfl ?_ | refine sL4 hS rfl rfl ?_ | refine sL5 hS rfl rfl ?_ | refine sL6 hS rfl rfl ?_ | refine sL7 hS rfl rfl ?_)); refine WL.h ?_)
            (try simp only [Act.put, nA, nB, nC])
            (refine ⟨?_⟩; (refine st_call rfl (by kernel_rfl) rfl ?_; go_at_call 44; refine (last_any HP.out.1 _ _ xs us p.1 _ (HRV.out.into (hS.into fun _ _ => id)) HP.out.2.2.1 (by omega)).mono ?_; rintro e w ⟨rfl, hx1⟩; replace hS := hS.ext hx1; clear hx1; rw [HLX.out]); refine WL.h ?_)
            (try simp only [Act.put, nA, nB, nC])
            refine lM rfl rfl ?_
            (try simp only [Act.put, nA, nB, nC])
            refine lP rfl ?_
            (try simp only [Act.put, nA, nB, nC])
            refine lM rfl rfl ?_
            (try simp only [Act.put, nA, nB, nC])
            first | refine lQ rfl ?_ | refine lM rfl rfl ?_ | fail
            (try simp only [Act.put, nA, nB, nC])
            first | refine lQ rfl ?_ | refine lM rfl rfl ?_ | fail
            (try simp only [Act.put, nA, nB, nC])
            first | refine lQ rfl ?_ | refine lM rfl rfl ?_ | fail
            (try simp only [Act.put, nA, nB, nC])
            first | refine lQ rfl ?_ | refine lP rfl ?_ | fail
            (try simp only [Act.put, nA, nB, nC])
            first | refine lQ rfl ?_ | refine lP rfl ?_ | fail
            (try simp only [Act.put, nA, nB, nC])
            first | refine lQ rfl ?_ | (refine ⟨?_⟩; ((first | refine sL1 hS rfl rfl rfl ?_ | refine sL2 hS rfl rfl rfl ?_ | refine sL3 hS rfl rfl ?_ | refine sL4 hS rfl rfl ?_ | refine sL5 hS rfl rfl ?_ | refine sL6 hS rfl rfl ?_ | refine sL7 hS rfl rfl ?_)); refine WL.h ?_) | fail
            (try simp only [Act.put, nA, nB, nC])
            first | refine lQ rfl ?_ | (refine ⟨?_⟩; (refine st_call rfl (by kernel_rfl) rfl ?_; go_at_call 44; refine (last_any HP.out.1 _ _ ys vs p.1 _ (HP.out.2.2.2.1.into (hS.into fun _ _ => id)) HP.out.2.2.2.2 (by omega)).mono ?_; rintro e w ⟨rfl, hx1⟩; replace hS := hS.ext hx1; clear hx1); refine WL.h ?_) | fail
            (try simp only [Act.put, nA, nB, nC])
            first | refine lQ rfl ?_ | refine lP rfl ?_ | fail
            (try simp only [Act.put, nA, nB, nC])
            refine lP rfl ?_
            (try simp only [Act.put, nA, nB, nC])
            refine lZ ?_
            go_wp2_with (first | (refine oL ?_; (first | refine sL1 hS rfl rfl rfl ?_ | refine sL2 hS rfl rfl rfl ?_ | refine sL3 hS rfl rfl ?_ | refine sL4 hS rfl rfl ?_ | refine sL5 hS rfl rfl ?_ | refine sL6 hS rfl rfl ?_ | refine sL7 hS rfl rfl ?_)) | fail)
            go_roundw
            case measure => simp [intOf]; try omega
            refine ⟨i + 1, n, c5, L, zs, by omega, by omega, by go_num, rfl, Lib.hid ?_, hS⟩
            rw [HN.out]
            exact HZ.out
        · have HE := Lib.hid (show i = xs.length by omega)
          rw [show i = xs.length from HE.out] at HZ
          have hlt' : ¬ (i : Int) < xs.length := by omega
          clear hlt
          go_wp2_with (first | (refine oL ?_; (first | refine sL1 hS rfl rfl rfl ?_ | refine sL2 hS rfl rfl rfl ?_ | refine sL3 hS rfl rfl ?_ | refine sL4 hS rfl rfl ?_ | refine sL5 hS rfl rfl ?_ | refine sL6 hS rfl rfl ?_ | refine sL7 hS rfl rfl ?_)) | fail)
          go_ret
          have hRL : refLoop xs (fun k => (lastP ys k).isNone) out xs.length = refL xs ys := by rw [← HO.out]; rfl
          rw [hRL] at HZ
          refine ⟨zs, HZ.out.1, ?_⟩
          have := hS.ret (L := L) (c := c5) (k := n) rfl
          rw [HZ.out.2]
          exact this
end Go.Proofs.Ytmjmdncdmmcmaaa
