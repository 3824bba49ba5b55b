/- CollectBases returns true for every input. No condition. -/
import Derived.Test.YtombhhhaidmpeaaRkeep
import Derived.Test.YtombhhhaidmpeaaIntsC
import Derived.Test.YtombhhhaidmpeaaLawRows
import Derived.Test.YtombhhhaidmpeaaCollectKeeps
namespace Go.Proofs.Ytombhhhaidmpeaa
open Go.RowKit
set_option linter.unusedVariables false
set_option linter.unusedSimpArgs false
set_option linter.unusedSectionVars false

/-- one more number, if it ascends -/
def ascStep (acc : List Int) (k : Int) : List Int := if acc.length = 0 ∨ nth acc (acc.length - 1) < k then acc ++ [k] else acc
def ascL (l : List Int) : List Int := l.foldl ascStep []
theorem asc_last {l : List Int} (h : l.Pairwise (· < ·)) {a : Int} (ha : a ∈ l) : a ≤ nth l (l.length - 1) := by
  obtain ⟨i, hi, rfl⟩ := List.getElem_of_mem ha
  rw [nth_eq (show l.length - 1 < l.length by omega)]
  rcases Nat.lt_or_ge i (l.length - 1) with h1 | h1
  · exact Int.le_of_lt (List.pairwise_iff_getElem.1 h i (l.length - 1) hi (by omega) h1)
  · have : i = l.length - 1 := by omega
    subst this; exact Int.le_refl _
theorem ascStep_ok {acc : List Int} {k : Int} (h : acc.Pairwise (· < ·)) : (ascStep acc k).Pairwise (· < ·) ∧ (ascStep acc k).length ≤ acc.length + 1 := by
  unfold ascStep
  split
  · rename_i hc
    refine ⟨List.pairwise_append.2 ⟨h, by simp, fun a ha b hb => ?_⟩, by simp⟩
    rw [List.mem_singleton.1 hb]
    rcases hc with hc | hc
    · have := List.eq_nil_of_length_eq_zero hc
      rw [this] at ha; simp at ha
    · have := asc_last h ha; omega
  · exact ⟨h, by omega⟩
theorem asc_ok : ∀ (l acc : List Int), acc.Pairwise (· < ·) → (l.foldl ascStep acc).Pairwise (· < ·) ∧ (l.foldl ascStep acc).length ≤ acc.length + l.length
  | [], acc, h => ⟨h, by simp⟩
  | k :: l, acc, h => by
    obtain ⟨h1, h2⟩ := ascStep_ok (k := k) h
    obtain ⟨h3, h4⟩ := asc_ok l _ h1
    exact ⟨h3, by rw [List.length_cons, List.foldl_cons]; omega⟩
theorem asc_take {l : List Int} {j : Nat} (hj : j < l.length) : (l.take (j + 1)).foldl ascStep [] = ascStep ((l.take j).foldl ascStep []) (nth l j) := by
  rw [List.take_succ_eq_append_getElem hj, List.foldl_append, nth_eq hj]; rfl
/-- how long all lists are together, up to one -/
def totTo (ls : List (List Int)) (m i : Nat) : Nat := ls.length + m + ((ls.take i).map List.length).sum
theorem totTo_succ {ls : List (List Int)} {m i : Nat} (h : i < ls.length) : totTo ls m (i + 1) = totTo ls m i + (rowOf ls i).length := by
  rw [totTo, totTo, List.take_succ_eq_append_getElem h, List.map_append, List.sum_append, rowOf_eq h]
  simp; omega
theorem sum_mem : ∀ {l : List Nat} {a : Nat}, a ∈ l → a ≤ l.sum
  | [], a, h => by simp at h
  | x :: l, a, h => by
    rw [List.sum_cons]
    rcases List.mem_cons.1 h with rfl | h
    · omega
    · have := sum_mem h; omega
theorem totTo_row {ls : List (List Int)} {m : Nat} (h : totTo ls m ls.length ≤ 100) : ls.length ≤ 100 ∧ m ≤ 100 ∧ ∀ l ∈ ls, l.length ≤ 100 := by
  unfold totTo at h
  rw [List.take_of_length_le (Nat.le_refl _)] at h
  refine ⟨by omega, by omega, fun l hl => ?_⟩
  have := sum_mem (List.mem_map.2 ⟨l, hl, rfl⟩ : l.length ∈ ls.map List.length)
  omega
set_option maxRecDepth 100000 in
set_option maxHeartbeats 6400000 in
theorem collectBases_any (K : Option Addr) (kc : Nat) (ls : List (List Int)) (V : Option Addr) (g : Nat) (vs : List Int) (C : Option Addr) (f : Nat) (bs : List Int) (w0 : World) (hls : RR (fun b => b < w0.heap.size) w0 K ls) (hll : ls.length ≤ 140737488355328) (hlr : ∀ l ∈ ls, l.length ≤ 140737488355328) (hvs : RI (fun b => b < w0.heap.size) w0 V vs) (hvl : vs.length ≤ 140737488355328) (hbs : RV (fun b => b < w0.heap.size) w0 C (bytes bs)) (hf : bs.length ≤ f) (hf' : f ≤ 9223372036854775807) (hby : ∀ b ∈ bs, 0 ≤ b ∧ b ≤ 255) :
    Calls Try.prog 5 #[.slice K ls.length kc, .slice V vs.length g, .slice C bs.length f] w0 fun e w' => e = .returned (.bool true) ∧ Ext w0 w' := by
  have hS := St.start w0 NoM
  have HB := Lib.hid (And.intro hby (RV.sub (S' := Froz w0 NoM) hbs (fun k hk => ⟨hk, id⟩)))
  have HLR := Lib.hid hlr
  have HT0 := Lib.hid (show totTo ls vs.length 0 = ls.length + vs.length by simp [totTo])
  clear hby hbs hlr
  go_enter Try.func5, Try.ntmps5
  go_wp2_with (first | (refine oL ?_; (first | refine sL1 hS rfl rfl rfl ?_ | refine sL2 hS rfl rfl rfl ?_ | refine sL3 hS rfl rfl ?_ | refine sL4 hS rfl rfl ?_ | refine sL5 hS rfl rfl ?_ | refine sL6 hS rfl rfl ?_ | refine sL7 hS rfl rfl ?_)) | (refine oS ?_; ((first | refine sS1 hS rfl rfl rfl ?_ | refine sS2 hS rfl rfl rfl ?_ | refine sS3 hS rfl rfl rfl ?_ | refine sS4 hS rfl rfl rfl ?_ | refine sS5 hS rfl rfl rfl ?_); clear hS; intro w hS)) | ((first | refine sN1 hS rfl ?_ | refine sM1 hS rfl rfl rfl ?_); clear hS; first | ((fail_if_success guard_hyp g1); intro g1 w hS) | ((fail_if_success guard_hyp g2); intro g2 w hS) | ((fail_if_success guard_hyp g3); intro g3 w hS) | ((fail_if_success guard_hyp g4); intro g4 w hS) | fail) | fail)
  go_loopw [7, 8] (fun s7 s8 wr => ∃ (i N : Nat), i ≤ ls.length ∧ N ≤ 300000000000000 ∧ s8 = .int .i64 i ∧ s7 = .int .i64 N ∧ Hid (N = totTo ls vs.length i) ∧ St w0 NoM [] wr) (fun _ s8 _ => ls.length - (intOf s8).toNat)
  case atStart => exact ⟨0, ls.length + vs.length, by omega, by omega, rfl, by go_num, Lib.hid HT0.out.symm, hS⟩
  case round =>
    clear hS
    obtain ⟨i, N, hi, hN, rfl, rfl, HN, hS⟩ := hrel
    by_cases hil : i < ls.length
    · have hil' : (i : Int) < ls.length := by omega
      by_cases hn : N ≤ 100
      · have hn' : (N : Int) ≤ 100 := by omega
        obtain ⟨b2, o2, B, cB, rfl, hfc, hB, hcB, hcB'⟩ := hls.fc hil
        have hcc := hfc.c
        have HTS := Lib.hid (totTo_succ (m := vs.length) hil)
        have hrl : (rowOf ls i).length ≤ 140737488355328 := HLR.out _ (by rw [rowOf_eq hil]; exact List.getElem_mem hil)
        clear hfc
        generalize (rowOf ls i).length = m at *
        go_wp2_with (first | (refine oL ?_; (first | refine sL1 hS rfl rfl rfl ?_ | refine sL2 hS rfl rfl rfl ?_ | refine sL3 hS rfl rfl ?_ | refine sL4 hS rfl rfl ?_ | refine sL5 hS rfl rfl ?_ | refine sL6 hS rfl rfl ?_ | refine sL7 hS rfl rfl ?_)) | (refine oS ?_; ((first | refine sS1 hS rfl rfl rfl ?_ | refine sS2 hS rfl rfl rfl ?_ | refine sS3 hS rfl rfl rfl ?_ | refine sS4 hS rfl rfl rfl ?_ | refine sS5 hS rfl rfl rfl ?_); clear hS; intro w hS)) | ((first | refine sN1 hS rfl ?_ | refine sM1 hS rfl rfl rfl ?_); clear hS; first | ((fail_if_success guard_hyp g1); intro g1 w hS) | ((fail_if_success guard_hyp g2); intro g2 w hS) | ((fail_if_success guard_hyp g3); intro g3 w hS) | ((fail_if_success guard_hyp g4); intro g4 w hS) | fail) | fail)
        go_roundw
        case measure => simp [intOf]; omega
        exact ⟨i + 1, N + m, by omega, by omega, by go_num, by go_num, Lib.hid (by rw [HTS.out, HN.out]), hS⟩
      · have hn' : ¬ (N : Int) ≤ 100 := by omega
        have dn : (100 : Int) < (N : Int) := by omega
        go_wp2_with (first | (go_at_call 10; refine (awake36_any _).mono ?_; rintro e w ⟨rfl, hx1⟩; replace hS := hS.ext hx1) | (refine oL ?_; (first | refine sL1 hS rfl rfl rfl ?_ | refine sL2 hS rfl rfl rfl ?_ | refine sL3 hS rfl rfl ?_ | refine sL4 hS rfl rfl ?_ | refine sL5 hS rfl rfl ?_ | refine sL6 hS rfl rfl ?_ | refine sL7 hS rfl rfl ?_)) | (refine oS ?_; ((first | refine sS1 hS rfl rfl rfl ?_ | refine sS2 hS rfl rfl rfl ?_ | refine sS3 hS rfl rfl rfl ?_ | refine sS4 hS rfl rfl rfl ?_ | refine sS5 hS rfl rfl rfl ?_); clear hS; intro w hS)) | ((first | refine sN1 hS rfl ?_ | refine sM1 hS rfl rfl rfl ?_); clear hS; first | ((fail_if_success guard_hyp g1); intro g1 w hS) | ((fail_if_success guard_hyp g2); intro g2 w hS) | ((fail_if_success guard_hyp g3); intro g3 w hS) | ((fail_if_success guard_hyp g4); intro g4 w hS) | fail) | fail)
        go_ret
        exact ⟨by first | rfl | (simp; omega), hS.toExt⟩
    · have HI := Lib.hid (show i = ls.length by omega)
      have hil' : ¬ (i : Int) < ls.length := by omega
      by_cases hn : N ≤ 100
      rotate_left
      · have hn' : ¬ (N : Int) ≤ 100 := by omega
        have dn : (100 : Int) < (N : Int) := by omega
        go_wp2_with (first | (go_at_call 10; refine (awake36_any _).mono ?_; rintro e w ⟨rfl, hx1⟩; replace hS := hS.ext hx1) | (refine oL ?_; (first | refine sL1 hS rfl rfl rfl ?_ | refine sL2 hS rfl rfl rfl ?_ | refine sL3 hS rfl rfl ?_ | refine sL4 hS rfl rfl ?_ | refine sL5 hS rfl rfl ?_ | refine sL6 hS rfl rfl ?_ | refine sL7 hS rfl rfl ?_)) | (refine oS ?_; ((first | refine sS1 hS rfl rfl rfl ?_ | refine sS2 hS rfl rfl rfl ?_ | refine sS3 hS rfl rfl rfl ?_ | refine sS4 hS rfl rfl rfl ?_ | refine sS5 hS rfl rfl rfl ?_); clear hS; intro w hS)) | ((first | refine sN1 hS rfl ?_ | refine sM1 hS rfl rfl rfl ?_); clear hS; first | ((fail_if_success guard_hyp g1); intro g1 w hS) | ((fail_if_success guard_hyp g2); intro g2 w hS) | ((fail_if_success guard_hyp g3); intro g3 w hS) | ((fail_if_success guard_hyp g4); intro g4 w hS) | fail) | fail)
        go_ret
        exact ⟨by first | rfl | (simp; omega), hS.toExt⟩
      have hn' : ¬ (100 : Int) < N := by omega
      have hrow := totTo_row (ls := ls) (m := vs.length) (by rw [← HI.out, ← HN.out]; exact hn)
      have HR := Lib.hid hrow.2.2
      have hl100 := hrow.1
      have hv100 := hrow.2.1
      clear hrow HLR HT0
      go_wp2_with (first | (go_at_call 10; refine (awake36_any _).mono ?_; rintro e w ⟨rfl, hx1⟩; replace hS := hS.ext hx1) | (refine oM ?_; refine st_mkZ (n := ls.length) hS rfl rfl rfl rfl rfl (by omega) ?_; clear hS; intro g4 w hS) | (refine oL ?_; (first | refine sL1 hS rfl rfl rfl ?_ | refine sL2 hS rfl rfl rfl ?_ | refine sL3 hS rfl rfl ?_ | refine sL4 hS rfl rfl ?_ | refine sL5 hS rfl rfl ?_ | refine sL6 hS rfl rfl ?_ | refine sL7 hS rfl rfl ?_)) | (refine oS ?_; ((first | refine sS1 hS rfl rfl rfl ?_ | refine sS2 hS rfl rfl rfl ?_ | refine sS3 hS rfl rfl rfl ?_ | refine sS4 hS rfl rfl rfl ?_ | refine sS5 hS rfl rfl rfl ?_); clear hS; intro w hS)) | ((first | refine sN1 hS rfl ?_ | refine sM1 hS rfl rfl rfl ?_); clear hS; first | ((fail_if_success guard_hyp g1); intro g1 w hS) | ((fail_if_success guard_hyp g2); intro g2 w hS) | ((fail_if_success guard_hyp g3); intro g3 w hS) | ((fail_if_success guard_hyp g4); intro g4 w hS) | fail) | fail)
      replace hS := hS.frozNil
      go_loopw [10, 11] (fun s10 s11 wr => ∃ (q : Nat) (vs1 : List Value) (T1 : Nat → Prop) (u1 : World), q ≤ ls.length ∧ s10 = .int .i64 q ∧ Hid (Reps (repRow T1 u1) 1 vs1 ((ls.take q).map ascL) ∧ vs1.length = q) ∧ St w0 NoM [row (.slice (some ⟨g4, 0, none⟩) ls.length ls.length) 24 1 ls.length (vs1 ++ List.replicate (ls.length - q) nilS), froz T1 u1] wr) (fun s10 _ _ => ls.length - (intOf s10).toNat)
      case atStart => exact ⟨0, [], _, _, by omega, rfl, Lib.hid ⟨rfl, rfl⟩, hS.perm (List.Perm.swap _ _ _)⟩
      case round =>
        clear hS
        obtain ⟨q, vs1, T1, u1, hq, rfl, HW, hS⟩ := hrel
        by_cases hql : q < ls.length
        · have hql' : (q : Int) < ls.length := by omega
          obtain ⟨b2, o2, B, cB, rfl, hfc2, hB, hcB, hcB'⟩ := hls.fc hql
          have hcc2 := hfc2.c
          have hrl : (rowOf ls q).length ≤ 100 := by rw [rowOf_eq hql]; exact HR.out _ (List.getElem_mem hql)
          have HTK := Lib.hid (show (ls.take (q + 1)).map ascL = (ls.take q).map ascL ++ [ascL (rowOf ls q)] by rw [List.take_succ_eq_append_getElem hql, List.map_append, rowOf_eq hql]; rfl)
          rw [show ls.length - q = (ls.length - (q + 1)) + 1 by omega, List.replicate_succ] at hS
          clear hfc2
          generalize rowOf ls q = l at *
          go_wp2_with (first | (refine oL ?_; (first | refine sL1 hS rfl rfl rfl ?_ | refine sL2 hS rfl rfl rfl ?_ | refine sL3 hS rfl rfl ?_ | refine sL4 hS rfl rfl ?_ | refine sL5 hS rfl rfl ?_ | refine sL6 hS rfl rfl ?_ | refine sL7 hS rfl rfl ?_)) | (refine oS ?_; ((first | refine sS1 hS rfl rfl rfl ?_ | refine sS2 hS rfl rfl rfl ?_ | refine sS3 hS rfl rfl rfl ?_ | refine sS4 hS rfl rfl rfl ?_ | refine sS5 hS rfl rfl rfl ?_); clear hS; intro w hS)) | ((first | refine sN1 hS rfl ?_ | refine sM1 hS rfl rfl rfl ?_); clear hS; first | ((fail_if_success guard_hyp g1); intro g1 w hS) | ((fail_if_success guard_hyp g2); intro g2 w hS) | ((fail_if_success guard_hyp g3); intro g3 w hS) | ((fail_if_success guard_hyp g4); intro g4 w hS) | fail) | fail)
          replace hS := hS.addNil 3 1
          go_loopw [11] (fun s11 wr => ∃ (j c : Nat) (L : Option Addr) (ys : List Int), j ≤ l.length ∧ ys.length ≤ j ∧ capOk ys.length c ∧ s11 = .int .i64 j ∧ Hid (ys = (l.take j).foldl ascStep []) ∧ St w0 NoM [irow 3 L c ys, row (.slice (some ⟨g4, 0, none⟩) ls.length ls.length) 24 1 ls.length (vs1 ++ .slice L ys.length c :: List.replicate (ls.length - (q + 1)) nilS), froz T1 u1] wr) (fun s11 _ => l.length - (intOf s11).toNat)
          case atStart => exact ⟨0, 0, none, [], by omega, by simp, by simp [capOk], rfl, Lib.hid (by simp), hS⟩
          case round =>
            clear hS
            obtain ⟨j, c, L, ys, hj, hyl, hcc, rfl, HY, hS⟩ := hrel
            by_cases hjl : j < l.length
            · have hjl' : (j : Int) < l.length := by omega
              obtain ⟨b4, o4, rfl, _, hf4⟩ := hB.atNS hjl
              have HF := Lib.hid (asc_take hjl)
              have HST := Lib.hid (show ascStep ys (nth l j) = if ys.length = 0 ∨ nth ys (ys.length - 1) < nth l j then ys ++ [nth l j] else ys from rfl)
              have hcv : (vs1 ++ Value.slice L ys.length c :: List.replicate (ls.length - (q + 1)) nilS)[q]? = some (.slice L ys.length c) := mid_get HW.out.2
              have hvl2 : q < (vs1 ++ Value.slice L ys.length c :: List.replicate (ls.length - (q + 1)) nilS).length := by rw [List.length_append, List.length_cons, HW.out.2]; omega
              generalize nth l j = k at *
              by_cases hy0 : ys.length = 0
              · have HN := Lib.hid (show (l.take (j + 1)).foldl ascStep [] = ys ++ [k] by rw [HF.out, ← HY.out, HST.out, if_pos (.inl hy0)])
                have HN := Lib.hid HN.out.symm
                have e0 : ((ys.length : Int) == 0) = true := by simp [hy0]
                go_wp2_with (first | (refine oL ?_; (first | refine sL1 hS rfl rfl rfl ?_ | refine sL2 hS rfl rfl rfl ?_ | refine sL3 hS rfl rfl ?_ | refine sL4 hS rfl rfl ?_ | refine sL5 hS rfl rfl ?_ | refine sL6 hS rfl rfl ?_ | refine sL7 hS rfl rfl ?_)) | (refine oS ?_; ((first | refine sS1 hS rfl rfl rfl ?_ | refine sS2 hS rfl rfl rfl ?_ | refine sS3 hS rfl rfl rfl ?_ | refine sS4 hS rfl rfl rfl ?_ | refine sS5 hS rfl rfl rfl ?_); clear hS; intro w hS)) | ((first | refine sN1 hS rfl ?_ | refine sM1 hS rfl rfl rfl ?_); clear hS; first | ((fail_if_success guard_hyp g1); intro g1 w hS) | ((fail_if_success guard_hyp g2); intro g2 w hS) | ((fail_if_success guard_hyp g3); intro g3 w hS) | ((fail_if_success guard_hyp g4); intro g4 w hS) | fail) | fail)
                refine dr_start0 []  hS (by kernel_rfl) rfl ?_; clear hS; intro w hS
                refine dM hS 0 rfl rfl rfl ?_
                (try simp only [Act.put, nA, nB, nC])
                refine dM hS 1 rfl rfl rfl ?_
                (try simp only [Act.put, nA, nB, nC])
                refine dP hS 2 rfl rfl ?_
                (try simp only [Act.put, nA, nB, nC])
                first | refine dL1 hS 3 rfl rfl rfl rfl ?_ | refine dL2 hS 3 rfl rfl rfl rfl ?_ | refine dL3 hS 3 rfl rfl rfl ?_ | refine dL4 hS 3 rfl rfl rfl ?_ | refine dL5 hS 3 rfl rfl rfl ?_ | refine dL6 hS 3 rfl rfl rfl ?_ | refine dL7 hS 3 rfl rfl rfl ?_
                (try simp only [Act.put, nA, nB, nC])
                refine dP hS 4 rfl rfl ?_
                (try simp only [Act.put, nA, nB, nC])
                refine dP hS 5 rfl rfl ?_
                (try simp only [Act.put, nA, nB, nC])
                refine dM hS 6 rfl rfl rfl ?_
                (try simp only [Act.put, nA, nB, nC])
                first | refine dM hS 7 rfl rfl rfl ?_ | refine dQ hS 7 rfl rfl ?_
                (try simp only [Act.put, nA, nB, nC])
                first | refine dM hS 8 rfl rfl rfl ?_ | refine dQ hS 8 rfl rfl ?_
                (try simp only [Act.put, nA, nB, nC])
                first | refine dP hS 9 rfl rfl ?_ | refine dQ hS 9 rfl rfl ?_
                (try simp only [Act.put, nA, nB, nC])
                first | refine dL1 hS 10 rfl rfl rfl rfl ?_ | refine dL2 hS 10 rfl rfl rfl rfl ?_ | refine dL3 hS 10 rfl rfl rfl ?_ | refine dL4 hS 10 rfl rfl rfl ?_ | refine dL5 hS 10 rfl rfl rfl ?_ | refine dL6 hS 10 rfl rfl rfl ?_ | refine dL7 hS 10 rfl rfl rfl ?_ | refine dQ hS 10 rfl rfl ?_
                (try simp only [Act.put, nA, nB, nC])
                first | refine dM hS 11 rfl rfl rfl ?_ | refine dQ hS 11 rfl rfl ?_
                (try simp only [Act.put, nA, nB, nC])
                first | refine dP hS 12 rfl rfl ?_ | refine dQ hS 12 rfl rfl ?_
                (try simp only [Act.put, nA, nB, nC])
                first | refine dL1 hS 13 rfl rfl rfl rfl ?_ | refine dL2 hS 13 rfl rfl rfl rfl ?_ | refine dL3 hS 13 rfl rfl rfl ?_ | refine dL4 hS 13 rfl rfl rfl ?_ | refine dL5 hS 13 rfl rfl rfl ?_ | refine dL6 hS 13 rfl rfl rfl ?_ | refine dL7 hS 13 rfl rfl rfl ?_ | refine dQ hS 13 rfl rfl ?_
                (try simp only [Act.put, nA, nB, nC])
                first | refine dM hS 14 rfl rfl rfl ?_ | refine dQ hS 14 rfl rfl ?_
                (try simp only [Act.put, nA, nB, nC])
                first | refine dM hS 15 rfl rfl rfl ?_ | refine dQ hS 15 rfl rfl ?_
                (try simp only [Act.put, nA, nB, nC])
                first | refine dP hS 16 rfl rfl ?_ | refine dQ hS 16 rfl rfl ?_
                (try simp only [Act.put, nA, nB, nC])
                first | refine dL1 hS 17 rfl rfl rfl rfl ?_ | refine dL2 hS 17 rfl rfl rfl rfl ?_ | refine dL3 hS 17 rfl rfl rfl ?_ | refine dL4 hS 17 rfl rfl rfl ?_ | refine dL5 hS 17 rfl rfl rfl ?_ | refine dL6 hS 17 rfl rfl rfl ?_ | refine dL7 hS 17 rfl rfl rfl ?_ | refine dQ hS 17 rfl rfl ?_
                (try simp only [Act.put, nA, nB, nC])
                first | refine dM hS 18 rfl rfl rfl ?_ | refine dQ hS 18 rfl rfl ?_
                (try simp only [Act.put, nA, nB, nC])
                first | refine dM hS 19 rfl rfl rfl ?_ | refine dQ hS 19 rfl rfl ?_
                (try simp only [Act.put, nA, nB, nC])
                first | refine dP hS 20 rfl rfl ?_ | refine dQ hS 20 rfl rfl ?_
                (try simp only [Act.put, nA, nB, nC])
                first | refine dL1 hS 21 rfl rfl rfl rfl ?_ | refine dL2 hS 21 rfl rfl rfl rfl ?_ | refine dL3 hS 21 rfl rfl rfl ?_ | refine dL4 hS 21 rfl rfl rfl ?_ | refine dL5 hS 21 rfl rfl rfl ?_ | refine dL6 hS 21 rfl rfl rfl ?_ | refine dL7 hS 21 rfl rfl rfl ?_ | refine dQ hS 21 rfl rfl ?_
                (try simp only [Act.put, nA, nB, nC])
                first | refine dP hS 22 rfl rfl ?_ | refine dQ hS 22 rfl rfl ?_
                (try simp only [Act.put, nA, nB, nC])
                first | refine dP hS 23 rfl rfl ?_ | refine dQ hS 23 rfl rfl ?_
                (try simp only [Act.put, nA, nB, nC])
                first | refine dP hS 24 rfl rfl ?_ | refine dQ hS 24 rfl rfl ?_
                (try simp only [Act.put, nA, nB, nC])
                first | refine dL1 hS 25 rfl rfl rfl rfl ?_ | refine dL2 hS 25 rfl rfl rfl rfl ?_ | refine dL3 hS 25 rfl rfl rfl ?_ | refine dL4 hS 25 rfl rfl rfl ?_ | refine dL5 hS 25 rfl rfl rfl ?_ | refine dL6 hS 25 rfl rfl rfl ?_ | refine dL7 hS 25 rfl rfl rfl ?_ | refine dQ hS 25 rfl rfl ?_
                (try simp only [Act.put, nA, nB, nC])
                first | refine dP hS 26 rfl rfl ?_ | refine dQ hS 26 rfl rfl ?_
                (try simp only [Act.put, nA, nB, nC])
                refine dP hS 27 rfl rfl ?_
                (try simp only [Act.put, nA, nB, nC])
                refine dr_done (by kernel_rfl) ?_
                go_wp2_with (first | (refine oL ?_; (first | refine sL1 hS rfl rfl rfl ?_ | refine sL2 hS rfl rfl rfl ?_ | refine sL3 hS rfl rfl ?_ | refine sL4 hS rfl rfl ?_ | refine sL5 hS rfl rfl ?_ | refine sL6 hS rfl rfl ?_ | refine sL7 hS rfl rfl ?_)) | (refine oS ?_; ((first | refine sS1 hS rfl rfl rfl ?_ | refine sS2 hS rfl rfl rfl ?_ | refine sS3 hS rfl rfl rfl ?_ | refine sS4 hS rfl rfl rfl ?_ | refine sS5 hS rfl rfl rfl ?_); clear hS; intro w hS)) | ((first | refine sN1 hS rfl ?_ | refine sM1 hS rfl rfl rfl ?_); clear hS; first | ((fail_if_success guard_hyp g1); intro g1 w hS) | ((fail_if_success guard_hyp g2); intro g2 w hS) | ((fail_if_success guard_hyp g3); intro g3 w hS) | ((fail_if_success guard_hyp g4); intro g4 w hS) | fail) | fail)
                clear e0
                refine dr_start2 [16] 0 0 hS (by kernel_rfl) rfl ?_; clear hS; intro w hS
                refine dM hS 0 rfl rfl rfl ?_
                (try simp only [Act.put, nA, nB, nC])
                refine dM hS 1 rfl rfl rfl ?_
                (try simp only [Act.put, nA, nB, nC])
                refine dM hS 2 rfl rfl rfl ?_
                (try simp only [Act.put, nA, nB, nC])
                refine dM hS 3 rfl rfl rfl ?_
                (try simp only [Act.put, nA, nB, nC])
                refine dP hS 4 rfl rfl ?_
                (try simp only [Act.put, nA, nB, nC])
                refine dM hS 6 rfl rfl rfl ?_
                (try simp only [Act.put, nA, nB, nC])
                refine dM hS 7 rfl rfl rfl ?_
                (try simp only [Act.put, nA, nB, nC])
                refine dP hS 8 rfl rfl ?_
                (try simp only [Act.put, nA, nB, nC])
                first | refine dL1 hS 9 rfl rfl rfl rfl ?_ | refine dL2 hS 9 rfl rfl rfl rfl ?_ | refine dL3 hS 9 rfl rfl rfl ?_ | refine dL4 hS 9 rfl rfl rfl ?_ | refine dL5 hS 9 rfl rfl rfl ?_ | refine dL6 hS 9 rfl rfl rfl ?_ | refine dL7 hS 9 rfl rfl rfl ?_
                (try simp only [Act.put, nA, nB, nC])
                refine dM hS 10 rfl rfl rfl ?_
                (try simp only [Act.put, nA, nB, nC])
                refine dP hS 11 rfl rfl ?_
                (try simp only [Act.put, nA, nB, nC])
                first | refine dL1 hS 12 rfl rfl rfl rfl ?_ | refine dL2 hS 12 rfl rfl rfl rfl ?_ | refine dL3 hS 12 rfl rfl rfl ?_ | refine dL4 hS 12 rfl rfl rfl ?_ | refine dL5 hS 12 rfl rfl rfl ?_ | refine dL6 hS 12 rfl rfl rfl ?_ | refine dL7 hS 12 rfl rfl rfl ?_
                (try simp only [Act.put, nA, nB, nC])
                refine dr_two 5 13 (by kernel_rfl) rfl rfl ?_ ?_
                (first | refine sL1 hS rfl rfl rfl ?_ | refine sL2 hS rfl rfl rfl ?_ | refine sL3 hS rfl rfl ?_ | refine sL4 hS rfl rfl ?_ | refine sL5 hS rfl rfl ?_ | refine sL6 hS rfl rfl ?_ | refine sL7 hS rfl rfl ?_)
                (try simp only [Act.put, nA, nB, nC])
                refine dr_end hS ?_
                refine dr_one 13 (by kernel_rfl) rfl ?_
                ((first | refine sC0 hS rfl ?_ | refine sC1 hS rfl rfl ?_ | refine sC2 hS rfl rfl ?_ | refine sC3 hS rfl rfl rfl ?_ | refine sC4 hS rfl rfl rfl ?_); clear hS; first | ((fail_if_success guard_hyp g1); intro g1 w hS) | ((fail_if_success guard_hyp g2); intro g2 w hS) | ((fail_if_success guard_hyp g3); intro g3 w hS) | ((fail_if_success guard_hyp g4); intro g4 w hS) | fail)
                (try simp only [Act.put, nA, nB, nC])
                refine dr_end hS ?_
                refine dr_one 14 (by kernel_rfl) rfl ?_
                ((first | refine sP1 hS rfl rfl rfl ?_ | refine sP2 hS rfl rfl rfl ?_ | refine sP3 hS rfl rfl rfl ?_); clear hS; first | ((fail_if_success guard_hyp L1); intro L1 cl1 w hL1 hM1 hS) | ((fail_if_success guard_hyp L2); intro L2 cl2 w hL2 hM2 hS) | fail)
                (try simp only [Act.put, nA, nB, nC])
                refine dr_end hS ?_
                refine dP hS 15 rfl rfl ?_
                (try simp only [Act.put, nA, nB, nC])
                refine dr_one 16 (by kernel_rfl) rfl ?_
                ((first | refine sS1 hS rfl rfl rfl ?_ | refine sS2 hS rfl rfl rfl ?_ | refine sS3 hS rfl rfl rfl ?_ | refine sS4 hS rfl rfl rfl ?_ | refine sS5 hS rfl rfl rfl ?_); clear hS; intro w hS)
                (try simp only [Act.put, nA, nB, nC])
                refine dr_late (by kernel_rfl) ?_
                refine dr_done (by kernel_rfl) ?_
                rotate_left
                ((first | refine sC0 hS rfl ?_ | refine sC1 hS rfl rfl ?_ | refine sC2 hS rfl rfl ?_ | refine sC3 hS rfl rfl rfl ?_ | refine sC4 hS rfl rfl rfl ?_); clear hS; first | ((fail_if_success guard_hyp g1); intro g1 w hS) | ((fail_if_success guard_hyp g2); intro g2 w hS) | ((fail_if_success guard_hyp g3); intro g3 w hS) | ((fail_if_success guard_hyp g4); intro g4 w hS) | fail)
                (try simp only [Act.put, nA, nB, nC])
                refine dr_end hS ?_
                refine dr_one 5 (by kernel_rfl) rfl ?_
                (first | refine sL1 hS rfl rfl rfl ?_ | refine sL2 hS rfl rfl rfl ?_ | refine sL3 hS rfl rfl ?_ | refine sL4 hS rfl rfl ?_ | refine sL5 hS rfl rfl ?_ | refine sL6 hS rfl rfl ?_ | refine sL7 hS rfl rfl ?_)
                (try simp only [Act.put, nA, nB, nC])
                refine dr_end hS ?_
                refine dr_one 14 (by kernel_rfl) rfl ?_
                ((first | refine sP1 hS rfl rfl rfl ?_ | refine sP2 hS rfl rfl rfl ?_ | refine sP3 hS rfl rfl rfl ?_); clear hS; first | ((fail_if_success guard_hyp L1); intro L1 cl1 w hL1 hM1 hS) | ((fail_if_success guard_hyp L2); intro L2 cl2 w hL2 hM2 hS) | fail)
                (try simp only [Act.put, nA, nB, nC])
                refine dr_end hS ?_
                refine dP hS 15 rfl rfl ?_
                (try simp only [Act.put, nA, nB, nC])
                refine dr_one 16 (by kernel_rfl) rfl ?_
                ((first | refine sS1 hS rfl rfl rfl ?_ | refine sS2 hS rfl rfl rfl ?_ | refine sS3 hS rfl rfl rfl ?_ | refine sS4 hS rfl rfl rfl ?_ | refine sS5 hS rfl rfl rfl ?_); clear hS; intro w hS)
                (try simp only [Act.put, nA, nB, nC])
                refine dr_late (by kernel_rfl) ?_
                refine dr_done (by kernel_rfl) ?_
                rotate_left
                all_goals
                  go_wp2_with (first | (refine oL ?_; (first | refine sL1 hS rfl rfl rfl ?_ | refine sL2 hS rfl rfl rfl ?_ | refine sL3 hS rfl rfl ?_ | refine sL4 hS rfl rfl ?_ | refine sL5 hS rfl rfl ?_ | refine sL6 hS rfl rfl ?_ | refine sL7 hS rfl rfl ?_)) | (refine oS ?_; ((first | refine sS1 hS rfl rfl rfl ?_ | refine sS2 hS rfl rfl rfl ?_ | refine sS3 hS rfl rfl rfl ?_ | refine sS4 hS rfl rfl rfl ?_ | refine sS5 hS rfl rfl rfl ?_); clear hS; intro w hS)) | ((first | refine sN1 hS rfl ?_ | refine sM1 hS rfl rfl rfl ?_); clear hS; first | ((fail_if_success guard_hyp g1); intro g1 w hS) | ((fail_if_success guard_hyp g2); intro g2 w hS) | ((fail_if_success guard_hyp g3); intro g3 w hS) | ((fail_if_success guard_hyp g4); intro g4 w hS) | fail) | fail)
                  rw [mid_set HW.out.2] at hS
                  try rw [show ys.length + 1 = (ys ++ [k]).length by simp] at hS
                  go_roundw
                  case measure => simp [intOf]; omega
                  exact ⟨j + 1, cl1, L1, ys ++ [k], by omega, by rw [List.length_append, List.length_singleton]; omega, ⟨by simpa using hL1, hM1⟩, by go_num, HN, hS.re⟩
              · have e0 : ((ys.length : Int) == 0) = false := by rw [beq_eq_false_iff_ne]; omega
                obtain ⟨gL, rfl⟩ := hS.rowSome L (by omega)
                have hlz : ((ys.length : Int) - 1) = ((ys.length - 1 : Nat) : Int) := by omega
                have hll2 : ys.length - 1 < ys.length := by omega
                have hll3 : ((ys.length - 1 : Nat) : Int) < ys.length := by omega
                have hlst := ints_nth (l := ys) (k := ys.length - 1) hll2
                generalize nth ys (ys.length - 1) = a at *
                by_cases hak : a < k
                · have dk : decide (a < k) = true := decide_eq_true hak
                  have HN := Lib.hid (show ys ++ [k] = (l.take (j + 1)).foldl ascStep [] by rw [HF.out, ← HY.out, HST.out, if_pos (.inr hak)])
                  clear hak
                  go_wp2_with (first | (refine oL ?_; (first | refine sL1 hS rfl rfl rfl ?_ | refine sL2 hS rfl rfl rfl ?_ | refine sL3 hS rfl rfl ?_ | refine sL4 hS rfl rfl ?_ | refine sL5 hS rfl rfl ?_ | refine sL6 hS rfl rfl ?_ | refine sL7 hS rfl rfl ?_)) | (refine oS ?_; ((first | refine sS1 hS rfl rfl rfl ?_ | refine sS2 hS rfl rfl rfl ?_ | refine sS3 hS rfl rfl rfl ?_ | refine sS4 hS rfl rfl rfl ?_ | refine sS5 hS rfl rfl rfl ?_); clear hS; intro w hS)) | ((first | refine sN1 hS rfl ?_ | refine sM1 hS rfl rfl rfl ?_); clear hS; first | ((fail_if_success guard_hyp g1); intro g1 w hS) | ((fail_if_success guard_hyp g2); intro g2 w hS) | ((fail_if_success guard_hyp g3); intro g3 w hS) | ((fail_if_success guard_hyp g4); intro g4 w hS) | fail) | fail)
                  refine dr_start0 []  hS (by kernel_rfl) rfl ?_; clear hS; intro w hS
                  refine dM hS 0 rfl rfl rfl ?_
                  (try simp only [Act.put, nA, nB, nC])
                  refine dM hS 1 rfl rfl rfl ?_
                  (try simp only [Act.put, nA, nB, nC])
                  refine dP hS 2 rfl rfl ?_
                  (try simp only [Act.put, nA, nB, nC])
                  first | refine dL1 hS 3 rfl rfl rfl rfl ?_ | refine dL2 hS 3 rfl rfl rfl rfl ?_ | refine dL3 hS 3 rfl rfl rfl ?_ | refine dL4 hS 3 rfl rfl rfl ?_ | refine dL5 hS 3 rfl rfl rfl ?_ | refine dL6 hS 3 rfl rfl rfl ?_ | refine dL7 hS 3 rfl rfl rfl ?_
                  (try simp only [Act.put, nA, nB, nC])
                  refine dP hS 4 rfl rfl ?_
                  (try simp only [Act.put, nA, nB, nC])
                  refine dP hS 5 rfl rfl ?_
                  (try simp only [Act.put, nA, nB, nC])
                  refine dM hS 6 rfl rfl rfl ?_
                  (try simp only [Act.put, nA, nB, nC])
                  first | refine dM hS 7 rfl rfl rfl ?_ | refine dQ hS 7 rfl rfl ?_
                  (try simp only [Act.put, nA, nB, nC])
                  first | refine dM hS 8 rfl rfl rfl ?_ | refine dQ hS 8 rfl rfl ?_
                  (try simp only [Act.put, nA, nB, nC])
                  first | refine dP hS 9 rfl rfl ?_ | refine dQ hS 9 rfl rfl ?_
                  (try simp only [Act.put, nA, nB, nC])
                  first | refine dL1 hS 10 rfl rfl rfl rfl ?_ | refine dL2 hS 10 rfl rfl rfl rfl ?_ | refine dL3 hS 10 rfl rfl rfl ?_ | refine dL4 hS 10 rfl rfl rfl ?_ | refine dL5 hS 10 rfl rfl rfl ?_ | refine dL6 hS 10 rfl rfl rfl ?_ | refine dL7 hS 10 rfl rfl rfl ?_ | refine dQ hS 10 rfl rfl ?_
                  (try simp only [Act.put, nA, nB, nC])
                  first | refine dM hS 11 rfl rfl rfl ?_ | refine dQ hS 11 rfl rfl ?_
                  (try simp only [Act.put, nA, nB, nC])
                  first | refine dP hS 12 rfl rfl ?_ | refine dQ hS 12 rfl rfl ?_
                  (try simp only [Act.put, nA, nB, nC])
                  first | refine dL1 hS 13 rfl rfl rfl rfl ?_ | refine dL2 hS 13 rfl rfl rfl rfl ?_ | refine dL3 hS 13 rfl rfl rfl ?_ | refine dL4 hS 13 rfl rfl rfl ?_ | refine dL5 hS 13 rfl rfl rfl ?_ | refine dL6 hS 13 rfl rfl rfl ?_ | refine dL7 hS 13 rfl rfl rfl ?_ | refine dQ hS 13 rfl rfl ?_
                  (try simp only [Act.put, nA, nB, nC])
                  first | refine dM hS 14 rfl rfl rfl ?_ | refine dQ hS 14 rfl rfl ?_
                  (try simp only [Act.put, nA, nB, nC])
                  first | refine dM hS 15 rfl rfl rfl ?_ | refine dQ hS 15 rfl rfl ?_
                  (try simp only [Act.put, nA, nB, nC])
                  first | refine dP hS 16 rfl rfl ?_ | refine dQ hS 16 rfl rfl ?_
                  (try simp only [Act.put, nA, nB, nC])
                  first | refine dL1 hS 17 rfl rfl rfl rfl ?_ | refine dL2 hS 17 rfl rfl rfl rfl ?_ | refine dL3 hS 17 rfl rfl rfl ?_ | refine dL4 hS 17 rfl rfl rfl ?_ | refine dL5 hS 17 rfl rfl rfl ?_ | refine dL6 hS 17 rfl rfl rfl ?_ | refine dL7 hS 17 rfl rfl rfl ?_ | refine dQ hS 17 rfl rfl ?_
                  (try simp only [Act.put, nA, nB, nC])
                  first | refine dM hS 18 rfl rfl rfl ?_ | refine dQ hS 18 rfl rfl ?_
                  (try simp only [Act.put, nA, nB, nC])
                  first | refine dM hS 19 rfl rfl rfl ?_ | refine dQ hS 19 rfl rfl ?_
                  (try simp only [Act.put, nA, nB, nC])
                  first | refine dP hS 20 rfl rfl ?_ | refine dQ hS 20 rfl rfl ?_
                  (try simp only [Act.put, nA, nB, nC])
                  first | refine dL1 hS 21 rfl rfl rfl rfl ?_ | refine dL2 hS 21 rfl rfl rfl rfl ?_ | refine dL3 hS 21 rfl rfl rfl ?_ | refine dL4 hS 21 rfl rfl rfl ?_ | refine dL5 hS 21 rfl rfl rfl ?_ | refine dL6 hS 21 rfl rfl rfl ?_ | refine dL7 hS 21 rfl rfl rfl ?_ | refine dQ hS 21 rfl rfl ?_
                  (try simp only [Act.put, nA, nB, nC])
                  first | refine dP hS 22 rfl rfl ?_ | refine dQ hS 22 rfl rfl ?_
                  (try simp only [Act.put, nA, nB, nC])
                  first | refine dP hS 23 rfl rfl ?_ | refine dQ hS 23 rfl rfl ?_
                  (try simp only [Act.put, nA, nB, nC])
                  first | refine dP hS 24 rfl rfl ?_ | refine dQ hS 24 rfl rfl ?_
                  (try simp only [Act.put, nA, nB, nC])
                  first | refine dL1 hS 25 rfl rfl rfl rfl ?_ | refine dL2 hS 25 rfl rfl rfl rfl ?_ | refine dL3 hS 25 rfl rfl rfl ?_ | refine dL4 hS 25 rfl rfl rfl ?_ | refine dL5 hS 25 rfl rfl rfl ?_ | refine dL6 hS 25 rfl rfl rfl ?_ | refine dL7 hS 25 rfl rfl rfl ?_ | refine dQ hS 25 rfl rfl ?_
                  (try simp only [Act.put, nA, nB, nC])
                  first | refine dP hS 26 rfl rfl ?_ | refine dQ hS 26 rfl rfl ?_
                  (try simp only [Act.put, nA, nB, nC])
                  refine dP hS 27 rfl rfl ?_
                  (try simp only [Act.put, nA, nB, nC])
                  refine dr_done (by kernel_rfl) ?_
                  go_wp2_with (first | (refine oL ?_; (first | refine sL1 hS rfl rfl rfl ?_ | refine sL2 hS rfl rfl rfl ?_ | refine sL3 hS rfl rfl ?_ | refine sL4 hS rfl rfl ?_ | refine sL5 hS rfl rfl ?_ | refine sL6 hS rfl rfl ?_ | refine sL7 hS rfl rfl ?_)) | (refine oS ?_; ((first | refine sS1 hS rfl rfl rfl ?_ | refine sS2 hS rfl rfl rfl ?_ | refine sS3 hS rfl rfl rfl ?_ | refine sS4 hS rfl rfl rfl ?_ | refine sS5 hS rfl rfl rfl ?_); clear hS; intro w hS)) | ((first | refine sN1 hS rfl ?_ | refine sM1 hS rfl rfl rfl ?_); clear hS; first | ((fail_if_success guard_hyp g1); intro g1 w hS) | ((fail_if_success guard_hyp g2); intro g2 w hS) | ((fail_if_success guard_hyp g3); intro g3 w hS) | ((fail_if_success guard_hyp g4); intro g4 w hS) | fail) | fail)
                  clear e0 hlz
                  refine dr_start2 [16] 0 0 hS (by kernel_rfl) rfl ?_; clear hS; intro w hS
                  refine dM hS 0 rfl rfl rfl ?_
                  (try simp only [Act.put, nA, nB, nC])
                  refine dM hS 1 rfl rfl rfl ?_
                  (try simp only [Act.put, nA, nB, nC])
                  refine dM hS 2 rfl rfl rfl ?_
                  (try simp only [Act.put, nA, nB, nC])
                  refine dM hS 3 rfl rfl rfl ?_
                  (try simp only [Act.put, nA, nB, nC])
                  refine dP hS 4 rfl rfl ?_
                  (try simp only [Act.put, nA, nB, nC])
                  refine dM hS 6 rfl rfl rfl ?_
                  (try simp only [Act.put, nA, nB, nC])
                  refine dM hS 7 rfl rfl rfl ?_
                  (try simp only [Act.put, nA, nB, nC])
                  refine dP hS 8 rfl rfl ?_
                  (try simp only [Act.put, nA, nB, nC])
                  first | refine dL1 hS 9 rfl rfl rfl rfl ?_ | refine dL2 hS 9 rfl rfl rfl rfl ?_ | refine dL3 hS 9 rfl rfl rfl ?_ | refine dL4 hS 9 rfl rfl rfl ?_ | refine dL5 hS 9 rfl rfl rfl ?_ | refine dL6 hS 9 rfl rfl rfl ?_ | refine dL7 hS 9 rfl rfl rfl ?_
                  (try simp only [Act.put, nA, nB, nC])
                  refine dM hS 10 rfl rfl rfl ?_
                  (try simp only [Act.put, nA, nB, nC])
                  refine dP hS 11 rfl rfl ?_
                  (try simp only [Act.put, nA, nB, nC])
                  first | refine dL1 hS 12 rfl rfl rfl rfl ?_ | refine dL2 hS 12 rfl rfl rfl rfl ?_ | refine dL3 hS 12 rfl rfl rfl ?_ | refine dL4 hS 12 rfl rfl rfl ?_ | refine dL5 hS 12 rfl rfl rfl ?_ | refine dL6 hS 12 rfl rfl rfl ?_ | refine dL7 hS 12 rfl rfl rfl ?_
                  (try simp only [Act.put, nA, nB, nC])
                  refine dr_two 5 13 (by kernel_rfl) rfl rfl ?_ ?_
                  (first | refine sL1 hS rfl rfl rfl ?_ | refine sL2 hS rfl rfl rfl ?_ | refine sL3 hS rfl rfl ?_ | refine sL4 hS rfl rfl ?_ | refine sL5 hS rfl rfl ?_ | refine sL6 hS rfl rfl ?_ | refine sL7 hS rfl rfl ?_)
                  (try simp only [Act.put, nA, nB, nC])
                  refine dr_end hS ?_
                  refine dr_one 13 (by kernel_rfl) rfl ?_
                  ((first | refine sC0 hS rfl ?_ | refine sC1 hS rfl rfl ?_ | refine sC2 hS rfl rfl ?_ | refine sC3 hS rfl rfl rfl ?_ | refine sC4 hS rfl rfl rfl ?_); clear hS; first | ((fail_if_success guard_hyp g1); intro g1 w hS) | ((fail_if_success guard_hyp g2); intro g2 w hS) | ((fail_if_success guard_hyp g3); intro g3 w hS) | ((fail_if_success guard_hyp g4); intro g4 w hS) | fail)
                  (try simp only [Act.put, nA, nB, nC])
                  refine dr_end hS ?_
                  refine dr_one 14 (by kernel_rfl) rfl ?_
                  ((first | refine sP1 hS rfl rfl rfl ?_ | refine sP2 hS rfl rfl rfl ?_ | refine sP3 hS rfl rfl rfl ?_); clear hS; first | ((fail_if_success guard_hyp L1); intro L1 cl1 w hL1 hM1 hS) | ((fail_if_success guard_hyp L2); intro L2 cl2 w hL2 hM2 hS) | fail)
                  (try simp only [Act.put, nA, nB, nC])
                  refine dr_end hS ?_
                  refine dP hS 15 rfl rfl ?_
                  (try simp only [Act.put, nA, nB, nC])
                  refine dr_one 16 (by kernel_rfl) rfl ?_
                  ((first | refine sS1 hS rfl rfl rfl ?_ | refine sS2 hS rfl rfl rfl ?_ | refine sS3 hS rfl rfl rfl ?_ | refine sS4 hS rfl rfl rfl ?_ | refine sS5 hS rfl rfl rfl ?_); clear hS; intro w hS)
                  (try simp only [Act.put, nA, nB, nC])
                  refine dr_late (by kernel_rfl) ?_
                  refine dr_done (by kernel_rfl) ?_
                  rotate_left
                  ((first | refine sC0 hS rfl ?_ | refine sC1 hS rfl rfl ?_ | refine sC2 hS rfl rfl ?_ | refine sC3 hS rfl rfl rfl ?_ | refine sC4 hS rfl rfl rfl ?_); clear hS; first | ((fail_if_success guard_hyp g1); intro g1 w hS) | ((fail_if_success guard_hyp g2); intro g2 w hS) | ((fail_if_success guard_hyp g3); intro g3 w hS) | ((fail_if_success guard_hyp g4); intro g4 w hS) | fail)
                  (try simp only [Act.put, nA, nB, nC])
                  refine dr_end hS ?_
                  refine dr_one 5 (by kernel_rfl) rfl ?_
                  (first | refine sL1 hS rfl rfl rfl ?_ | refine sL2 hS rfl rfl rfl ?_ | refine sL3 hS rfl rfl ?_ | refine sL4 hS rfl rfl ?_ | refine sL5 hS rfl rfl ?_ | refine sL6 hS rfl rfl ?_ | refine sL7 hS rfl rfl ?_)
                  (try simp only [Act.put, nA, nB, nC])
                  refine dr_end hS ?_
                  refine dr_one 14 (by kernel_rfl) rfl ?_
                  ((first | refine sP1 hS rfl rfl rfl ?_ | refine sP2 hS rfl rfl rfl ?_ | refine sP3 hS rfl rfl rfl ?_); clear hS; first | ((fail_if_success guard_hyp L1); intro L1 cl1 w hL1 hM1 hS) | ((fail_if_success guard_hyp L2); intro L2 cl2 w hL2 hM2 hS) | fail)
                  (try simp only [Act.put, nA, nB, nC])
                  refine dr_end hS ?_
                  refine dP hS 15 rfl rfl ?_
                  (try simp only [Act.put, nA, nB, nC])
                  refine dr_one 16 (by kernel_rfl) rfl ?_
                  ((first | refine sS1 hS rfl rfl rfl ?_ | refine sS2 hS rfl rfl rfl ?_ | refine sS3 hS rfl rfl rfl ?_ | refine sS4 hS rfl rfl rfl ?_ | refine sS5 hS rfl rfl rfl ?_); clear hS; intro w hS)
                  (try simp only [Act.put, nA, nB, nC])
                  refine dr_late (by kernel_rfl) ?_
                  refine dr_done (by kernel_rfl) ?_
                  rotate_left
                  all_goals
                    go_wp2_with (first | (refine oL ?_; (first | refine sL1 hS rfl rfl rfl ?_ | refine sL2 hS rfl rfl rfl ?_ | refine sL3 hS rfl rfl ?_ | refine sL4 hS rfl rfl ?_ | refine sL5 hS rfl rfl ?_ | refine sL6 hS rfl rfl ?_ | refine sL7 hS rfl rfl ?_)) | (refine oS ?_; ((first | refine sS1 hS rfl rfl rfl ?_ | refine sS2 hS rfl rfl rfl ?_ | refine sS3 hS rfl rfl rfl ?_ | refine sS4 hS rfl rfl rfl ?_ | refine sS5 hS rfl rfl rfl ?_); clear hS; intro w hS)) | ((first | refine sN1 hS rfl ?_ | refine sM1 hS rfl rfl rfl ?_); clear hS; first | ((fail_if_success guard_hyp g1); intro g1 w hS) | ((fail_if_success guard_hyp g2); intro g2 w hS) | ((fail_if_success guard_hyp g3); intro g3 w hS) | ((fail_if_success guard_hyp g4); intro g4 w hS) | fail) | fail)
                    rw [mid_set HW.out.2] at hS
                    try rw [show ys.length + 1 = (ys ++ [k]).length by simp] at hS
                    go_roundw
                    case measure => simp [intOf]; omega
                    exact ⟨j + 1, cl1, L1, ys ++ [k], by omega, by rw [List.length_append, List.length_singleton]; omega, ⟨by simpa using hL1, hM1⟩, by go_num, HN, hS.re⟩
                · have dk : decide (a < k) = false := decide_eq_false hak
                  have HN := Lib.hid (show ys = (l.take (j + 1)).foldl ascStep [] by rw [HF.out, ← HY.out, HST.out, if_neg (by rintro (h | h); exact hy0 h; exact hak h)])
                  clear hak
                  go_wp2_with (first | (refine oL ?_; (first | refine sL1 hS rfl rfl rfl ?_ | refine sL2 hS rfl rfl rfl ?_ | refine sL3 hS rfl rfl ?_ | refine sL4 hS rfl rfl ?_ | refine sL5 hS rfl rfl ?_ | refine sL6 hS rfl rfl ?_ | refine sL7 hS rfl rfl ?_)) | (refine oS ?_; ((first | refine sS1 hS rfl rfl rfl ?_ | refine sS2 hS rfl rfl rfl ?_ | refine sS3 hS rfl rfl rfl ?_ | refine sS4 hS rfl rfl rfl ?_ | refine sS5 hS rfl rfl rfl ?_); clear hS; intro w hS)) | ((first | refine sN1 hS rfl ?_ | refine sM1 hS rfl rfl rfl ?_); clear hS; first | ((fail_if_success guard_hyp g1); intro g1 w hS) | ((fail_if_success guard_hyp g2); intro g2 w hS) | ((fail_if_success guard_hyp g3); intro g3 w hS) | ((fail_if_success guard_hyp g4); intro g4 w hS) | fail) | fail)
                  refine dr_start0 []  hS (by kernel_rfl) rfl ?_; clear hS; intro w hS
                  refine dM hS 0 rfl rfl rfl ?_
                  (try simp only [Act.put, nA, nB, nC])
                  refine dM hS 1 rfl rfl rfl ?_
                  (try simp only [Act.put, nA, nB, nC])
                  refine dP hS 2 rfl rfl ?_
                  (try simp only [Act.put, nA, nB, nC])
                  first | refine dL1 hS 3 rfl rfl rfl rfl ?_ | refine dL2 hS 3 rfl rfl rfl rfl ?_ | refine dL3 hS 3 rfl rfl rfl ?_ | refine dL4 hS 3 rfl rfl rfl ?_ | refine dL5 hS 3 rfl rfl rfl ?_ | refine dL6 hS 3 rfl rfl rfl ?_ | refine dL7 hS 3 rfl rfl rfl ?_
                  (try simp only [Act.put, nA, nB, nC])
                  refine dP hS 4 rfl rfl ?_
                  (try simp only [Act.put, nA, nB, nC])
                  refine dP hS 5 rfl rfl ?_
                  (try simp only [Act.put, nA, nB, nC])
                  refine dM hS 6 rfl rfl rfl ?_
                  (try simp only [Act.put, nA, nB, nC])
                  first | refine dM hS 7 rfl rfl rfl ?_ | refine dQ hS 7 rfl rfl ?_
                  (try simp only [Act.put, nA, nB, nC])
                  first | refine dM hS 8 rfl rfl rfl ?_ | refine dQ hS 8 rfl rfl ?_
                  (try simp only [Act.put, nA, nB, nC])
                  first | refine dP hS 9 rfl rfl ?_ | refine dQ hS 9 rfl rfl ?_
                  (try simp only [Act.put, nA, nB, nC])
                  first | refine dL1 hS 10 rfl rfl rfl rfl ?_ | refine dL2 hS 10 rfl rfl rfl rfl ?_ | refine dL3 hS 10 rfl rfl rfl ?_ | refine dL4 hS 10 rfl rfl rfl ?_ | refine dL5 hS 10 rfl rfl rfl ?_ | refine dL6 hS 10 rfl rfl rfl ?_ | refine dL7 hS 10 rfl rfl rfl ?_ | refine dQ hS 10 rfl rfl ?_
                  (try simp only [Act.put, nA, nB, nC])
                  first | refine dM hS 11 rfl rfl rfl ?_ | refine dQ hS 11 rfl rfl ?_
                  (try simp only [Act.put, nA, nB, nC])
                  first | refine dP hS 12 rfl rfl ?_ | refine dQ hS 12 rfl rfl ?_
                  (try simp only [Act.put, nA, nB, nC])
                  first | refine dL1 hS 13 rfl rfl rfl rfl ?_ | refine dL2 hS 13 rfl rfl rfl rfl ?_ | refine dL3 hS 13 rfl rfl rfl ?_ | refine dL4 hS 13 rfl rfl rfl ?_ | refine dL5 hS 13 rfl rfl rfl ?_ | refine dL6 hS 13 rfl rfl rfl ?_ | refine dL7 hS 13 rfl rfl rfl ?_ | refine dQ hS 13 rfl rfl ?_
                  (try simp only [Act.put, nA, nB, nC])
                  first | refine dM hS 14 rfl rfl rfl ?_ | refine dQ hS 14 rfl rfl ?_
                  (try simp only [Act.put, nA, nB, nC])
                  first | refine dM hS 15 rfl rfl rfl ?_ | refine dQ hS 15 rfl rfl ?_
                  (try simp only [Act.put, nA, nB, nC])
                  first | refine dP hS 16 rfl rfl ?_ | refine dQ hS 16 rfl rfl ?_
                  (try simp only [Act.put, nA, nB, nC])
                  first | refine dL1 hS 17 rfl rfl rfl rfl ?_ | refine dL2 hS 17 rfl rfl rfl rfl ?_ | refine dL3 hS 17 rfl rfl rfl ?_ | refine dL4 hS 17 rfl rfl rfl ?_ | refine dL5 hS 17 rfl rfl rfl ?_ | refine dL6 hS 17 rfl rfl rfl ?_ | refine dL7 hS 17 rfl rfl rfl ?_ | refine dQ hS 17 rfl rfl ?_
                  (try simp only [Act.put, nA, nB, nC])
                  first | refine dM hS 18 rfl rfl rfl ?_ | refine dQ hS 18 rfl rfl ?_
                  (try simp only [Act.put, nA, nB, nC])
                  first | refine dM hS 19 rfl rfl rfl ?_ | refine dQ hS 19 rfl rfl ?_
                  (try simp only [Act.put, nA, nB, nC])
                  first | refine dP hS 20 rfl rfl ?_ | refine dQ hS 20 rfl rfl ?_
                  (try simp only [Act.put, nA, nB, nC])
                  first | refine dL1 hS 21 rfl rfl rfl rfl ?_ | refine dL2 hS 21 rfl rfl rfl rfl ?_ | refine dL3 hS 21 rfl rfl rfl ?_ | refine dL4 hS 21 rfl rfl rfl ?_ | refine dL5 hS 21 rfl rfl rfl ?_ | refine dL6 hS 21 rfl rfl rfl ?_ | refine dL7 hS 21 rfl rfl rfl ?_ | refine dQ hS 21 rfl rfl ?_
                  (try simp only [Act.put, nA, nB, nC])
                  first | refine dP hS 22 rfl rfl ?_ | refine dQ hS 22 rfl rfl ?_
                  (try simp only [Act.put, nA, nB, nC])
                  first | refine dP hS 23 rfl rfl ?_ | refine dQ hS 23 rfl rfl ?_
                  (try simp only [Act.put, nA, nB, nC])
                  first | refine dP hS 24 rfl rfl ?_ | refine dQ hS 24 rfl rfl ?_
                  (try simp only [Act.put, nA, nB, nC])
                  first | refine dL1 hS 25 rfl rfl rfl rfl ?_ | refine dL2 hS 25 rfl rfl rfl rfl ?_ | refine dL3 hS 25 rfl rfl rfl ?_ | refine dL4 hS 25 rfl rfl rfl ?_ | refine dL5 hS 25 rfl rfl rfl ?_ | refine dL6 hS 25 rfl rfl rfl ?_ | refine dL7 hS 25 rfl rfl rfl ?_ | refine dQ hS 25 rfl rfl ?_
                  (try simp only [Act.put, nA, nB, nC])
                  first | refine dP hS 26 rfl rfl ?_ | refine dQ hS 26 rfl rfl ?_
                  (try simp only [Act.put, nA, nB, nC])
                  refine dP hS 27 rfl rfl ?_
                  (try simp only [Act.put, nA, nB, nC])
                  refine dr_done (by kernel_rfl) ?_
                  go_wp2_with (first | (refine oL ?_; (first | refine sL1 hS rfl rfl rfl ?_ | refine sL2 hS rfl rfl rfl ?_ | refine sL3 hS rfl rfl ?_ | refine sL4 hS rfl rfl ?_ | refine sL5 hS rfl rfl ?_ | refine sL6 hS rfl rfl ?_ | refine sL7 hS rfl rfl ?_)) | (refine oS ?_; ((first | refine sS1 hS rfl rfl rfl ?_ | refine sS2 hS rfl rfl rfl ?_ | refine sS3 hS rfl rfl rfl ?_ | refine sS4 hS rfl rfl rfl ?_ | refine sS5 hS rfl rfl rfl ?_); clear hS; intro w hS)) | ((first | refine sN1 hS rfl ?_ | refine sM1 hS rfl rfl rfl ?_); clear hS; first | ((fail_if_success guard_hyp g1); intro g1 w hS) | ((fail_if_success guard_hyp g2); intro g2 w hS) | ((fail_if_success guard_hyp g3); intro g3 w hS) | ((fail_if_success guard_hyp g4); intro g4 w hS) | fail) | fail)
                  go_roundw
                  case measure => simp [intOf]; omega
                  exact ⟨j + 1, c, some ⟨gL, 0, none⟩, ys, by omega, by omega, hcc, by go_num, HN, hS.re⟩
            · have hjl' : ¬ (j : Int) < l.length := by omega
              have HE2 := Lib.hid (show ys = ascL l by
                have h1 := HY.out
                rw [List.take_of_length_le (by omega)] at h1
                exact h1)
              go_wp2_with (first | (refine oL ?_; (first | refine sL1 hS rfl rfl rfl ?_ | refine sL2 hS rfl rfl rfl ?_ | refine sL3 hS rfl rfl ?_ | refine sL4 hS rfl rfl ?_ | refine sL5 hS rfl rfl ?_ | refine sL6 hS rfl rfl ?_ | refine sL7 hS rfl rfl ?_)) | (refine oS ?_; ((first | refine sS1 hS rfl rfl rfl ?_ | refine sS2 hS rfl rfl rfl ?_ | refine sS3 hS rfl rfl rfl ?_ | refine sS4 hS rfl rfl rfl ?_ | refine sS5 hS rfl rfl rfl ?_); clear hS; intro w hS)) | ((first | refine sN1 hS rfl ?_ | refine sM1 hS rfl rfl rfl ?_); clear hS; first | ((fail_if_success guard_hyp g1); intro g1 w hS) | ((fail_if_success guard_hyp g2); intro g2 w hS) | ((fail_if_success guard_hyp g3); intro g3 w hS) | ((fail_if_success guard_hyp g4); intro g4 w hS) | fail) | fail)
              obtain ⟨T2, hS2, hi2, hr2⟩ := St.rowInN hS HW.out.1 rfl hcc
              go_roundw
              case measure => simp [intOf]; omega
              rw [show vs1 ++ Value.slice L ys.length c :: List.replicate (ls.length - (q + 1)) nilS = (vs1 ++ [.slice L ys.length c]) ++ List.replicate (ls.length - (q + 1)) nilS by simp] at hS2
              exact ⟨q + 1, vs1 ++ [.slice L ys.length c], T2, _, by omega, by go_num, Lib.hid ⟨by rw [HTK.out, ← HE2.out]; exact hr2, by simp [HW.out.2]⟩, hS2⟩
        · have hql' : ¬ (q : Int) < ls.length := by omega
          have HQ := Lib.hid (show q = ls.length by omega)
          have hr := HW.out.1
          rw [HQ.out, List.take_of_length_le (Nat.le_refl _)] at hr
          rw [show ls.length - q = 0 by omega, List.replicate_zero, List.append_nil] at hS
          obtain ⟨TA, hSA, hiA, hrv⟩ := hS.freezeV
          have HLA := Lib.hid (show RR TA wr (some ⟨g4, 0, none⟩) (ls.map ascL) from ⟨vs1, hrv, hr.mono (repRow.into hiA)⟩)
          replace hS := hSA
          clear hSA hiA hrv hr HW
          generalize hua : wr = ua at HLA hS
          have HAL := Lib.hid (show ∀ l ∈ ls.map ascL, l.length ≤ 1000 ∧ l.Pairwise (· < ·) from fun l hl => by
            obtain ⟨l0, hl0, rfl⟩ := List.mem_map.1 hl
            have h1 := asc_ok l0 [] (by simp)
            have h2 := HR.out l0 hl0
            exact ⟨by have := h1.2; unfold ascL; simp at this; omega, h1.1⟩)
          have HMAP := Lib.hid (show (ls.map ascL).length = ls.length by simp)
          go_wp2_with (first | (refine oL ?_; (first | refine sL1 hS rfl rfl rfl ?_ | refine sL2 hS rfl rfl rfl ?_ | refine sL3 hS rfl rfl ?_ | refine sL4 hS rfl rfl ?_ | refine sL5 hS rfl rfl ?_ | refine sL6 hS rfl rfl ?_ | refine sL7 hS rfl rfl ?_)) | (refine oS ?_; ((first | refine sS1 hS rfl rfl rfl ?_ | refine sS2 hS rfl rfl rfl ?_ | refine sS3 hS rfl rfl rfl ?_ | refine sS4 hS rfl rfl rfl ?_ | refine sS5 hS rfl rfl rfl ?_); clear hS; intro w hS)) | ((first | refine sN1 hS rfl ?_ | refine sM1 hS rfl rfl rfl ?_); clear hS; first | ((fail_if_success guard_hyp g1); intro g1 w hS) | ((fail_if_success guard_hyp g2); intro g2 w hS) | ((fail_if_success guard_hyp g3); intro g3 w hS) | ((fail_if_success guard_hyp g4); intro g4 w hS) | fail) | fail)
          refine (new_st (m := 150) hS (by omega) HB.out.2 hf hf' HB.out.1).mono ?_
          rintro e w ⟨gc, κ, rfl, hS1⟩
          replace hS := hS1
          clear HB hS1
          generalize bs.take 150 = r at *
          go_wp2_with (first | (refine oL ?_; (first | refine sL1 hS rfl rfl rfl ?_ | refine sL2 hS rfl rfl rfl ?_ | refine sL3 hS rfl rfl ?_ | refine sL4 hS rfl rfl ?_ | refine sL5 hS rfl rfl ?_ | refine sL6 hS rfl rfl ?_ | refine sL7 hS rfl rfl ?_)) | (refine oS ?_; ((first | refine sS1 hS rfl rfl rfl ?_ | refine sS2 hS rfl rfl rfl ?_ | refine sS3 hS rfl rfl rfl ?_ | refine sS4 hS rfl rfl rfl ?_ | refine sS5 hS rfl rfl rfl ?_); clear hS; intro w hS)) | ((first | refine sN1 hS rfl ?_ | refine sM1 hS rfl rfl rfl ?_); clear hS; first | ((fail_if_success guard_hyp g1); intro g1 w hS) | ((fail_if_success guard_hyp g2); intro g2 w hS) | ((fail_if_success guard_hyp g3); intro g3 w hS) | ((fail_if_success guard_hyp g4); intro g4 w hS) | fail) | fail)
          refine (pattern_st (m := 30) hS rfl (by omega)).mono ?_
          rintro e w ⟨v, p, r1, T, rfl, hsm, hpa, hS1⟩
          replace hS := hS1
          clear hS1
          have HP := Lib.hid (And.intro hsm hpa)
          have HE := Lib.hid hsm.good.ckl
          have HG := Lib.hid hsm.good
          have hn5 := hsm.good.n5
          have hn2 := hsm.good.n2
          obtain ⟨A1, c1, A2, c2, A3, c3⟩ := v
          simp only [PV.val]
          clear hsm hpa
          generalize hu : w = u at *
          have HCR := Lib.hid (show ∀ l ∈ p.ck, l.length ≤ 65 ∧ l.Pairwise (· < ·) from fun l hl => by
            obtain ⟨q, hq, rfl⟩ := List.getElem_of_mem hl
            have hqn : q < p.len.length := by rw [← HE.out]; exact hq
            have := HG.out.rowLen hqn
            have h2 := (HG.out.row q hqn).asc
            rw [rowOf_eq hq] at this h2
            exact ⟨this, h2⟩)
          have hck5 : p.ck.length ≤ 5 := by have := HE.out; omega
          go_wp2_with (first | (refine oL ?_; (first | refine sL1 hS rfl rfl rfl ?_ | refine sL2 hS rfl rfl rfl ?_ | refine sL3 hS rfl rfl ?_ | refine sL4 hS rfl rfl ?_ | refine sL5 hS rfl rfl ?_ | refine sL6 hS rfl rfl ?_ | refine sL7 hS rfl rfl ?_)) | (refine oS ?_; ((first | refine sS1 hS rfl rfl rfl ?_ | refine sS2 hS rfl rfl rfl ?_ | refine sS3 hS rfl rfl rfl ?_ | refine sS4 hS rfl rfl rfl ?_ | refine sS5 hS rfl rfl rfl ?_); clear hS; intro w hS)) | ((first | refine sN1 hS rfl ?_ | refine sM1 hS rfl rfl rfl ?_); clear hS; first | ((fail_if_success guard_hyp g1); intro g1 w hS) | ((fail_if_success guard_hyp g2); intro g2 w hS) | ((fail_if_success guard_hyp g3); intro g3 w hS) | ((fail_if_success guard_hyp g4); intro g4 w hS) | fail) | fail)
          refine (cutv_st hS HG.out (HP.out.2.len.into (hS.intoK (T := T) (u := u))) (hS.frozNe (g := gc) (κ := κ) (r := r1))).mono ?_
          rintro e w ⟨X, cx, r2, xs, hvx, rfl, hS1⟩
          replace hS := hS1
          clear hS1
          have HXL := Lib.hid (valid_iff.1 hvx).1
          clear hvx
          go_upto_if 116 with (first | (go_at_call 22; refine (next_z 5 hS rfl (by omega) (by omega)).mono ?_; rintro e w ⟨rfl, hS1⟩; replace hS := hS1; clear hS1) | (refine oL ?_; (first | refine sL1 hS rfl rfl rfl ?_ | refine sL2 hS rfl rfl rfl ?_ | refine sL3 hS rfl rfl ?_ | refine sL4 hS rfl rfl ?_ | refine sL5 hS rfl rfl ?_ | refine sL6 hS rfl rfl ?_ | refine sL7 hS rfl rfl ?_)) | (refine oS ?_; ((first | refine sS1 hS rfl rfl rfl ?_ | refine sS2 hS rfl rfl rfl ?_ | refine sS3 hS rfl rfl rfl ?_ | refine sS4 hS rfl rfl rfl ?_ | refine sS5 hS rfl rfl rfl ?_); clear hS; intro w hS)) | ((first | refine sN1 hS rfl ?_ | refine sM1 hS rfl rfl rfl ?_); clear hS; first | ((fail_if_success guard_hyp g1); intro g1 w hS) | ((fail_if_success guard_hyp g2); intro g2 w hS) | ((fail_if_success guard_hyp g3); intro g3 w hS) | ((fail_if_success guard_hyp g4); intro g4 w hS) | fail) | fail)
          generalize nxt r2 5 = nx at *
          (try simp only [Act.put, nA, nB, nC])
          go_cut [14] (fun s14 wx => ∃ (X : Option Addr) (n cx : Nat) (xs : List Int), s14 = .slice X n cx ∧ n ≤ 5 ∧ Hid (xs.length = n) ∧ St w0 NoM [row (.slice X n cx) 3 1 n (ints xs), blk g1 [.slice A1 p.len.length c1, .slice A2 p.ck.length c2, .slice A3 p.arcs.length c3] 28, froz T u, froz TA ua] wx)
          case first =>
            by_cases hnx : nx = 4
            · subst hnx
              go_wp2_with (first | (refine oL ?_; (first | refine sL1 hS rfl rfl rfl ?_ | refine sL2 hS rfl rfl rfl ?_ | refine sL3 hS rfl rfl ?_ | refine sL4 hS rfl rfl ?_ | refine sL5 hS rfl rfl ?_ | refine sL6 hS rfl rfl ?_ | refine sL7 hS rfl rfl ?_)) | (refine oS ?_; ((first | refine sS1 hS rfl rfl rfl ?_ | refine sS2 hS rfl rfl rfl ?_ | refine sS3 hS rfl rfl rfl ?_ | refine sS4 hS rfl rfl rfl ?_ | refine sS5 hS rfl rfl rfl ?_); clear hS; intro w hS)) | ((first | refine sN1 hS rfl ?_ | refine sM1 hS rfl rfl rfl ?_); clear hS; first | ((fail_if_success guard_hyp g1); intro g1 w hS) | ((fail_if_success guard_hyp g2); intro g2 w hS) | ((fail_if_success guard_hyp g3); intro g3 w hS) | ((fail_if_success guard_hyp g4); intro g4 w hS) | fail) | fail)
              refine (intsC_st 5 hS rfl (by omega)).mono ?_
              rintro e w ⟨Y, cy, ys, r4, hyl, rfl, hS1⟩
              replace hS := hS1
              clear hS1
              go_wp2_with (first | (refine oL ?_; (first | refine sL1 hS rfl rfl rfl ?_ | refine sL2 hS rfl rfl rfl ?_ | refine sL3 hS rfl rfl ?_ | refine sL4 hS rfl rfl ?_ | refine sL5 hS rfl rfl ?_ | refine sL6 hS rfl rfl ?_ | refine sL7 hS rfl rfl ?_)) | (refine oS ?_; ((first | refine sS1 hS rfl rfl rfl ?_ | refine sS2 hS rfl rfl rfl ?_ | refine sS3 hS rfl rfl rfl ?_ | refine sS4 hS rfl rfl rfl ?_ | refine sS5 hS rfl rfl rfl ?_); clear hS; intro w hS)) | ((first | refine sN1 hS rfl ?_ | refine sM1 hS rfl rfl rfl ?_); clear hS; first | ((fail_if_success guard_hyp g1); intro g1 w hS) | ((fail_if_success guard_hyp g2); intro g2 w hS) | ((fail_if_success guard_hyp g3); intro g3 w hS) | ((fail_if_success guard_hyp g4); intro g4 w hS) | fail) | fail)
              go_meet
              exact ⟨Y, ys.length, cy, ys, rfl, hyl, Lib.hid rfl, hS.re⟩
            · have db : ((nx : Int) == 4) = false := by rw [beq_eq_false_iff_ne]; omega
              go_wp2_with (first | (refine oL ?_; (first | refine sL1 hS rfl rfl rfl ?_ | refine sL2 hS rfl rfl rfl ?_ | refine sL3 hS rfl rfl ?_ | refine sL4 hS rfl rfl ?_ | refine sL5 hS rfl rfl ?_ | refine sL6 hS rfl rfl ?_ | refine sL7 hS rfl rfl ?_)) | (refine oS ?_; ((first | refine sS1 hS rfl rfl rfl ?_ | refine sS2 hS rfl rfl rfl ?_ | refine sS3 hS rfl rfl rfl ?_ | refine sS4 hS rfl rfl rfl ?_ | refine sS5 hS rfl rfl rfl ?_); clear hS; intro w hS)) | ((first | refine sN1 hS rfl ?_ | refine sM1 hS rfl rfl rfl ?_); clear hS; first | ((fail_if_success guard_hyp g1); intro g1 w hS) | ((fail_if_success guard_hyp g2); intro g2 w hS) | ((fail_if_success guard_hyp g3); intro g3 w hS) | ((fail_if_success guard_hyp g4); intro g4 w hS) | fail) | fail)
              go_meet
              exact ⟨X, p.len.length, cx, xs, rfl, hn5, HXL, hS.re⟩
          case rest =>
            clear hS HXL
            obtain ⟨X, n, cx, xs, rfl, hn5', HXL, hS⟩ := hcut
            go_wp2_with (first | (refine oL ?_; (first | refine sL1 hS rfl rfl rfl ?_ | refine sL2 hS rfl rfl rfl ?_ | refine sL3 hS rfl rfl ?_ | refine sL4 hS rfl rfl ?_ | refine sL5 hS rfl rfl ?_ | refine sL6 hS rfl rfl ?_ | refine sL7 hS rfl rfl ?_)) | (refine oS ?_; ((first | refine sS1 hS rfl rfl rfl ?_ | refine sS2 hS rfl rfl rfl ?_ | refine sS3 hS rfl rfl rfl ?_ | refine sS4 hS rfl rfl rfl ?_ | refine sS5 hS rfl rfl rfl ?_); clear hS; intro w hS)) | ((first | refine sN1 hS rfl ?_ | refine sM1 hS rfl rfl rfl ?_); clear hS; first | ((fail_if_success guard_hyp g1); intro g1 w hS) | ((fail_if_success guard_hyp g2); intro g2 w hS) | ((fail_if_success guard_hyp g3); intro g3 w hS) | ((fail_if_success guard_hyp g4); intro g4 w hS) | fail) | fail)
            refine dr_start0 []  hS (by kernel_rfl) rfl ?_; clear hS; intro w hS
            refine dM hS 0 rfl rfl rfl ?_
            (try simp only [Act.put, nA, nB, nC])
            refine dM hS 1 rfl rfl rfl ?_
            (try simp only [Act.put, nA, nB, nC])
            refine dM hS 3 rfl rfl rfl ?_
            (try simp only [Act.put, nA, nB, nC])
            refine dM hS 4 rfl rfl rfl ?_
            (try simp only [Act.put, nA, nB, nC])
            refine dr_one 2 (by kernel_rfl) rfl ?_
            (refine st_call rfl (by kernel_rfl) rfl ?_; go_at_call 25; refine (bases_any (S := TA) (T := (fun b => b < w0.heap.size)) (some ⟨g4, 0, none⟩) V ls.length g ls.length vs.length (ls.map ascL) vs _ (HLA.out.into (hS.intoK (T := TA) (u := ua))) (hvs.ext hS.toExt) (HMAP.out) (rfl) (by omega) (by omega) (fun l hl => (HAL.out l hl).1)).mono ?_; rintro e w ⟨L2, k2, rfl, ho, hx1⟩; replace hS := hS.addRow ho hx1; clear ho hx1)
            (try simp only [Act.put, nA, nB, nC])
            refine dr_end hS ?_
            refine dr_one 5 (by kernel_rfl) rfl ?_
            (refine st_call rfl (by kernel_rfl) rfl ?_; go_at_call 26; refine (rbases_any (S := TA) (T := (fun b => b < w0.heap.size)) (some ⟨g4, 0, none⟩) V ls.length g ls.length vs.length (ls.map ascL) vs _ (HLA.out.into (hS.intoK (T := TA) (u := ua))) (hvs.ext hS.toExt) (HMAP.out) (rfl) (by omega) (by omega) (HAL.out)).mono ?_; rintro e w ⟨L5, k5, rfl, ho, hx1⟩; replace hS := hS.addRow ho hx1; clear ho hx1)
            (try simp only [Act.put, nA, nB, nC])
            refine dr_end hS ?_
            refine dr_one 6 (by kernel_rfl) rfl ?_
            (refine st_call rfl (by kernel_rfl) rfl ?_; go_at_call 24; refine (sameI_m (xs := basesL (ls.map ascL) vs) (basesL_n HMAP.out) (basesL_n HMAP.out) rfl (hS.ri (A := L2)) (hS.ri (A := L5)) (by omega)).mono ?_; rintro e w ⟨rfl, hx1⟩; replace hS := hS.ext hx1)
            (try simp only [Act.put, nA, nB, nC])
            refine dr_end hS ?_
            refine dM hS 7 rfl rfl rfl ?_
            (try simp only [Act.put, nA, nB, nC])
            first | refine dP hS 8 rfl rfl ?_ | refine dQ hS 8 rfl rfl ?_
            (try simp only [Act.put, nA, nB, nC])
            first | refine dL1 hS 9 rfl rfl rfl rfl ?_ | refine dL2 hS 9 rfl rfl rfl rfl ?_ | refine dL3 hS 9 rfl rfl rfl ?_ | refine dL4 hS 9 rfl rfl rfl ?_ | refine dL5 hS 9 rfl rfl rfl ?_ | refine dL6 hS 9 rfl rfl rfl ?_ | refine dL7 hS 9 rfl rfl rfl ?_ | refine dQ hS 9 rfl rfl ?_
            (try simp only [Act.put, nA, nB, nC])
            first | refine dM hS 10 rfl rfl rfl ?_ | refine dQ hS 10 rfl rfl ?_
            (try simp only [Act.put, nA, nB, nC])
            first | refine dP hS 12 rfl rfl ?_ | refine dQ hS 12 rfl rfl ?_
            (try simp only [Act.put, nA, nB, nC])
            first | refine dL1 hS 13 rfl rfl rfl rfl ?_ | refine dL2 hS 13 rfl rfl rfl rfl ?_ | refine dL3 hS 13 rfl rfl rfl ?_ | refine dL4 hS 13 rfl rfl rfl ?_ | refine dL5 hS 13 rfl rfl rfl ?_ | refine dL6 hS 13 rfl rfl rfl ?_ | refine dL7 hS 13 rfl rfl rfl ?_ | refine dQ hS 13 rfl rfl ?_
            (try simp only [Act.put, nA, nB, nC])
            first | refine dM hS 14 rfl rfl rfl ?_ | refine dQ hS 14 rfl rfl ?_
            (try simp only [Act.put, nA, nB, nC])
            refine dr_one 11 (by kernel_rfl) rfl ?_
            (refine st_call rfl (by kernel_rfl) rfl ?_; go_at_call 25; refine (bases_any (S := T) (T := All) A2 X c2 cx p.ck.length n p.ck xs _ (HP.out.2.ck.into (hS.intoK (T := T) (u := u))) (hS.ri (A := X)) (rfl) (HXL.out) (by omega) (by omega) (fun l hl => by have := (HCR.out l hl).1; omega)).mono ?_; rintro e w ⟨L11, k11, rfl, ho, hx1⟩; replace hS := hS.addRow ho hx1; clear ho hx1)
            (try simp only [Act.put, nA, nB, nC])
            refine dr_end hS ?_
            refine dr_one 15 (by kernel_rfl) rfl ?_
            (refine st_call rfl (by kernel_rfl) rfl ?_; go_at_call 26; refine (rbases_any (S := T) (T := All) A2 X c2 cx p.ck.length n p.ck xs _ (HP.out.2.ck.into (hS.intoK (T := T) (u := u))) (hS.ri (A := X)) (rfl) (HXL.out) (by omega) (by omega) (fun l hl => ⟨by have := (HCR.out l hl).1; omega, (HCR.out l hl).2⟩)).mono ?_; rintro e w ⟨L15, k15, rfl, ho, hx1⟩; replace hS := hS.addRow ho hx1; clear ho hx1)
            (try simp only [Act.put, nA, nB, nC])
            refine dr_end hS ?_
            refine dr_one 16 (by kernel_rfl) rfl ?_
            (refine st_call rfl (by kernel_rfl) rfl ?_; go_at_call 24; refine (sameI_m (xs := basesL p.ck xs) (basesL_len _ _) (basesL_len _ _) rfl (hS.ri (A := L11)) (hS.ri (A := L15)) (by omega)).mono ?_; rintro e w ⟨rfl, hx1⟩; replace hS := hS.ext hx1)
            (try simp only [Act.put, nA, nB, nC])
            refine dr_end hS ?_
            refine dP hS 17 rfl rfl ?_
            (try simp only [Act.put, nA, nB, nC])
            refine dM hS 18 rfl rfl rfl ?_
            (try simp only [Act.put, nA, nB, nC])
            first | refine dM hS 19 rfl rfl rfl ?_ | refine dQ hS 19 rfl rfl ?_
            (try simp only [Act.put, nA, nB, nC])
            first | refine dM hS 20 rfl rfl rfl ?_ | refine dQ hS 20 rfl rfl ?_
            (try simp only [Act.put, nA, nB, nC])
            first | refine dM hS 22 rfl rfl rfl ?_ | refine dQ hS 22 rfl rfl ?_
            (try simp only [Act.put, nA, nB, nC])
            first | refine dM hS 23 rfl rfl rfl ?_ | refine dQ hS 23 rfl rfl ?_
            (try simp only [Act.put, nA, nB, nC])
            refine dr_one 21 (by kernel_rfl) rfl ?_
            (refine st_call rfl (by kernel_rfl) rfl ?_; go_at_call 27; refine (keep_any (S := (fun b => b < w0.heap.size)) (T := (fun b => b < w0.heap.size)) K V kc g ls.length vs.length ls vs _ (RR.into hls (Into.ofExt hS.toExt)) (hvs.ext hS.toExt) (rfl) (rfl) (by omega) (by omega) (fun l hl => by have := HR.out l hl; omega)).mono ?_; rintro e w21 ⟨L21, k21, rfl, hcV, hcV', hrr, hx1⟩; replace hS := hS.frozNew hx1; replace hrr := hrr.newN; generalize (fun k => _ ≤ k ∧ k < w21.heap.size) = N21 at hS hrr; have H21 := Lib.hid hrr; clear hrr hx1; rw [keepL_len]; first | rw [HMAP.out] | skip)
            (try simp only [Act.put, nA, nB, nC])
            refine dr_end hS ?_
            refine dr_one 24 (by kernel_rfl) rfl ?_
            (refine st_call rfl (by kernel_rfl) rfl ?_; go_at_call 28; refine (rkeep_any (S := (fun b => b < w0.heap.size)) (T := (fun b => b < w0.heap.size)) K V kc g ls.length vs.length ls vs _ (RR.into hls (Into.ofExt hS.toExt)) (hvs.ext hS.toExt) (rfl) (rfl) (by omega) (by omega) (fun l hl => by have := HR.out l hl; omega)).mono ?_; rintro e w24 ⟨L24, k24, rfl, hcV, hcV', hrr, hx1⟩; replace hS := hS.frozNew hx1; replace hrr := hrr.newN; generalize (fun k => _ ≤ k ∧ k < w24.heap.size) = N24 at hS hrr; have H24 := Lib.hid hrr; clear hrr hx1; rw [keepL_len]; first | rw [HMAP.out] | skip)
            (try simp only [Act.put, nA, nB, nC])
            refine dr_end hS ?_
            refine dr_one 25 (by kernel_rfl) rfl ?_
            (refine st_call rfl (by kernel_rfl) rfl ?_; go_at_call 14; refine (sameR_n (ls := keepL ls vs) (keepL_len _ _) (keepL_len _ _) rfl (H21.out.into (hS.intoK (T := N21) (u := w21))) (H24.out.into (hS.intoK (T := N24) (u := w24))) (by omega) (fun l hl => by have := keepL_rl HR.out l hl; omega)).mono ?_; rintro e w ⟨rfl, hx1⟩; replace hS := hS.ext hx1)
            (try simp only [Act.put, nA, nB, nC])
            refine dr_end hS ?_
            refine dP hS 26 rfl rfl ?_
            (try simp only [Act.put, nA, nB, nC])
            refine dM hS 27 rfl rfl rfl ?_
            (try simp only [Act.put, nA, nB, nC])
            first | refine dP hS 28 rfl rfl ?_ | refine dQ hS 28 rfl rfl ?_
            (try simp only [Act.put, nA, nB, nC])
            first | refine dL1 hS 29 rfl rfl rfl rfl ?_ | refine dL2 hS 29 rfl rfl rfl rfl ?_ | refine dL3 hS 29 rfl rfl rfl ?_ | refine dL4 hS 29 rfl rfl rfl ?_ | refine dL5 hS 29 rfl rfl rfl ?_ | refine dL6 hS 29 rfl rfl rfl ?_ | refine dL7 hS 29 rfl rfl rfl ?_ | refine dQ hS 29 rfl rfl ?_
            (try simp only [Act.put, nA, nB, nC])
            first | refine dM hS 30 rfl rfl rfl ?_ | refine dQ hS 30 rfl rfl ?_
            (try simp only [Act.put, nA, nB, nC])
            first | refine dP hS 32 rfl rfl ?_ | refine dQ hS 32 rfl rfl ?_
            (try simp only [Act.put, nA, nB, nC])
            first | refine dL1 hS 33 rfl rfl rfl rfl ?_ | refine dL2 hS 33 rfl rfl rfl rfl ?_ | refine dL3 hS 33 rfl rfl rfl ?_ | refine dL4 hS 33 rfl rfl rfl ?_ | refine dL5 hS 33 rfl rfl rfl ?_ | refine dL6 hS 33 rfl rfl rfl ?_ | refine dL7 hS 33 rfl rfl rfl ?_ | refine dQ hS 33 rfl rfl ?_
            (try simp only [Act.put, nA, nB, nC])
            first | refine dM hS 34 rfl rfl rfl ?_ | refine dQ hS 34 rfl rfl ?_
            (try simp only [Act.put, nA, nB, nC])
            refine dr_one 31 (by kernel_rfl) rfl ?_
            (refine st_call rfl (by kernel_rfl) rfl ?_; go_at_call 27; refine (keep_any (S := T) (T := All) A2 X c2 cx p.ck.length n p.ck xs _ (HP.out.2.ck.into (hS.intoK (T := T) (u := u))) (hS.ri (A := X)) (rfl) (HXL.out) (by omega) (by omega) (fun l hl => by have := (HCR.out l hl).1; omega)).mono ?_; rintro e w31 ⟨L31, k31, rfl, hcV, hcV', hrr, hx1⟩; replace hS := hS.frozNew hx1; replace hrr := hrr.newN; generalize (fun k => _ ≤ k ∧ k < w31.heap.size) = N31 at hS hrr; have H31 := Lib.hid hrr; clear hrr hx1; rw [keepL_len]; first | rw [HMAP.out] | skip)
            (try simp only [Act.put, nA, nB, nC])
            refine dr_end hS ?_
            refine dr_one 35 (by kernel_rfl) rfl ?_
            (refine st_call rfl (by kernel_rfl) rfl ?_; go_at_call 28; refine (rkeep_any (S := T) (T := All) A2 X c2 cx p.ck.length n p.ck xs _ (HP.out.2.ck.into (hS.intoK (T := T) (u := u))) (hS.ri (A := X)) (rfl) (HXL.out) (by omega) (by omega) (fun l hl => by have := (HCR.out l hl).1; omega)).mono ?_; rintro e w35 ⟨L35, k35, rfl, hcV, hcV', hrr, hx1⟩; replace hS := hS.frozNew hx1; replace hrr := hrr.newN; generalize (fun k => _ ≤ k ∧ k < w35.heap.size) = N35 at hS hrr; have H35 := Lib.hid hrr; clear hrr hx1; rw [keepL_len]; first | rw [HMAP.out] | skip)
            (try simp only [Act.put, nA, nB, nC])
            refine dr_end hS ?_
            refine dr_one 36 (by kernel_rfl) rfl ?_
            (refine st_call rfl (by kernel_rfl) rfl ?_; go_at_call 14; refine (sameR_n (ls := keepL p.ck xs) (keepL_len _ _) (keepL_len _ _) rfl (H31.out.into (hS.intoK (T := N31) (u := w31))) (H35.out.into (hS.intoK (T := N35) (u := w35))) (by omega) (fun l hl => by have := keepL_rl (fun l hl => (HCR.out l hl).1) l hl; omega)).mono ?_; rintro e w ⟨rfl, hx1⟩; replace hS := hS.ext hx1)
            (try simp only [Act.put, nA, nB, nC])
            refine dr_end hS ?_
            refine dP hS 37 rfl rfl ?_
            (try simp only [Act.put, nA, nB, nC])
            refine dA hS 38 rfl rfl rfl ?_
            (try simp only [Act.put, nA, nB, nC])
            refine dr_done (by kernel_rfl) ?_
            all_goals
              go_wp2_with (first | (refine oL ?_; (first | refine sL1 hS rfl rfl rfl ?_ | refine sL2 hS rfl rfl rfl ?_ | refine sL3 hS rfl rfl ?_ | refine sL4 hS rfl rfl ?_ | refine sL5 hS rfl rfl ?_ | refine sL6 hS rfl rfl ?_ | refine sL7 hS rfl rfl ?_)) | (refine oS ?_; ((first | refine sS1 hS rfl rfl rfl ?_ | refine sS2 hS rfl rfl rfl ?_ | refine sS3 hS rfl rfl rfl ?_ | refine sS4 hS rfl rfl rfl ?_ | refine sS5 hS rfl rfl rfl ?_); clear hS; intro w hS)) | ((first | refine sN1 hS rfl ?_ | refine sM1 hS rfl rfl rfl ?_); clear hS; first | ((fail_if_success guard_hyp g1); intro g1 w hS) | ((fail_if_success guard_hyp g2); intro g2 w hS) | ((fail_if_success guard_hyp g3); intro g3 w hS) | ((fail_if_success guard_hyp g4); intro g4 w hS) | fail) | fail)
              go_ret
              exact ⟨rfl, hS.toExt⟩
open Go.ChangeShapes Go.WideShapes Go.ChangeAt
set_option maxRecDepth 100000 in
theorem lifted_CollectBases (os : Os) (started : os.Started) (H : Type) (enc : TypeId × Value → H) :
    ReturnsInHanded {} Try.checked os 5 .any (Rows.collectBasesSpec.pre6 enc Try.prog Try.f5 Rows.collectBasesRow.domain false) (Rows.collectBasesSpec.post enc Try.prog Try.f5 false true false false) := by
  refine law_lifted_sz (C := Try.checked) (s := Rows.collectBasesSpec) (tb := 4) (by kernel_rfl) started (by kernel_rfl) Try.func5
      (ChangeSpec.witness6 (enc := enc) (C := Try.checked) false ⟨#[], #[.slice none 0 0, .slice none 0 0, .slice none 0 0], []⟩ 8 (by kernel_rfl) (by kernel_rfl) (by kernel_rfl) (by kernel_rfl))
      (by kernel_rfl) rfl rfl Try.underlying4 (read_of (by kernel_rfl)) ?_ ?_
  · intro ds hl
    match ds, hl with
    | [d0, d1, d2], _ => exact ⟨rfl, rfl, rfl⟩
  · intro W base args ds p hval0 hA0 hsz
    have hval : ∀ (j : Nat) t v, Try.f5.params[j]? = some t → args[j]? = some v → Value.okWide Try.prog W .any base t v := hval0
    have hA : DataW.TrodAll enc Try.prog W 0 (fun _ => true) true Try.f5.params.toList args.toList ds p := hA0
    clear hA0 hval0
    rw [Try.params5] at hA hval
    obtain ⟨vt, hz⟩ := hsz
    obtain ⟨v0, v1, v2, d0, d1, d2, p0, p1, p2, rfl, rfl, rfl, h0, h1, h2⟩ := trodAll_three hA
    obtain ⟨K, kc, ls, rfl, hls, hkc, hkc', hll, hlr⟩ := open_rows Try.underlying25 Try.underlying24 Try.underlying3 (by kernel_rfl) (by kernel_rfl) (by kernel_rfl) (by kernel_rfl) (hval 0 _ v0 rfl rfl) h0 hz (j := 0) rfl rfl
    obtain ⟨B, d, ys, rfl, hri1, hd, hd', hwf1⟩ := open_nums Try.underlying24 Try.underlying3 (by kernel_rfl) (hval 1 _ v1 rfl rfl) h1
    have l1 := open_nums_len Try.underlying24 Try.underlying3 (by kernel_rfl) h1 hz (j := 1) rfl rfl
    have hby : Program.bytesOf Try.prog 3 = 8 := by kernel_rfl
    rw [hby] at l1
    have := reachBytes_lt
    obtain ⟨C, f, bs, rfl, hri2, hc2, hd2, hwf2⟩ := open_nums Try.underlying22 Try.underlying5 (by kernel_rfl) (hval 2 _ v2 rfl rfl) h2
    exact collectBases_any K kc ls B d ys C f bs W hls hll hlr hri1 (by omega) hri2 hc2 hd2 (fun b hb => u8_bd (hwf2 b hb))
/-- CollectBases returns true for every input, and leaves its arguments as they were. -/
theorem proved_CollectBases : Rows.CollectBasesSaid :=
  OpenClaim.holds_of_wide 5 Try.f5 rfl rfl rfl rfl rfl rfl rfl ⟨rfl, rfl, rfl, rfl, rfl⟩ rfl rfl rfl rfl rfl (by kernel_rfl) Try.func5 (by kernel_rfl)
    (of_decide_eq_true (by kernel_rfl)) (by unfold Func.isWrapper; rw [if_neg (by decide +kernel)]; exact ⟨rfl, rfl⟩)
    (fun os started H enc _ => lifted_CollectBases os started H enc)
end Go.Proofs.Ytombhhhaidmpeaa
