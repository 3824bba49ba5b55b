/- The machine of marker.Step: record, transfer, deliver. Conditions: the machine lies in memory, the numbers are in range. -/
import Derived.Test.YtombhhhaidmpeaaSnStepA
import Derived.Test.YtombhhhaidmpeaaSnInv
namespace Go.Proofs.Ytombhhhaidmpeaa
open Go.RowKit
set_option linter.unusedVariables false
set_option linter.unusedSimpArgs false
set_option linter.unusedSectionVars false

theorem ints_at {l : List Int} {q : Nat} (hq : q < l.length) : (ints l)[q]? = some (.int .i64 (nth l q)) := by rw [ints_get hq, nth_eq hq]
theorem Rw2.atCh {T : Nat → Prop} {u : World} {hv : List Value} {ls : List (List Pcl)} (h : Rw2 (ChV T u) hv ls) {k : Nat} (hk : k < ls.length) : ∃ B c, hv[k]? = some (.slice B (chOf ls k).length c) ∧ (chOf ls k).length ≤ c ∧ c ≤ 9223372036854775807 ∧ RV T u B (pcs (chOf ls k)) := by
  have hv' : k < hv.length := by rw [h.n]; exact hk
  obtain ⟨B, c, e, h1, h2, h3⟩ := h.k k hv' hk
  rw [chOf_eq hk]
  exact ⟨B, c, by rw [List.getElem?_eq_getElem hv', e], h1, h2, h3⟩
theorem Rw2.atRe {T : Nat → Prop} {u : World} {rv : List Value} {ls : List (List Int)} (h : Rw2 (ReV T u) rv ls) {k : Nat} (hk : k < ls.length) : ∃ B c, rv[k]? = some (.slice B (rowOf ls k).length c) ∧ (rowOf ls k).length ≤ c ∧ c ≤ 9223372036854775807 ∧ RI T u B (rowOf ls k) := by
  have hv' : k < rv.length := by rw [h.n]; exact hk
  obtain ⟨B, c, e, h1, h2, h3⟩ := h.k k hv' hk
  rw [rowOf_eq hk]
  exact ⟨B, c, by rw [List.getElem?_eq_getElem hv', e], h1, h2, h3⟩
theorem Into.trans' {S S' S'' : Nat → Prop} {w w' w'' : World} (h : Into S S' w w') (k : Into S' S'' w' w'') : Into S S'' w w'' := fun b hb hl => by
  obtain ⟨h1, h2⟩ := h b hb hl
  have hl' : b < w'.heap.size := by
    have h3 : w'.heap[b]? = some w.heap[b] := h2.trans (Array.getElem?_eq_getElem hl)
    exact lt_of_block h3
  obtain ⟨h3, h4⟩ := k b h1 hl'
  exact ⟨h3, h4.trans h2⟩
theorem Into.self (S : Nat → Prop) (w : World) : Into S S w w := fun b hb _ => ⟨hb, rfl⟩
set_option maxRecDepth 100000 in
set_option maxHeartbeats 6400000 in
theorem record_st {w0 w u : World} {M T : Nat → Prop} {cs : List (Chunk w0 M)} (gm gv gc gh gk gd go gr kv kc kh kk kd ko kr n nn b : Nat) (s : Snp) (hv rv : List Value) (q : Nat) (hS : St w0 M (blk gm [.slice (some ⟨gv, 0, none⟩) n kv, .slice (some ⟨gc, 0, none⟩) n kc, .slice (some ⟨gh, 0, none⟩) nn kh, .slice (some ⟨gk, 0, none⟩) n kk, .slice (some ⟨gd, 0, none⟩) n kd, .slice (some ⟨go, 0, none⟩) nn ko, .slice (some ⟨gr, 0, none⟩) nn kr] 99 :: row (.slice (some ⟨gh, 0, none⟩) nn kh) 63 1 nn hv :: froz T u :: row (.slice (some ⟨gv, 0, none⟩) n kv) 3 1 n (ints s.vals) :: row (.slice (some ⟨gc, 0, none⟩) n kc) 3 1 n (ints s.cnts) :: row (.slice (some ⟨gk, 0, none⟩) n kk) 3 1 n (ints s.cut) :: row (.slice (some ⟨gd, 0, none⟩) n kd) 3 1 n (ints s.saved) :: row (.slice (some ⟨go, 0, none⟩) nn ko) 4 1 nn (bools s.opn) :: row (.slice (some ⟨gr, 0, none⟩) nn kr) 24 1 nn rv :: cs) w) (hok : SnOk n b s) (hnn : n * n = nn) (hb : b ≤ 10000) (hh : Rw2 (ChV T u) hv s.chs) (hq : q < n) :
    Calls Try.prog 60 #[.pointer (some ⟨gm, 0, none⟩), .int .i64 (q : Int)] w fun e w' => e = .returned (.tuple #[]) ∧ ∃ T' u' hv', St w0 M (blk gm [.slice (some ⟨gv, 0, none⟩) n kv, .slice (some ⟨gc, 0, none⟩) n kc, .slice (some ⟨gh, 0, none⟩) nn kh, .slice (some ⟨gk, 0, none⟩) n kk, .slice (some ⟨gd, 0, none⟩) n kd, .slice (some ⟨go, 0, none⟩) nn ko, .slice (some ⟨gr, 0, none⟩) nn kr] 99 :: row (.slice (some ⟨gh, 0, none⟩) nn kh) 63 1 nn hv' :: froz T' u' :: row (.slice (some ⟨gv, 0, none⟩) n kv) 3 1 n (ints (recS s q).vals) :: row (.slice (some ⟨gc, 0, none⟩) n kc) 3 1 n (ints (recS s q).cnts) :: row (.slice (some ⟨gk, 0, none⟩) n kk) 3 1 n (ints (recS s q).cut) :: row (.slice (some ⟨gd, 0, none⟩) n kd) 3 1 n (ints (recS s q).saved) :: row (.slice (some ⟨go, 0, none⟩) nn ko) 4 1 nn (bools (recS s q).opn) :: row (.slice (some ⟨gr, 0, none⟩) nn kr) 24 1 nn rv :: cs) w' ∧ Into T T' u u' ∧ Rw2 (ChV T' u') hv' (recS s q).chs := by
  have hn5 := hok.n5
  have hnn25 : nn ≤ 25 := by rw [← hnn]; exact Nat.mul_le_mul hn5 hn5
  have hcq := hok.kb q hq
  have hqk : q < s.cut.length := by rw [hok.lk]; exact hq
  have hcell := ints_at hqk
  have hqv := ints_at (l := s.vals) (q := q) (by rw [hok.lv]; exact hq)
  have hqc := ints_at (l := s.cnts) (q := q) (by rw [hok.lc]; exact hq)
  have hqd : q < s.saved.length := by rw [hok.ls]; exact hq
  have hq' : (q : Int) < n := by omega
  by_cases hu : nth s.cut q < 0
  rotate_left
  · rw [recS_same hu]
    have e1 : (nth s.cut q != -1) = true := by simp; omega
    have HH := Lib.hid (And.intro hh hok)
    clear hok hh
    generalize nth s.cut q = cq at *
    go_enter Try.func60, Try.ntmps60
    go_wp2_with (first | (refine oL ?_; (first | refine sL1 hS rfl rfl rfl ?_ | refine sL2 hS rfl rfl rfl ?_ | refine sL3 hS rfl rfl ?_ | refine sL4 hS rfl rfl ?_ | refine sL5 hS rfl rfl ?_ | refine sL6 hS rfl rfl ?_ | refine sL7 hS rfl rfl ?_)) | fail)
    first | go_end0 | refine bodyPost_ret (results_none rfl _ _ _) rfl ?_
    exact ⟨rfl, T, u, hv, hS.re, Into.self _ _, HH.out.1⟩
  · rw [recS_eq hok hu]
    have hcm : nth s.cut q = -1 := by omega
    have HH := Lib.hid (And.intro hh (And.intro hok hnn))
    have HU := Lib.hid hu
    clear hok hh hnn hu hcq
    rw [hcm] at hcell
    clear hcm
    simp only [recR]
    generalize hvq : nth s.vals q = vq at *
    generalize hcn : nth s.cnts q = cn at *
    go_enter Try.func60, Try.ntmps60
    go_wp2_with (first | (refine oL ?_; (first | refine sL1 hS rfl rfl rfl ?_ | refine sL2 hS rfl rfl rfl ?_ | refine sL3 hS rfl rfl ?_ | refine sL4 hS rfl rfl ?_ | refine sL5 hS rfl rfl ?_ | refine sL6 hS rfl rfl ?_ | refine sL7 hS rfl rfl ?_)) | fail)
    refine dr_start0 [15]  hS (by kernel_rfl) rfl ?_; clear hS; intro w hS
    refine dM hS 0 rfl rfl rfl ?_
    (try simp only [Act.put, nA, nB, nC])
    refine dP hS 1 rfl rfl ?_
    (try simp only [Act.put, nA, nB, nC])
    refine dP hS 2 rfl rfl ?_
    (try simp only [Act.put, nA, nB, nC])
    refine dP hS 3 rfl rfl ?_
    (try simp only [Act.put, nA, nB, nC])
    first | refine dL1 hS 4 rfl rfl rfl rfl ?_ | refine dL2 hS 4 rfl rfl rfl rfl ?_ | refine dL3 hS 4 rfl rfl rfl ?_ | refine dL4 hS 4 rfl rfl rfl ?_ | refine dL5 hS 4 rfl rfl rfl ?_ | refine dL6 hS 4 rfl rfl rfl ?_ | refine dL7 hS 4 rfl rfl rfl ?_
    (try simp only [Act.put, nA, nB, nC])
    refine dM hS 5 rfl rfl rfl ?_
    (try simp only [Act.put, nA, nB, nC])
    refine dM hS 6 rfl rfl rfl ?_
    (try simp only [Act.put, nA, nB, nC])
    refine dP hS 7 rfl rfl ?_
    (try simp only [Act.put, nA, nB, nC])
    refine dP hS 8 rfl rfl ?_
    (try simp only [Act.put, nA, nB, nC])
    refine dP hS 9 rfl rfl ?_
    (try simp only [Act.put, nA, nB, nC])
    first | refine dL1 hS 10 rfl rfl rfl rfl ?_ | refine dL2 hS 10 rfl rfl rfl rfl ?_ | refine dL3 hS 10 rfl rfl rfl ?_ | refine dL4 hS 10 rfl rfl rfl ?_ | refine dL5 hS 10 rfl rfl rfl ?_ | refine dL6 hS 10 rfl rfl rfl ?_ | refine dL7 hS 10 rfl rfl rfl ?_
    (try simp only [Act.put, nA, nB, nC])
    refine dM hS 11 rfl rfl rfl ?_
    (try simp only [Act.put, nA, nB, nC])
    refine dP hS 12 rfl rfl ?_
    (try simp only [Act.put, nA, nB, nC])
    first | refine dL1 hS 13 rfl rfl rfl rfl ?_ | refine dL2 hS 13 rfl rfl rfl rfl ?_ | refine dL3 hS 13 rfl rfl rfl ?_ | refine dL4 hS 13 rfl rfl rfl ?_ | refine dL5 hS 13 rfl rfl rfl ?_ | refine dL6 hS 13 rfl rfl rfl ?_ | refine dL7 hS 13 rfl rfl rfl ?_
    (try simp only [Act.put, nA, nB, nC])
    refine dP hS 14 rfl rfl ?_
    (try simp only [Act.put, nA, nB, nC])
    refine dr_one 15 (by kernel_rfl) rfl ?_
    ((first | refine sS1 hS rfl rfl rfl ?_ | refine sS2 hS rfl rfl rfl ?_ | refine sS3 hS rfl rfl rfl ?_ | refine sS4 hS rfl rfl rfl ?_ | refine sS5 hS rfl rfl rfl ?_); clear hS; intro w hS)
    (try simp only [Act.put, nA, nB, nC])
    refine dr_late (by kernel_rfl) ?_
    refine dr_done (by kernel_rfl) ?_
    go_wp2_with (first | (refine oL ?_; (first | refine sL1 hS rfl rfl rfl ?_ | refine sL2 hS rfl rfl rfl ?_ | refine sL3 hS rfl rfl ?_ | refine sL4 hS rfl rfl ?_ | refine sL5 hS rfl rfl ?_ | refine sL6 hS rfl rfl ?_ | refine sL7 hS rfl rfl ?_)) | fail)
    refine dr_start0 [15]  hS (by kernel_rfl) rfl ?_; clear hS; intro w hS
    refine dM hS 0 rfl rfl rfl ?_
    (try simp only [Act.put, nA, nB, nC])
    refine dP hS 1 rfl rfl ?_
    (try simp only [Act.put, nA, nB, nC])
    refine dP hS 2 rfl rfl ?_
    (try simp only [Act.put, nA, nB, nC])
    refine dP hS 3 rfl rfl ?_
    (try simp only [Act.put, nA, nB, nC])
    first | refine dL1 hS 4 rfl rfl rfl rfl ?_ | refine dL2 hS 4 rfl rfl rfl rfl ?_ | refine dL3 hS 4 rfl rfl rfl ?_ | refine dL4 hS 4 rfl rfl rfl ?_ | refine dL5 hS 4 rfl rfl rfl ?_ | refine dL6 hS 4 rfl rfl rfl ?_ | refine dL7 hS 4 rfl rfl rfl ?_
    (try simp only [Act.put, nA, nB, nC])
    refine dM hS 5 rfl rfl rfl ?_
    (try simp only [Act.put, nA, nB, nC])
    refine dM hS 6 rfl rfl rfl ?_
    (try simp only [Act.put, nA, nB, nC])
    refine dP hS 7 rfl rfl ?_
    (try simp only [Act.put, nA, nB, nC])
    refine dP hS 8 rfl rfl ?_
    (try simp only [Act.put, nA, nB, nC])
    refine dP hS 9 rfl rfl ?_
    (try simp only [Act.put, nA, nB, nC])
    first | refine dL1 hS 10 rfl rfl rfl rfl ?_ | refine dL2 hS 10 rfl rfl rfl rfl ?_ | refine dL3 hS 10 rfl rfl rfl ?_ | refine dL4 hS 10 rfl rfl rfl ?_ | refine dL5 hS 10 rfl rfl rfl ?_ | refine dL6 hS 10 rfl rfl rfl ?_ | refine dL7 hS 10 rfl rfl rfl ?_
    (try simp only [Act.put, nA, nB, nC])
    refine dM hS 11 rfl rfl rfl ?_
    (try simp only [Act.put, nA, nB, nC])
    refine dP hS 12 rfl rfl ?_
    (try simp only [Act.put, nA, nB, nC])
    first | refine dL1 hS 13 rfl rfl rfl rfl ?_ | refine dL2 hS 13 rfl rfl rfl rfl ?_ | refine dL3 hS 13 rfl rfl rfl ?_ | refine dL4 hS 13 rfl rfl rfl ?_ | refine dL5 hS 13 rfl rfl rfl ?_ | refine dL6 hS 13 rfl rfl rfl ?_ | refine dL7 hS 13 rfl rfl rfl ?_
    (try simp only [Act.put, nA, nB, nC])
    refine dP hS 14 rfl rfl ?_
    (try simp only [Act.put, nA, nB, nC])
    refine dr_one 15 (by kernel_rfl) rfl ?_
    ((first | refine sS1 hS rfl rfl rfl ?_ | refine sS2 hS rfl rfl rfl ?_ | refine sS3 hS rfl rfl rfl ?_ | refine sS4 hS rfl rfl rfl ?_ | refine sS5 hS rfl rfl rfl ?_); clear hS; intro w hS)
    (try simp only [Act.put, nA, nB, nC])
    refine dr_late (by kernel_rfl) ?_
    refine dr_done (by kernel_rfl) ?_
    go_wp2_with (first | (refine oL ?_; (first | refine sL1 hS rfl rfl rfl ?_ | refine sL2 hS rfl rfl rfl ?_ | refine sL3 hS rfl rfl ?_ | refine sL4 hS rfl rfl ?_ | refine sL5 hS rfl rfl ?_ | refine sL6 hS rfl rfl ?_ | refine sL7 hS rfl rfl ?_)) | fail)
    go_loopw [50] (fun s50 wr => ∃ (r : Nat) (T1 : Nat → Prop) (u1 : World) (hv1 : List Value), r ≤ n ∧ s50 = .int .i64 r ∧ Hid (Into T T1 u u1 ∧ Rw2 (ChV T1 u1) hv1 (markCh n q r s.chs)) ∧ St w0 M (blk gm [.slice (some ⟨gv, 0, none⟩) n kv, .slice (some ⟨gc, 0, none⟩) n kc, .slice (some ⟨gh, 0, none⟩) nn kh, .slice (some ⟨gk, 0, none⟩) n kk, .slice (some ⟨gd, 0, none⟩) n kd, .slice (some ⟨go, 0, none⟩) nn ko, .slice (some ⟨gr, 0, none⟩) nn kr] 99 :: row (.slice (some ⟨gh, 0, none⟩) nn kh) 63 1 nn hv1 :: froz T1 u1 :: row (.slice (some ⟨gv, 0, none⟩) n kv) 3 1 n (ints s.vals) :: row (.slice (some ⟨gc, 0, none⟩) n kc) 3 1 n (ints s.cnts) :: row (.slice (some ⟨gk, 0, none⟩) n kk) 3 1 n (ints (s.cut.set q cn)) :: row (.slice (some ⟨gd, 0, none⟩) n kd) 3 1 n (ints (s.saved.set q vq)) :: row (.slice (some ⟨go, 0, none⟩) nn ko) 4 1 nn (bools (markOp n q r s.opn)) :: row (.slice (some ⟨gr, 0, none⟩) nn kr) 24 1 nn rv :: cs) wr) (fun s50 _ => n - (intOf s50).toNat)
    case atStart => exact ⟨0, T, u, hv, by omega, rfl, Lib.hid ⟨Into.self _ _, by rw [markCh_zero]; exact HH.out.1⟩, by rw [markOp_zero]; exact hS.re⟩
    case round =>
      clear hS
      obtain ⟨r, T1, u1, hv1, hr, rfl, HI, hS⟩ := hrel
      by_cases hlt : r < n
      · by_cases hrq : r = q
        · have e1 : ((r : Int) != (q : Int)) = false := by simp; omega
          have HO := Lib.hid (show markCh n q (r + 1) s.chs = markCh n q r s.chs ∧ markOp n q (r + 1) s.opn = markOp n q r s.opn by rw [hrq]; exact ⟨markCh_own n q s.chs, markOp_own n q s.opn⟩)
          clear hrq
          go_wp2_with (first | (refine oL ?_; (first | refine sL1 hS rfl rfl rfl ?_ | refine sL2 hS rfl rfl rfl ?_ | refine sL3 hS rfl rfl ?_ | refine sL4 hS rfl rfl ?_ | refine sL5 hS rfl rfl ?_ | refine sL6 hS rfl rfl ?_ | refine sL7 hS rfl rfl ?_)) | fail)
          go_roundw
          case measure => simp [intOf]; omega
          exact ⟨r + 1, T1, u1, hv1, by omega, by go_num, Lib.hid ⟨HI.out.1, by rw [HO.out.1]; exact HI.out.2⟩, by rw [HO.out.2]; exact hS.re⟩
        · have e1 : ((r : Int) != (q : Int)) = true := by simp; omega
          have hlh : (markCh n q r s.chs).length = nn := by rw [markCh_len, HH.out.2.1.lh]; exact HH.out.2.2
          have hkn : q * n + r < nn := by rw [← HH.out.2.2]; exact ch_lt hq hlt
          have hko : r * n + q < nn := by rw [← HH.out.2.2]; exact ch_lt hlt hq
          have HO := Lib.hid (And.intro (markCh_next HH.out.2.1.lh hq hlt hrq) (markOp_next HH.out.2.1.lo hq hlt hrq))
          obtain ⟨B, cb, hvk, hcb, hcb', hB⟩ := HI.out.2.atCh (k := q * n + r) (by rw [hlh]; exact hkn)
          have hvl : hv1.length = nn := by rw [HI.out.2.n]; exact hlh
          have hop : (markOp n q r s.opn).length = nn := by rw [markOp_len, HH.out.2.1.lo]; exact HH.out.2.2
          have hlb : (chOf (markCh n q r s.chs) (q * n + r)).length ≤ 1000000 := by
            rw [markCh_at (by rw [HH.out.2.1.lh, HH.out.2.2]; exact hkn), ch_div hlt, ch_mod hlt, if_neg (by omega)]
            have := HH.out.2.1.hbk (k := q * n + r) (by rw [HH.out.2.2]; exact hkn)
            omega
          have HVK := Lib.hid (And.intro hvk (And.intro hB hvl))
          have hro : r * n + q < (bools (markOp n q r s.opn)).length := by rw [bools_len, hop]; exact hko
          clear hvk hB hrq hlh hop hvl
          generalize hll : chOf (markCh n q r s.chs) (q * n + r) = ll at *
          have HLL := Lib.hid hll
          clear hll
          obtain ⟨ko', hko'⟩ : ∃ k, r * n + q = k := ⟨_, rfl⟩
          have HKO := Lib.hid hko'
          rw [hko'] at hko hro
          have hko2 : (ko' : Int) < nn := by omega
          clear hko'
          go_wp2_with (first | (refine oL ?_; (first | refine sL1 hS rfl rfl rfl ?_ | refine sL2 hS rfl rfl rfl ?_ | refine sL3 hS rfl rfl ?_ | refine sL4 hS rfl rfl ?_ | refine sL5 hS rfl rfl ?_ | refine sL6 hS rfl rfl ?_ | refine sL7 hS rfl rfl ?_)) | fail)
          refine (push_st gm q r n nn gh kh _ _ _ _ _ _ _ _ _ _ _ _ hv1 B cb ll true 0 hS hn5 hq hlt hkn hnn25 HVK.out.2.2 HVK.out.1 hcb hcb' HVK.out.2.1 hlb).mono ?_
          rintro e w2 ⟨rfl, T2, vk, hS2, hi2, hc2⟩
          replace hS := hS2
          clear hS2
          go_wp2_with (first | (refine oL ?_; (first | refine sL1 hS rfl rfl rfl ?_ | refine sL2 hS rfl rfl rfl ?_ | refine sL3 hS rfl rfl ?_ | refine sL4 hS rfl rfl ?_ | refine sL5 hS rfl rfl ?_ | refine sL6 hS rfl rfl ?_ | refine sL7 hS rfl rfl ?_)) | fail)
          refine dr_start0 [10]  hS (by kernel_rfl) rfl ?_; clear hS; intro w hS
          refine dM hS 0 rfl rfl rfl ?_
          (try simp only [Act.put, nA, nB, nC])
          refine dP hS 1 rfl rfl ?_
          (try simp only [Act.put, nA, nB, nC])
          refine dP hS 2 rfl rfl ?_
          (try simp only [Act.put, nA, nB, nC])
          refine dP hS 3 rfl rfl ?_
          (try simp only [Act.put, nA, nB, nC])
          first | refine dL1 hS 4 rfl rfl rfl rfl ?_ | refine dL2 hS 4 rfl rfl rfl rfl ?_ | refine dL3 hS 4 rfl rfl rfl ?_ | refine dL4 hS 4 rfl rfl rfl ?_ | refine dL5 hS 4 rfl rfl rfl ?_ | refine dL6 hS 4 rfl rfl rfl ?_ | refine dL7 hS 4 rfl rfl rfl ?_
          (try simp only [Act.put, nA, nB, nC])
          refine dM hS 5 rfl rfl rfl ?_
          (try simp only [Act.put, nA, nB, nC])
          refine dM hS 6 rfl rfl rfl ?_
          (try simp only [Act.put, nA, nB, nC])
          refine dM hS 7 rfl rfl rfl ?_
          (try simp only [Act.put, nA, nB, nC])
          refine dr_one 8 (by kernel_rfl) rfl ?_
          (refine st_call rfl (by kernel_rfl) rfl ?_; go_at_call 82; refine (chan_any gm r q n kv _ _ (hS.cellB rfl) hn5 hlt hq).mono ?_; rw [HKO.out]; rintro e w ⟨rfl, hx1⟩; replace hS := hS.ext hx1)
          (try simp only [Act.put, nA, nB, nC])
          refine dr_end hS ?_
          refine dP hS 9 rfl rfl ?_
          (try simp only [Act.put, nA, nB, nC])
          refine dr_one 10 (by kernel_rfl) rfl ?_
          first | (refine st_str hS rfl rfl rfl rfl hro ?_; clear hS; intro w hS) | ((first | refine sS1 hS rfl rfl rfl ?_ | refine sS2 hS rfl rfl rfl ?_ | refine sS3 hS rfl rfl rfl ?_ | refine sS4 hS rfl rfl rfl ?_ | refine sS5 hS rfl rfl rfl ?_); clear hS; intro w hS) | fail
          (try simp only [Act.put, nA, nB, nC])
          refine dr_late (by kernel_rfl) ?_
          refine dr_done (by kernel_rfl) ?_
          go_wp2_with (first | (refine oL ?_; (first | refine sL1 hS rfl rfl rfl ?_ | refine sL2 hS rfl rfl rfl ?_ | refine sL3 hS rfl rfl ?_ | refine sL4 hS rfl rfl ?_ | refine sL5 hS rfl rfl ?_ | refine sL6 hS rfl rfl ?_ | refine sL7 hS rfl rfl ?_)) | fail)
          go_roundw
          case measure => simp [intOf]; omega
          refine ⟨r + 1, T2, w2, hv1.set (q * n + r) vk, by omega, by go_num, Lib.hid ⟨HI.out.1.trans' hi2, ?_⟩, ?_⟩
          · rw [HO.out.1]
            exact (HI.out.2.mono (ChV.into hi2)).set _ hc2
          · rw [HO.out.2, HKO.out, ← bools_set]
            exact hS.re
      · have hrn : r = n := by omega
        subst hrn
        go_wp2_with (first | (refine oL ?_; (first | refine sL1 hS rfl rfl rfl ?_ | refine sL2 hS rfl rfl rfl ?_ | refine sL3 hS rfl rfl ?_ | refine sL4 hS rfl rfl ?_ | refine sL5 hS rfl rfl ?_ | refine sL6 hS rfl rfl ?_ | refine sL7 hS rfl rfl ?_)) | fail)
        go_end0
        have HV := HH.out.2.1.lv
        rw [HV]
        exact ⟨rfl, T1, u1, hv1, hS.re, HI.out.1, HI.out.2⟩
end Go.Proofs.Ytombhhhaidmpeaa
