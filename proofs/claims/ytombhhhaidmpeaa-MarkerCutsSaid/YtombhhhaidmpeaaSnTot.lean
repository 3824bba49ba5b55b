/- marker.Complete, marker.Totals. Conditions: the state lies in memory. -/
import Derived.Test.YtombhhhaidmpeaaSnSame
import Derived.Test.YtombhhhaidmpeaaSnRec
namespace Go.Proofs.Ytombhhhaidmpeaa
open Go.RowKit
set_option linter.unusedVariables false
set_option linter.unusedSimpArgs false
set_option linter.unusedSectionVars false

/-- the first place of a thing in a list -/
def idxV {α : Type} [BEq α] (l : List α) (x : α) : Int := if l.contains x then (l.idxOf x : Int) else -1
theorem idxV_nonneg {α : Type} [BEq α] (l : List α) (x : α) : decide (0 ≤ idxV l x) = l.contains x := by
  unfold idxV
  cases h : l.contains x <;> simp
set_option maxHeartbeats 800000 in
theorem indexI_any {S : Nat → Prop} (A : Option Addr) (c n : Nat) (l : List Int) (x : Int) (w0 : World) (h : RI S w0 A l) (hn : l.length = n) (hl : n ≤ 1000000) :
    Calls Try.prog 83 #[.slice A n c, .int .i64 x] w0 fun e w' => e = .returned (.int .i64 (idxV l x)) ∧ Ext w0 w' := by
  have hS := St.start w0 NoM
  have HN := Lib.hid hn
  clear hn
  go_enter Try.func83, Try.ntmps83
  go_wp2_with (first | (refine oL ?_; (first | refine sL1 hS rfl rfl rfl ?_ | refine sL2 hS rfl rfl rfl ?_ | refine sL3 hS rfl rfl ?_ | refine sL4 hS rfl rfl ?_ | refine sL5 hS rfl rfl ?_ | refine sL6 hS rfl rfl ?_ | refine sL7 hS rfl rfl ?_)) | fail)
  go_loopw [8] (fun i wr => ∃ k : Nat, k ≤ n ∧ i = .int .i64 k ∧ Hid (¬ x ∈ l.take k) ∧ St w0 NoM [] wr) (fun i _ => n - (intOf i).toNat)
  case atStart => exact ⟨0, Nat.zero_le _, rfl, Lib.hid (by simp), hS⟩
  case round =>
    obtain ⟨k, hk, rfl, HW, hS⟩ := hrel
    by_cases hltn : k < n
    · have hlt : k < l.length := by rw [HN.out]; exact hltn
      obtain ⟨b1, o1, rfl, _, hca⟩ := h.atNS hlt
      have HT := Lib.hid (List.take_succ_eq_append_getElem hlt)
      have HNT := Lib.hid (nth_eq hlt)
      generalize hy : nth l k = y at *
      by_cases hxy : x = y
      · go_wp2_with (first | (refine oL ?_; (first | refine sL1 hS rfl rfl rfl ?_ | refine sL2 hS rfl rfl rfl ?_ | refine sL3 hS rfl rfl ?_ | refine sL4 hS rfl rfl ?_ | refine sL5 hS rfl rfl ?_ | refine sL6 hS rfl rfl ?_ | refine sL7 hS rfl rfl ?_)) | fail)
        go_ret
        refine ⟨ret_int ?_, hS.toExt⟩
        have hm : x ∈ l := by rw [hxy, HNT.out]; exact List.getElem_mem hlt
        have hi : l.idxOf x = k := by
          have h1 : l = l.take k ++ y :: l.drop (k + 1) := by rw [HNT.out, List.getElem_cons_drop, List.take_append_drop]
          have hw := HW.out
          rw [hxy] at hw ⊢
          rw [h1, List.idxOf_append, if_neg hw, List.idxOf_cons_self, List.length_take]
          omega
        rw [idxV, if_pos (by simpa using hm), hi]
      · go_wp2_with (first | (refine oL ?_; (first | refine sL1 hS rfl rfl rfl ?_ | refine sL2 hS rfl rfl rfl ?_ | refine sL3 hS rfl rfl ?_ | refine sL4 hS rfl rfl ?_ | refine sL5 hS rfl rfl ?_ | refine sL6 hS rfl rfl ?_ | refine sL7 hS rfl rfl ?_)) | fail)
        go_roundw
        case measure => simp [intOf]; omega
        refine ⟨k + 1, by omega, by go_num, Lib.hid ?_, hS⟩
        rw [HT.out, ← HNT.out, List.mem_append, List.mem_singleton]
        rintro (h | h)
        · exact HW.out h
        · exact hxy h
    · go_wp2_with (first | (refine oL ?_; (first | refine sL1 hS rfl rfl rfl ?_ | refine sL2 hS rfl rfl rfl ?_ | refine sL3 hS rfl rfl ?_ | refine sL4 hS rfl rfl ?_ | refine sL5 hS rfl rfl ?_ | refine sL6 hS rfl rfl ?_ | refine sL7 hS rfl rfl ?_)) | fail)
      go_ret
      refine ⟨ret_int ?_, hS.toExt⟩
      have hw := HW.out
      rw [List.take_of_length_le (by rw [HN.out]; omega)] at hw
      rw [idxV, if_neg (by simpa using hw)]
set_option maxHeartbeats 800000 in
theorem indexB_any {S : Nat → Prop} (A : Option Addr) (c n : Nat) (l : List Bool) (x : Bool) (w0 : World) (h : RV S w0 A (bools l)) (hn : l.length = n) (hl : n ≤ 1000000) :
    Calls Try.prog 84 #[.slice A n c, .bool x] w0 fun e w' => e = .returned (.int .i64 (idxV l x)) ∧ Ext w0 w' := by
  have hS := St.start w0 NoM
  have HN := Lib.hid hn
  clear hn
  go_enter Try.func84, Try.ntmps84
  go_wp2_with (first | (refine oL ?_; (first | refine sL1 hS rfl rfl rfl ?_ | refine sL2 hS rfl rfl rfl ?_ | refine sL3 hS rfl rfl ?_ | refine sL4 hS rfl rfl ?_ | refine sL5 hS rfl rfl ?_ | refine sL6 hS rfl rfl ?_ | refine sL7 hS rfl rfl ?_)) | fail)
  go_loopw [8] (fun i wr => ∃ k : Nat, k ≤ n ∧ i = .int .i64 k ∧ Hid (¬ x ∈ l.take k) ∧ St w0 NoM [] wr) (fun i _ => n - (intOf i).toNat)
  case atStart => exact ⟨0, Nat.zero_le _, rfl, Lib.hid (by simp), hS⟩
  case round =>
    obtain ⟨k, hk, rfl, HW, hS⟩ := hrel
    by_cases hltn : k < n
    · have hlt : k < l.length := by rw [HN.out]; exact hltn
      obtain ⟨b1, o1, rfl, _, hca⟩ := RB.at_ h hlt
      have HT := Lib.hid (List.take_succ_eq_append_getElem hlt)
      have HNT := Lib.hid (opOf_eq hlt)
      generalize hy : opOf l k = y at *
      by_cases hxy : x = y
      · have e1 : (x == y) = true := by simp [hxy]
        go_wp2_with (first | (refine oL ?_; (first | refine sL1 hS rfl rfl rfl ?_ | refine sL2 hS rfl rfl rfl ?_ | refine sL3 hS rfl rfl ?_ | refine sL4 hS rfl rfl ?_ | refine sL5 hS rfl rfl ?_ | refine sL6 hS rfl rfl ?_ | refine sL7 hS rfl rfl ?_)) | fail)
        go_ret
        refine ⟨ret_int ?_, hS.toExt⟩
        have hm : x ∈ l := by rw [hxy, HNT.out]; exact List.getElem_mem hlt
        have hi : l.idxOf x = k := by
          have h1 : l = l.take k ++ y :: l.drop (k + 1) := by rw [HNT.out, List.getElem_cons_drop, List.take_append_drop]
          have hw := HW.out
          rw [hxy] at hw ⊢
          rw [h1, List.idxOf_append, if_neg hw, List.idxOf_cons_self, List.length_take]
          omega
        rw [idxV, if_pos (by simpa using hm), hi]
      · have e1 : (x == y) = false := by simp [hxy]
        go_wp2_with (first | (refine oL ?_; (first | refine sL1 hS rfl rfl rfl ?_ | refine sL2 hS rfl rfl rfl ?_ | refine sL3 hS rfl rfl ?_ | refine sL4 hS rfl rfl ?_ | refine sL5 hS rfl rfl ?_ | refine sL6 hS rfl rfl ?_ | refine sL7 hS rfl rfl ?_)) | fail)
        go_roundw
        case measure => simp [intOf]; omega
        refine ⟨k + 1, by omega, by go_num, Lib.hid ?_, hS⟩
        rw [HT.out, ← HNT.out, List.mem_append, List.mem_singleton]
        rintro (h | h)
        · exact HW.out h
        · exact hxy h
    · go_wp2_with (first | (refine oL ?_; (first | refine sL1 hS rfl rfl rfl ?_ | refine sL2 hS rfl rfl rfl ?_ | refine sL3 hS rfl rfl ?_ | refine sL4 hS rfl rfl ?_ | refine sL5 hS rfl rfl ?_ | refine sL6 hS rfl rfl ?_ | refine sL7 hS rfl rfl ?_)) | fail)
      go_ret
      refine ⟨ret_int ?_, hS.toExt⟩
      have hw := HW.out
      rw [List.take_of_length_le (by rw [HN.out]; omega)] at hw
      rw [idxV, if_neg (by simpa using hw)]
set_option maxHeartbeats 800000 in
theorem containsI_any {S : Nat → Prop} (A : Option Addr) (c n : Nat) (l : List Int) (x : Int) (w0 : World) (h : RI S w0 A l) (hn : l.length = n) (hl : n ≤ 1000000) :
    Calls Try.prog 61 #[.slice A n c, .int .i64 x] w0 fun e w' => e = .returned (.bool (l.contains x)) ∧ Ext w0 w' := by
  have hS := St.start w0 NoM
  have HD := Lib.hid (idxV_nonneg l x)
  go_enter Try.func61, Try.ntmps61
  go_wp2_with (first | (go_at_call 83; refine (indexI_any _ _ _ l x _ (h.ext hS.toExt) hn hl).mono ?_; rintro e w ⟨rfl, hx1⟩; replace hS := hS.ext hx1) | fail)
  go_ret
  exact ⟨ret_bool (by rw [← HD.out]), hS.toExt⟩
set_option maxHeartbeats 800000 in
theorem containsB_any {S : Nat → Prop} (A : Option Addr) (c n : Nat) (l : List Bool) (x : Bool) (w0 : World) (h : RV S w0 A (bools l)) (hn : l.length = n) (hl : n ≤ 1000000) :
    Calls Try.prog 62 #[.slice A n c, .bool x] w0 fun e w' => e = .returned (.bool (l.contains x)) ∧ Ext w0 w' := by
  have hS := St.start w0 NoM
  have HD := Lib.hid (idxV_nonneg l x)
  go_enter Try.func62, Try.ntmps62
  go_wp2_with (first | (go_at_call 84; refine (indexB_any _ _ _ l x _ (h.ext hS.toExt) hn hl).mono ?_; rintro e w ⟨rfl, hx1⟩; replace hS := hS.ext hx1) | fail)
  go_ret
  exact ⟨ret_bool (by rw [← HD.out]), hS.toExt⟩
/-- a snapshot is complete -/
def compS (s : Snp) : Bool := !s.cut.contains (-1) && !s.opn.contains true
set_option maxRecDepth 100000 in
set_option maxHeartbeats 1600000 in
theorem complete_any {S : Nat → Prop} (v : SV) (s : Snp) (n m : Nat) (w0 : World) (hs : SnAt S w0 v s) (hl : SnLen n m s) (hn : n ≤ 1000) (hm : m ≤ 1000) :
    Calls Try.prog 35 #[v.val n m] w0 fun e w' => e = .returned (.bool (compS s)) ∧ Ext w0 w' := by
  have hS := St.start w0 NoM
  have HP := Lib.hid (And.intro hs hl)
  clear hs hl
  obtain ⟨A1, c1, A2, c2, A3, c3, A4, c4, A5, c5, A6, c6, A7, c7⟩ := v
  simp only [SV.val, SV.cells, compS] at *
  cases h1 : s.cut.contains (-1) with
  | true =>
    have HC := Lib.hid h1
    clear h1
    go_enter Try.func35, Try.ntmps35
    go_upto_region 1 with (first | (refine oL ?_; (first | refine sL1 hS rfl rfl rfl ?_ | refine sL2 hS rfl rfl rfl ?_ | refine sL3 hS rfl rfl ?_ | refine sL4 hS rfl rfl ?_ | refine sL5 hS rfl rfl ?_ | refine sL6 hS rfl rfl ?_ | refine sL7 hS rfl rfl ?_)) | ((first | (refine oB ?_; first | refine sB1 hS rfl rfl ?_ | refine sB2 hS rfl rfl ?_)); clear hS; first | ((fail_if_success guard_hyp g1); intro g1 w hS) | ((fail_if_success guard_hyp g2); intro g2 w hS) | fail) | fail)
    refine lR ?_
    refine lP rfl ?_
    (try simp only [Act.put, nA, nB, nC])
    (refine ⟨?_⟩; ((first | refine sL1 hS rfl rfl rfl ?_ | refine sL2 hS rfl rfl rfl ?_ | refine sL3 hS rfl rfl ?_ | refine sL4 hS rfl rfl ?_ | refine sL5 hS rfl rfl ?_ | refine sL6 hS rfl rfl ?_ | refine sL7 hS rfl rfl ?_)); refine WL.h ?_)
    (try simp only [Act.put, nA, nB, nC])
    (refine ⟨?_⟩; (refine st_call rfl (by kernel_rfl) rfl ?_; go_at_call 61; refine (containsI_any _ _ _ s.cut (-1) _ (HP.out.1.cut.ext hS.toExt) HP.out.2.lk (by omega)).mono ?_; rw [HC.out]; rintro e w ⟨rfl, hx1⟩; replace hS := hS.ext hx1); refine WL.h ?_)
    (try simp only [Act.put, nA, nB, nC])
    refine lP rfl ?_
    (try simp only [Act.put, nA, nB, nC])
    refine lM rfl rfl ?_
    (try simp only [Act.put, nA, nB, nC])
    first | refine lQ rfl ?_ | refine lP rfl ?_ | fail
    (try simp only [Act.put, nA, nB, nC])
    first | refine lQ rfl ?_ | (refine ⟨?_⟩; ((first | refine sL1 hS rfl rfl rfl ?_ | refine sL2 hS rfl rfl rfl ?_ | refine sL3 hS rfl rfl ?_ | refine sL4 hS rfl rfl ?_ | refine sL5 hS rfl rfl ?_ | refine sL6 hS rfl rfl ?_ | refine sL7 hS rfl rfl ?_)); refine WL.h ?_) | fail
    (try simp only [Act.put, nA, nB, nC])
    first | refine lQ rfl ?_ | (refine ⟨?_⟩; (refine st_call rfl (by kernel_rfl) rfl ?_; fail); refine WL.h ?_) | fail
    (try simp only [Act.put, nA, nB, nC])
    first | refine lQ rfl ?_ | refine lP rfl ?_ | fail
    (try simp only [Act.put, nA, nB, nC])
    refine lP rfl ?_
    (try simp only [Act.put, nA, nB, nC])
    refine lA rfl rfl ?_
    (try simp only [Act.put, nA, nB, nC])
    refine lZ ?_
    go_wp2_with (first | (refine oL ?_; (first | refine sL1 hS rfl rfl rfl ?_ | refine sL2 hS rfl rfl rfl ?_ | refine sL3 hS rfl rfl ?_ | refine sL4 hS rfl rfl ?_ | refine sL5 hS rfl rfl ?_ | refine sL6 hS rfl rfl ?_ | refine sL7 hS rfl rfl ?_)) | ((first | (refine oB ?_; first | refine sB1 hS rfl rfl ?_ | refine sB2 hS rfl rfl ?_)); clear hS; first | ((fail_if_success guard_hyp g1); intro g1 w hS) | ((fail_if_success guard_hyp g2); intro g2 w hS) | fail) | fail)
    go_ret
    exact ⟨rfl, hS.toExt⟩
  | false =>
    have HC := Lib.hid h1
    clear h1
    generalize h2 : s.opn.contains true = ob at *
    have HO := Lib.hid h2
    clear h2
    go_enter Try.func35, Try.ntmps35
    go_upto_region 1 with (first | (refine oL ?_; (first | refine sL1 hS rfl rfl rfl ?_ | refine sL2 hS rfl rfl rfl ?_ | refine sL3 hS rfl rfl ?_ | refine sL4 hS rfl rfl ?_ | refine sL5 hS rfl rfl ?_ | refine sL6 hS rfl rfl ?_ | refine sL7 hS rfl rfl ?_)) | ((first | (refine oB ?_; first | refine sB1 hS rfl rfl ?_ | refine sB2 hS rfl rfl ?_)); clear hS; first | ((fail_if_success guard_hyp g1); intro g1 w hS) | ((fail_if_success guard_hyp g2); intro g2 w hS) | fail) | fail)
    refine lR ?_
    refine lP rfl ?_
    (try simp only [Act.put, nA, nB, nC])
    (refine ⟨?_⟩; ((first | refine sL1 hS rfl rfl rfl ?_ | refine sL2 hS rfl rfl rfl ?_ | refine sL3 hS rfl rfl ?_ | refine sL4 hS rfl rfl ?_ | refine sL5 hS rfl rfl ?_ | refine sL6 hS rfl rfl ?_ | refine sL7 hS rfl rfl ?_)); refine WL.h ?_)
    (try simp only [Act.put, nA, nB, nC])
    (refine ⟨?_⟩; (refine st_call rfl (by kernel_rfl) rfl ?_; go_at_call 61; refine (containsI_any _ _ _ s.cut (-1) _ (HP.out.1.cut.ext hS.toExt) HP.out.2.lk (by omega)).mono ?_; rw [HC.out]; rintro e w ⟨rfl, hx1⟩; replace hS := hS.ext hx1); refine WL.h ?_)
    (try simp only [Act.put, nA, nB, nC])
    refine lP rfl ?_
    (try simp only [Act.put, nA, nB, nC])
    refine lM rfl rfl ?_
    (try simp only [Act.put, nA, nB, nC])
    first | refine lQ rfl ?_ | refine lP rfl ?_ | fail
    (try simp only [Act.put, nA, nB, nC])
    first | refine lQ rfl ?_ | (refine ⟨?_⟩; ((first | refine sL1 hS rfl rfl rfl ?_ | refine sL2 hS rfl rfl rfl ?_ | refine sL3 hS rfl rfl ?_ | refine sL4 hS rfl rfl ?_ | refine sL5 hS rfl rfl ?_ | refine sL6 hS rfl rfl ?_ | refine sL7 hS rfl rfl ?_)); refine WL.h ?_) | fail
    (try simp only [Act.put, nA, nB, nC])
    first | refine lQ rfl ?_ | (refine ⟨?_⟩; (refine st_call rfl (by kernel_rfl) rfl ?_; go_at_call 62; refine (containsB_any _ _ _ s.opn true _ (HP.out.1.opn.ext hS.toExt) HP.out.2.lo (by omega)).mono ?_; rw [HO.out]; rintro e w ⟨rfl, hx1⟩; replace hS := hS.ext hx1); refine WL.h ?_) | fail
    (try simp only [Act.put, nA, nB, nC])
    first | refine lQ rfl ?_ | refine lP rfl ?_ | fail
    (try simp only [Act.put, nA, nB, nC])
    refine lP rfl ?_
    (try simp only [Act.put, nA, nB, nC])
    refine lA rfl rfl ?_
    (try simp only [Act.put, nA, nB, nC])
    refine lZ ?_
    go_wp2_with (first | (refine oL ?_; (first | refine sL1 hS rfl rfl rfl ?_ | refine sL2 hS rfl rfl rfl ?_ | refine sL3 hS rfl rfl ?_ | refine sL4 hS rfl rfl ?_ | refine sL5 hS rfl rfl ?_ | refine sL6 hS rfl rfl ?_ | refine sL7 hS rfl rfl ?_)) | ((first | (refine oB ?_; first | refine sB1 hS rfl rfl ?_ | refine sB2 hS rfl rfl ?_)); clear hS; first | ((fail_if_success guard_hyp g1); intro g1 w hS) | ((fail_if_success guard_hyp g2); intro g2 w hS) | fail) | fail)
    go_ret
    exact ⟨by simp, hS.toExt⟩
/-- the totals -/
def totP (s : Snp) : Int := wsum 0 (s.vals ++ s.chs.flatMap pvals)
def totR (s : Snp) : Int := wsum 0 (s.saved ++ s.recs.flatMap id)
theorem wsum_snoc (a : Int) (l : List Int) (x : Int) : wsum a (l ++ [x]) = wrap64 (wsum a l + x) := by rw [wsum_append]; rfl
theorem wsum_take {a : Int} {l : List Int} {k : Nat} (hk : k < l.length) : wsum a (l.take (k + 1)) = wrap64 (wsum a (l.take k) + nth l k) := by
  rw [List.take_succ_eq_append_getElem hk, wsum_snoc, nth_eq hk]
theorem flat_take {α : Type} {f : α → List Int} {l : List α} {k : Nat} (hk : k < l.length) : (l.take (k + 1)).flatMap f = (l.take k).flatMap f ++ f l[k] := by
  rw [List.take_succ_eq_append_getElem hk, List.flatMap_append]; simp
theorem pv_take {l : List Pcl} {j : Nat} (hj : j < l.length) : pvals (l.take (j + 1)) = if l[j].1 = true then pvals (l.take j) else pvals (l.take j) ++ [l[j].2] := by
  rw [List.take_succ_eq_append_getElem hj, pvals_append]
  cases h : l[j] with
  | mk mk x =>
    cases mk
    · simp [pvals_val]
    · simp [pvals_mark]
set_option maxRecDepth 100000 in
set_option maxHeartbeats 6400000 in
theorem totals_any {S : Nat → Prop} (v : SV) (s : Snp) (n m : Nat) (w0 : World) (hs : SnAt S w0 v s) (hl : SnLen n m s) (hn : n ≤ 1000) (hm : m ≤ 1000) :
    Calls Try.prog 50 #[v.val n m] w0 fun e w' => e = .returned (.tuple #[.int .i64 (totP s), .int .i64 (totR s)]) ∧ Ext w0 w' := by
  have hS := St.start w0 NoM
  have HP := Lib.hid (And.intro hs hl)
  clear hs hl
  obtain ⟨A1, c1, A2, c2, A3, c3, A4, c4, A5, c5, A6, c6, A7, c7⟩ := v
  simp only [SV.val, SV.cells, totP, totR] at *
  go_enter Try.func50, Try.ntmps50
  go_wp2_with (first | (refine oL ?_; (first | refine sL1 hS rfl rfl rfl ?_ | refine sL2 hS rfl rfl rfl ?_ | refine sL3 hS rfl rfl ?_ | refine sL4 hS rfl rfl ?_ | refine sL5 hS rfl rfl ?_ | refine sL6 hS rfl rfl ?_ | refine sL7 hS rfl rfl ?_)) | (refine oS ?_; ((first | refine sS1 hS rfl rfl rfl ?_ | refine sS2 hS rfl rfl rfl ?_ | refine sS3 hS rfl rfl rfl ?_ | refine sS4 hS rfl rfl rfl ?_ | refine sS5 hS rfl rfl rfl ?_); clear hS; intro w hS)) | ((first | (refine oB ?_; first | refine sB1 hS rfl rfl ?_ | refine sB2 hS rfl rfl ?_) | refine sN1 hS rfl ?_); clear hS; first | ((fail_if_success guard_hyp g1); intro g1 w hS) | ((fail_if_success guard_hyp g2); intro g2 w hS) | ((fail_if_success guard_hyp g3); intro g3 w hS) | fail) | fail)
  go_loopw [2, 19] (fun s2 s19 wr => ∃ (k : Nat) (a : Int), k ≤ n ∧ s19 = .int .i64 k ∧ s2 = .int .i64 a ∧ Hid (a = wsum 0 (s.vals.take k)) ∧ St w0 NoM [blk g1 [.slice A1 n c1, .slice A2 n c2, .slice A3 m c3, .slice A4 n c4, .slice A5 n c5, .slice A6 m c6, .slice A7 m c7] 56] wr) (fun _ s19 _ => n - (intOf s19).toNat)
  case atStart => exact ⟨0, 0, by omega, rfl, rfl, Lib.hid rfl, hS⟩
  case round =>
    obtain ⟨k, a, hk, rfl, rfl, HA, hS⟩ := hrel
    by_cases hlt : k < n
    · have hkl : k < s.vals.length := by rw [HP.out.2.lv]; exact hlt
      obtain ⟨b1, o1, e1, _, hca⟩ := HP.out.1.vals.atNS hkl
      simp only at e1
      subst e1
      have HT := Lib.hid (wsum_take (a := 0) hkl)
      clear hkl
      generalize nth s.vals k = x at *
      go_wp2_with (first | (refine oL ?_; (first | refine sL1 hS rfl rfl rfl ?_ | refine sL2 hS rfl rfl rfl ?_ | refine sL3 hS rfl rfl ?_ | refine sL4 hS rfl rfl ?_ | refine sL5 hS rfl rfl ?_ | refine sL6 hS rfl rfl ?_ | refine sL7 hS rfl rfl ?_)) | (refine oS ?_; ((first | refine sS1 hS rfl rfl rfl ?_ | refine sS2 hS rfl rfl rfl ?_ | refine sS3 hS rfl rfl rfl ?_ | refine sS4 hS rfl rfl rfl ?_ | refine sS5 hS rfl rfl rfl ?_); clear hS; intro w hS)) | ((first | (refine oB ?_; first | refine sB1 hS rfl rfl ?_ | refine sB2 hS rfl rfl ?_) | refine sN1 hS rfl ?_); clear hS; first | ((fail_if_success guard_hyp g1); intro g1 w hS) | ((fail_if_success guard_hyp g2); intro g2 w hS) | ((fail_if_success guard_hyp g3); intro g3 w hS) | fail) | fail)
      go_roundw
      case measure => simp [intOf]; omega
      exact ⟨k + 1, wrap64 (a + x), by omega, by go_num, rfl, Lib.hid (by rw [HT.out, HA.out]), hS⟩
    · have HA2 := Lib.hid (show a = wsum 0 s.vals by rw [HA.out, List.take_of_length_le (by rw [HP.out.2.lv]; omega)])
      clear HA
      go_wp2_with (first | (refine oL ?_; (first | refine sL1 hS rfl rfl rfl ?_ | refine sL2 hS rfl rfl rfl ?_ | refine sL3 hS rfl rfl ?_ | refine sL4 hS rfl rfl ?_ | refine sL5 hS rfl rfl ?_ | refine sL6 hS rfl rfl ?_ | refine sL7 hS rfl rfl ?_)) | (refine oS ?_; ((first | refine sS1 hS rfl rfl rfl ?_ | refine sS2 hS rfl rfl rfl ?_ | refine sS3 hS rfl rfl rfl ?_ | refine sS4 hS rfl rfl rfl ?_ | refine sS5 hS rfl rfl rfl ?_); clear hS; intro w hS)) | ((first | (refine oB ?_; first | refine sB1 hS rfl rfl ?_ | refine sB2 hS rfl rfl ?_) | refine sN1 hS rfl ?_); clear hS; first | ((fail_if_success guard_hyp g1); intro g1 w hS) | ((fail_if_success guard_hyp g2); intro g2 w hS) | ((fail_if_success guard_hyp g3); intro g3 w hS) | fail) | fail)
      clear hlt hk
      go_loopw [2, 30] (fun s2 s30 wr => ∃ (k : Nat) (a : Int), k ≤ m ∧ s30 = .int .i64 k ∧ s2 = .int .i64 a ∧ Hid (a = wsum 0 (s.vals ++ (s.chs.take k).flatMap pvals)) ∧ St w0 NoM [blk g1 [.slice A1 n c1, .slice A2 n c2, .slice A3 m c3, .slice A4 n c4, .slice A5 n c5, .slice A6 m c6, .slice A7 m c7] 56] wr) (fun _ s30 _ => m - (intOf s30).toNat)
      case atStart => exact ⟨0, a, by omega, rfl, rfl, Lib.hid (by simpa using HA2.out), hS⟩
      case round =>
        clear HA2
        obtain ⟨k, a, hk, rfl, rfl, HA, hS⟩ := hrel
        by_cases hlt : k < m
        · have hkl : k < s.chs.length := by rw [HP.out.2.lh]; exact hlt
          obtain ⟨b1, o1, B, cB, e1, _, hcell, hcB, hcB', hB⟩ := HP.out.1.chs.atC hkl
          simp only at e1
          subst e1
          have HF := Lib.hid (show (s.chs.take (k + 1)).flatMap pvals = (s.chs.take k).flatMap pvals ++ pvals (chOf s.chs k) by rw [flat_take hkl, chOf_eq hkl])
          have hrl : (chOf s.chs k).length ≤ 1000000 := by rw [chOf_eq hkl]; exact HP.out.2.hb _ (List.getElem_mem hkl)
          have HB := Lib.hid hB
          clear hB hkl
          generalize chOf s.chs k = l at *
          go_wp2_with (first | (refine oL ?_; (first | refine sL1 hS rfl rfl rfl ?_ | refine sL2 hS rfl rfl rfl ?_ | refine sL3 hS rfl rfl ?_ | refine sL4 hS rfl rfl ?_ | refine sL5 hS rfl rfl ?_ | refine sL6 hS rfl rfl ?_ | refine sL7 hS rfl rfl ?_)) | (refine oS ?_; ((first | refine sS1 hS rfl rfl rfl ?_ | refine sS2 hS rfl rfl rfl ?_ | refine sS3 hS rfl rfl rfl ?_ | refine sS4 hS rfl rfl rfl ?_ | refine sS5 hS rfl rfl rfl ?_); clear hS; intro w hS)) | ((first | (refine oB ?_; first | refine sB1 hS rfl rfl ?_ | refine sB2 hS rfl rfl ?_) | refine sN1 hS rfl ?_); clear hS; first | ((fail_if_success guard_hyp g1); intro g1 w hS) | ((fail_if_success guard_hyp g2); intro g2 w hS) | ((fail_if_success guard_hyp g3); intro g3 w hS) | fail) | fail)
          go_loopw [2, 36] (fun s2 s36 wr => ∃ (j : Nat) (a : Int), j ≤ l.length ∧ s36 = .int .i64 j ∧ s2 = .int .i64 a ∧ Hid (a = wsum 0 (s.vals ++ (s.chs.take k).flatMap pvals ++ pvals (l.take j))) ∧ St w0 NoM [blk g1 [.slice A1 n c1, .slice A2 n c2, .slice (some ⟨b1, o1, none⟩) m c3, .slice A4 n c4, .slice A5 n c5, .slice A6 m c6, .slice A7 m c7] 56] wr) (fun _ s36 _ => l.length - (intOf s36).toNat)
          case atStart => exact ⟨0, a, by omega, rfl, rfl, Lib.hid (by rw [HA.out]; simp [pvals]), hS⟩
          case round =>
            clear HA
            obtain ⟨j, a, hj, rfl, rfl, HA, hS⟩ := hrel
            by_cases hjl : j < l.length
            · obtain ⟨b3, o3, rfl, _, hc3⟩ := pcs_cells HB.out hjl
              have HPV := Lib.hid (pv_take hjl)
              generalize l[j] = x at *
              obtain ⟨mk, xv⟩ := x
              simp only at hc3 HPV
              cases mk with
              | true =>
                go_wp2_with (first | (refine oL ?_; (first | refine sL1 hS rfl rfl rfl ?_ | refine sL2 hS rfl rfl rfl ?_ | refine sL3 hS rfl rfl ?_ | refine sL4 hS rfl rfl ?_ | refine sL5 hS rfl rfl ?_ | refine sL6 hS rfl rfl ?_ | refine sL7 hS rfl rfl ?_)) | (refine oS ?_; ((first | refine sS1 hS rfl rfl rfl ?_ | refine sS2 hS rfl rfl rfl ?_ | refine sS3 hS rfl rfl rfl ?_ | refine sS4 hS rfl rfl rfl ?_ | refine sS5 hS rfl rfl rfl ?_); clear hS; intro w hS)) | ((first | (refine oB ?_; first | refine sB1 hS rfl rfl ?_ | refine sB2 hS rfl rfl ?_) | refine sN1 hS rfl ?_); clear hS; first | ((fail_if_success guard_hyp g1); intro g1 w hS) | ((fail_if_success guard_hyp g2); intro g2 w hS) | ((fail_if_success guard_hyp g3); intro g3 w hS) | fail) | fail)
                go_roundw
                case measure => simp [intOf]; omega
                exact ⟨j + 1, a, by omega, by go_num, rfl, Lib.hid (by have h := HPV.out; rw [if_pos rfl] at h; rw [h]; exact HA.out), hS.re⟩
              | false =>
                go_wp2_with (first | (refine oL ?_; (first | refine sL1 hS rfl rfl rfl ?_ | refine sL2 hS rfl rfl rfl ?_ | refine sL3 hS rfl rfl ?_ | refine sL4 hS rfl rfl ?_ | refine sL5 hS rfl rfl ?_ | refine sL6 hS rfl rfl ?_ | refine sL7 hS rfl rfl ?_)) | (refine oS ?_; ((first | refine sS1 hS rfl rfl rfl ?_ | refine sS2 hS rfl rfl rfl ?_ | refine sS3 hS rfl rfl rfl ?_ | refine sS4 hS rfl rfl rfl ?_ | refine sS5 hS rfl rfl rfl ?_); clear hS; intro w hS)) | ((first | (refine oB ?_; first | refine sB1 hS rfl rfl ?_ | refine sB2 hS rfl rfl ?_) | refine sN1 hS rfl ?_); clear hS; first | ((fail_if_success guard_hyp g1); intro g1 w hS) | ((fail_if_success guard_hyp g2); intro g2 w hS) | ((fail_if_success guard_hyp g3); intro g3 w hS) | fail) | fail)
                go_roundw
                case measure => simp [intOf]; omega
                refine ⟨j + 1, wrap64 (a + xv), by omega, by go_num, rfl, Lib.hid ?_, hS.re⟩
                have h := HPV.out
                rw [if_neg (by simp)] at h
                rw [h, ← List.append_assoc, wsum_snoc, HA.out]
            · have HA3 := Lib.hid (show a = wsum 0 (s.vals ++ (s.chs.take (k + 1)).flatMap pvals) by have h9 : l.take j = l := List.take_of_length_le (by omega); rw [HA.out, h9, HF.out, List.append_assoc])
              clear HA
              go_wp2_with (first | (refine oL ?_; (first | refine sL1 hS rfl rfl rfl ?_ | refine sL2 hS rfl rfl rfl ?_ | refine sL3 hS rfl rfl ?_ | refine sL4 hS rfl rfl ?_ | refine sL5 hS rfl rfl ?_ | refine sL6 hS rfl rfl ?_ | refine sL7 hS rfl rfl ?_)) | (refine oS ?_; ((first | refine sS1 hS rfl rfl rfl ?_ | refine sS2 hS rfl rfl rfl ?_ | refine sS3 hS rfl rfl rfl ?_ | refine sS4 hS rfl rfl rfl ?_ | refine sS5 hS rfl rfl rfl ?_); clear hS; intro w hS)) | ((first | (refine oB ?_; first | refine sB1 hS rfl rfl ?_ | refine sB2 hS rfl rfl ?_) | refine sN1 hS rfl ?_); clear hS; first | ((fail_if_success guard_hyp g1); intro g1 w hS) | ((fail_if_success guard_hyp g2); intro g2 w hS) | ((fail_if_success guard_hyp g3); intro g3 w hS) | fail) | fail)
              go_roundw
              case measure => simp [intOf]; omega
              exact ⟨k + 1, a, by omega, by go_num, rfl, HA3, hS.re⟩
        · have HAE := Lib.hid (show wsum 0 (s.vals ++ s.chs.flatMap pvals) = a by rw [HA.out, List.take_of_length_le (by rw [HP.out.2.lh]; omega)])
          clear HA
          go_wp2_with (first | (refine oL ?_; (first | refine sL1 hS rfl rfl rfl ?_ | refine sL2 hS rfl rfl rfl ?_ | refine sL3 hS rfl rfl ?_ | refine sL4 hS rfl rfl ?_ | refine sL5 hS rfl rfl ?_ | refine sL6 hS rfl rfl ?_ | refine sL7 hS rfl rfl ?_)) | (refine oS ?_; ((first | refine sS1 hS rfl rfl rfl ?_ | refine sS2 hS rfl rfl rfl ?_ | refine sS3 hS rfl rfl rfl ?_ | refine sS4 hS rfl rfl rfl ?_ | refine sS5 hS rfl rfl rfl ?_); clear hS; intro w hS)) | ((first | (refine oB ?_; first | refine sB1 hS rfl rfl ?_ | refine sB2 hS rfl rfl ?_) | refine sN1 hS rfl ?_); clear hS; first | ((fail_if_success guard_hyp g1); intro g1 w hS) | ((fail_if_success guard_hyp g2); intro g2 w hS) | ((fail_if_success guard_hyp g3); intro g3 w hS) | fail) | fail)
          clear hlt hk
          go_loopw [3, 52] (fun s3 s52 wr => ∃ (k : Nat) (r : Int), k ≤ n ∧ s52 = .int .i64 k ∧ s3 = .int .i64 r ∧ Hid (r = wsum 0 (s.saved.take k)) ∧ St w0 NoM [blk g1 [.slice A1 n c1, .slice A2 n c2, .slice A3 m c3, .slice A4 n c4, .slice A5 n c5, .slice A6 m c6, .slice A7 m c7] 56] wr) (fun _ s52 _ => n - (intOf s52).toNat)
          case atStart => exact ⟨0, 0, by omega, rfl, rfl, Lib.hid rfl, hS⟩
          case round =>
            obtain ⟨k, r, hk, rfl, rfl, HR, hS⟩ := hrel
            by_cases hlt : k < n
            · have hkl : k < s.saved.length := by rw [HP.out.2.ls]; exact hlt
              obtain ⟨b1, o1, e1, _, hca⟩ := HP.out.1.saved.atNS hkl
              simp only at e1
              subst e1
              have HT := Lib.hid (wsum_take (a := 0) hkl)
              clear hkl
              generalize nth s.saved k = x at *
              go_wp2_with (first | (refine oL ?_; (first | refine sL1 hS rfl rfl rfl ?_ | refine sL2 hS rfl rfl rfl ?_ | refine sL3 hS rfl rfl ?_ | refine sL4 hS rfl rfl ?_ | refine sL5 hS rfl rfl ?_ | refine sL6 hS rfl rfl ?_ | refine sL7 hS rfl rfl ?_)) | (refine oS ?_; ((first | refine sS1 hS rfl rfl rfl ?_ | refine sS2 hS rfl rfl rfl ?_ | refine sS3 hS rfl rfl rfl ?_ | refine sS4 hS rfl rfl rfl ?_ | refine sS5 hS rfl rfl rfl ?_); clear hS; intro w hS)) | ((first | (refine oB ?_; first | refine sB1 hS rfl rfl ?_ | refine sB2 hS rfl rfl ?_) | refine sN1 hS rfl ?_); clear hS; first | ((fail_if_success guard_hyp g1); intro g1 w hS) | ((fail_if_success guard_hyp g2); intro g2 w hS) | ((fail_if_success guard_hyp g3); intro g3 w hS) | fail) | fail)
              go_roundw
              case measure => simp [intOf]; omega
              exact ⟨k + 1, wrap64 (r + x), by omega, by go_num, rfl, Lib.hid (by rw [HT.out, HR.out]), hS⟩
            · have HR2 := Lib.hid (show r = wsum 0 s.saved by rw [HR.out, List.take_of_length_le (by rw [HP.out.2.ls]; omega)])
              clear HR
              go_wp2_with (first | (refine oL ?_; (first | refine sL1 hS rfl rfl rfl ?_ | refine sL2 hS rfl rfl rfl ?_ | refine sL3 hS rfl rfl ?_ | refine sL4 hS rfl rfl ?_ | refine sL5 hS rfl rfl ?_ | refine sL6 hS rfl rfl ?_ | refine sL7 hS rfl rfl ?_)) | (refine oS ?_; ((first | refine sS1 hS rfl rfl rfl ?_ | refine sS2 hS rfl rfl rfl ?_ | refine sS3 hS rfl rfl rfl ?_ | refine sS4 hS rfl rfl rfl ?_ | refine sS5 hS rfl rfl rfl ?_); clear hS; intro w hS)) | ((first | (refine oB ?_; first | refine sB1 hS rfl rfl ?_ | refine sB2 hS rfl rfl ?_) | refine sN1 hS rfl ?_); clear hS; first | ((fail_if_success guard_hyp g1); intro g1 w hS) | ((fail_if_success guard_hyp g2); intro g2 w hS) | ((fail_if_success guard_hyp g3); intro g3 w hS) | fail) | fail)
              clear hlt hk
              go_loopw [3, 63] (fun s3 s63 wr => ∃ (k : Nat) (r : Int), k ≤ m ∧ s63 = .int .i64 k ∧ s3 = .int .i64 r ∧ Hid (r = wsum 0 (s.saved ++ (s.recs.take k).flatMap id)) ∧ St w0 NoM [blk g1 [.slice A1 n c1, .slice A2 n c2, .slice A3 m c3, .slice A4 n c4, .slice A5 n c5, .slice A6 m c6, .slice A7 m c7] 56] wr) (fun _ s63 _ => m - (intOf s63).toNat)
              case atStart => exact ⟨0, r, by omega, rfl, rfl, Lib.hid (by simpa using HR2.out), hS⟩
              case round =>
                clear HR2
                obtain ⟨k, r, hk, rfl, rfl, HR, hS⟩ := hrel
                by_cases hlt : k < m
                · have hkl : k < s.recs.length := by rw [HP.out.2.lr]; exact hlt
                  obtain ⟨b1, o1, B, cB, e1, _, hcell, hcB, hcB', hB⟩ := HP.out.1.recs.atR hkl
                  simp only at e1
                  subst e1
                  have HF := Lib.hid (show (s.recs.take (k + 1)).flatMap id = (s.recs.take k).flatMap id ++ rowOf s.recs k by rw [flat_take hkl, rowOf_eq hkl]; rfl)
                  have hrl : (rowOf s.recs k).length ≤ 1000000 := by rw [rowOf_eq hkl]; exact HP.out.2.rb _ (List.getElem_mem hkl)
                  have HB := Lib.hid hB
                  clear hB hkl
                  generalize rowOf s.recs k = l at *
                  go_wp2_with (first | (refine oL ?_; (first | refine sL1 hS rfl rfl rfl ?_ | refine sL2 hS rfl rfl rfl ?_ | refine sL3 hS rfl rfl ?_ | refine sL4 hS rfl rfl ?_ | refine sL5 hS rfl rfl ?_ | refine sL6 hS rfl rfl ?_ | refine sL7 hS rfl rfl ?_)) | (refine oS ?_; ((first | refine sS1 hS rfl rfl rfl ?_ | refine sS2 hS rfl rfl rfl ?_ | refine sS3 hS rfl rfl rfl ?_ | refine sS4 hS rfl rfl rfl ?_ | refine sS5 hS rfl rfl rfl ?_); clear hS; intro w hS)) | ((first | (refine oB ?_; first | refine sB1 hS rfl rfl ?_ | refine sB2 hS rfl rfl ?_) | refine sN1 hS rfl ?_); clear hS; first | ((fail_if_success guard_hyp g1); intro g1 w hS) | ((fail_if_success guard_hyp g2); intro g2 w hS) | ((fail_if_success guard_hyp g3); intro g3 w hS) | fail) | fail)
                  go_loopw [3, 69] (fun s3 s69 wr => ∃ (j : Nat) (r : Int), j ≤ l.length ∧ s69 = .int .i64 j ∧ s3 = .int .i64 r ∧ Hid (r = wsum 0 (s.saved ++ (s.recs.take k).flatMap id ++ l.take j)) ∧ St w0 NoM [blk g1 [.slice A1 n c1, .slice A2 n c2, .slice A3 m c3, .slice A4 n c4, .slice A5 n c5, .slice A6 m c6, .slice (some ⟨b1, o1, none⟩) m c7] 56] wr) (fun _ s69 _ => l.length - (intOf s69).toNat)
                  case atStart => exact ⟨0, r, by omega, rfl, rfl, Lib.hid (by rw [HR.out]; simp), hS⟩
                  case round =>
                    clear HR
                    obtain ⟨j, r, hj, rfl, rfl, HR, hS⟩ := hrel
                    by_cases hjl : j < l.length
                    · obtain ⟨b3, o3, rfl, _, hc3⟩ := HB.out.atNS hjl
                      have HT := Lib.hid (show l.take (j + 1) = l.take j ++ [nth l j] by rw [List.take_succ_eq_append_getElem hjl, nth_eq hjl])
                      generalize nth l j = x at *
                      go_wp2_with (first | (refine oL ?_; (first | refine sL1 hS rfl rfl rfl ?_ | refine sL2 hS rfl rfl rfl ?_ | refine sL3 hS rfl rfl ?_ | refine sL4 hS rfl rfl ?_ | refine sL5 hS rfl rfl ?_ | refine sL6 hS rfl rfl ?_ | refine sL7 hS rfl rfl ?_)) | (refine oS ?_; ((first | refine sS1 hS rfl rfl rfl ?_ | refine sS2 hS rfl rfl rfl ?_ | refine sS3 hS rfl rfl rfl ?_ | refine sS4 hS rfl rfl rfl ?_ | refine sS5 hS rfl rfl rfl ?_); clear hS; intro w hS)) | ((first | (refine oB ?_; first | refine sB1 hS rfl rfl ?_ | refine sB2 hS rfl rfl ?_) | refine sN1 hS rfl ?_); clear hS; first | ((fail_if_success guard_hyp g1); intro g1 w hS) | ((fail_if_success guard_hyp g2); intro g2 w hS) | ((fail_if_success guard_hyp g3); intro g3 w hS) | fail) | fail)
                      go_roundw
                      case measure => simp [intOf]; omega
                      refine ⟨j + 1, wrap64 (r + x), by omega, by go_num, rfl, Lib.hid ?_, hS.re⟩
                      rw [HT.out, ← List.append_assoc, wsum_snoc, HR.out]
                    · have HR3 := Lib.hid (show r = wsum 0 (s.saved ++ (s.recs.take (k + 1)).flatMap id) by have h9 : l.take j = l := List.take_of_length_le (by omega); rw [HR.out, h9, HF.out, List.append_assoc])
                      clear HR
                      go_wp2_with (first | (refine oL ?_; (first | refine sL1 hS rfl rfl rfl ?_ | refine sL2 hS rfl rfl rfl ?_ | refine sL3 hS rfl rfl ?_ | refine sL4 hS rfl rfl ?_ | refine sL5 hS rfl rfl ?_ | refine sL6 hS rfl rfl ?_ | refine sL7 hS rfl rfl ?_)) | (refine oS ?_; ((first | refine sS1 hS rfl rfl rfl ?_ | refine sS2 hS rfl rfl rfl ?_ | refine sS3 hS rfl rfl rfl ?_ | refine sS4 hS rfl rfl rfl ?_ | refine sS5 hS rfl rfl rfl ?_); clear hS; intro w hS)) | ((first | (refine oB ?_; first | refine sB1 hS rfl rfl ?_ | refine sB2 hS rfl rfl ?_) | refine sN1 hS rfl ?_); clear hS; first | ((fail_if_success guard_hyp g1); intro g1 w hS) | ((fail_if_success guard_hyp g2); intro g2 w hS) | ((fail_if_success guard_hyp g3); intro g3 w hS) | fail) | fail)
                      go_roundw
                      case measure => simp [intOf]; omega
                      exact ⟨k + 1, r, by omega, by go_num, rfl, HR3, hS.re⟩
                · have HRE := Lib.hid (show wsum 0 (s.saved ++ s.recs.flatMap id) = r by rw [HR.out, List.take_of_length_le (by rw [HP.out.2.lr]; omega)])
                  clear HR
                  go_wp2_with (first | (refine oL ?_; (first | refine sL1 hS rfl rfl rfl ?_ | refine sL2 hS rfl rfl rfl ?_ | refine sL3 hS rfl rfl ?_ | refine sL4 hS rfl rfl ?_ | refine sL5 hS rfl rfl ?_ | refine sL6 hS rfl rfl ?_ | refine sL7 hS rfl rfl ?_)) | (refine oS ?_; ((first | refine sS1 hS rfl rfl rfl ?_ | refine sS2 hS rfl rfl rfl ?_ | refine sS3 hS rfl rfl rfl ?_ | refine sS4 hS rfl rfl rfl ?_ | refine sS5 hS rfl rfl rfl ?_); clear hS; intro w hS)) | ((first | (refine oB ?_; first | refine sB1 hS rfl rfl ?_ | refine sB2 hS rfl rfl ?_) | refine sN1 hS rfl ?_); clear hS; first | ((fail_if_success guard_hyp g1); intro g1 w hS) | ((fail_if_success guard_hyp g2); intro g2 w hS) | ((fail_if_success guard_hyp g3); intro g3 w hS) | fail) | fail)
                  go_ret2
                  exact ⟨by rw [HAE.out, HRE.out]; rfl, hS.toExt⟩
end Go.Proofs.Ytombhhhaidmpeaa
