/- rollbacknetref23.record. Conditions: the machine is the caller's own, the numbers are in range. -/
import Derived.Test.YtkaofbjppibdkaaSnFam
namespace Go.Proofs.Ytkaofbjppibdkaa
open Go.RowKit
set_option linter.unusedVariables false
set_option linter.unusedSimpArgs false
set_option linter.unusedSectionVars false

theorem pcs_snoc (l : List Pcl) (b : Bool) (x : Int) : pcs l ++ [.bool b, .int .i64 x] = pcs (l ++ [((b, x) : Pcl)]) := by rw [pcs_append, pcs_one]
theorem fst_set (rs : List RwD) (k : Nat) (x : RwD) : (rs.set k x).map (·.1) = (rs.map (·.1)).set k x.1 := List.map_set ..
/-- a row taken out of a family, longer, put back -/
theorem fam_back {w0 w : World} {M : Nat → Prop} {cs : List (Chunk w0 M)} {k : Nat} {L : Option Addr} {c : Nat} {l : List Pcl} {b : Bool} {x : Int} {rs : List RwD} {e : TypeId} (h : St w0 M (row (.slice L (l.length + 1) c) e 2 (l.length + 1) (pcs l ++ [.bool b, .int .i64 x]) :: fam2 e 2 (rs.set k nilR2) :: cs) w) :
    St w0 M (fam2 e 2 (rs.set k (.slice L (l ++ [((b, x) : Pcl)]).length c, (l ++ [((b, x) : Pcl)]).length, pcs (l ++ [((b, x) : Pcl)]))) :: cs) w := by
  rw [pcs_snoc] at h
  have h2 := h.fam2Put (j := k)
  rw [List.set_set] at h2
  rw [List.length_append, List.length_singleton]
  exact h2
set_option maxRecDepth 100000 in
set_option maxHeartbeats 6400000 in
theorem rrecord_st {w0 w : World} {M : Nat → Prop} {cs : List (Chunk w0 M)} (gm gv gc gh gk gd go gr kv kc kh kk kd ko kr n nn b : Nat) (s : Snp) (rs : List RwD) (hv : List Value) (q k0 : Nat) (hS : St w0 M (blk gm [.slice (some ⟨gv, 0, none⟩) n kv, .slice (some ⟨gc, 0, none⟩) n kc, .slice (some ⟨gh, 0, none⟩) nn kh, .slice (some ⟨gk, 0, none⟩) n kk, .slice (some ⟨gd, 0, none⟩) n kd, .slice (some ⟨go, 0, none⟩) nn ko, .slice (some ⟨gr, 0, none⟩) nn kr] 28 :: row (.slice (some ⟨gh, 0, none⟩) nn kh) 46 1 nn hv :: fam2 48 2 rs :: row (.slice (some ⟨gv, 0, none⟩) n kv) 3 1 n (ints s.vals) :: row (.slice (some ⟨gc, 0, none⟩) n kc) 3 1 n (ints s.cnts) :: row (.slice (some ⟨gk, 0, none⟩) n kk) 3 1 n (ints s.cut) :: row (.slice (some ⟨gd, 0, none⟩) n kd) 3 1 n (ints s.saved) :: row (.slice (some ⟨go, 0, none⟩) nn ko) 4 1 nn (bools s.opn) :: cs) w) (hok : SnOk n b s) (hnn : n * n = nn) (hb : b ≤ 10001) (hf : FamX k0 rs hv s.chs) (hk0 : ∀ r, r < n → r ≠ q → q * n + r ≠ k0) (hq : q < n) (s2 : Snp) (hs2 : recR s q n = s2) :
    Calls Try.prog 43 #[.pointer (some ⟨gm, 0, none⟩), .int .i64 (q : Int)] w fun e w' => e = .returned (.tuple #[]) ∧ ∃ rs' hv', Hid (FamX k0 rs' hv' s2.chs ∧ hv'[k0]? = hv[k0]?) ∧ St w0 M (blk gm [.slice (some ⟨gv, 0, none⟩) n kv, .slice (some ⟨gc, 0, none⟩) n kc, .slice (some ⟨gh, 0, none⟩) nn kh, .slice (some ⟨gk, 0, none⟩) n kk, .slice (some ⟨gd, 0, none⟩) n kd, .slice (some ⟨go, 0, none⟩) nn ko, .slice (some ⟨gr, 0, none⟩) nn kr] 28 :: row (.slice (some ⟨gh, 0, none⟩) nn kh) 46 1 nn hv' :: fam2 48 2 rs' :: row (.slice (some ⟨gv, 0, none⟩) n kv) 3 1 n (ints s2.vals) :: row (.slice (some ⟨gc, 0, none⟩) n kc) 3 1 n (ints s2.cnts) :: row (.slice (some ⟨gk, 0, none⟩) n kk) 3 1 n (ints s2.cut) :: row (.slice (some ⟨gd, 0, none⟩) n kd) 3 1 n (ints s2.saved) :: row (.slice (some ⟨go, 0, none⟩) nn ko) 4 1 nn (bools s2.opn) :: cs) w' := by
  have hn5 := hok.n5
  have hnn25 : nn ≤ 25 := by rw [← hnn]; exact Nat.mul_le_mul hn5 hn5
  have hqk : q < s.cut.length := by rw [hok.lk]; exact hq
  have hqv := ints_at (l := s.vals) (q := q) (by rw [hok.lv]; exact hq)
  have hqc := ints_at (l := s.cnts) (q := q) (by rw [hok.lc]; exact hq)
  have hqd : q < s.saved.length := by rw [hok.ls]; exact hq
  have hq' : (q : Int) < n := by omega
  have HH := Lib.hid (And.intro hf (And.intro hok hnn))
  have HK0 := Lib.hid hk0
  have HN := Lib.hid hok.lv
  have HS2 := Lib.hid hs2
  clear hok hf hnn hs2 hk0
  generalize hvq : nth s.vals q = vq at *
  generalize hcn : nth s.cnts q = cn at *
  have HVQ := Lib.hid hvq
  have HCN := Lib.hid hcn
  clear hvq hcn
  go_enter Try.func43, Try.ntmps43
  go_wp2_with (first | (refine oL ?_; (first | refine sL1 hS rfl rfl rfl ?_ | refine sL2 hS rfl rfl rfl ?_ | refine sL3 hS rfl rfl ?_ | refine sL4 hS rfl rfl ?_ | refine sL5 hS rfl rfl ?_ | refine sL6 hS rfl rfl ?_ | refine sL7 hS rfl rfl ?_)) | (refine oS ?_; ((first | refine sS1 hS rfl rfl rfl ?_ | refine sS2 hS rfl rfl rfl ?_ | refine sS3 hS rfl rfl rfl ?_ | refine sS4 hS rfl rfl rfl ?_ | refine sS5 hS rfl rfl rfl ?_); clear hS; intro w hS)) | fail)
  refine dr_start2 [27] 5 5 hS (by kernel_rfl) rfl ?_; clear hS; intro w hS
  refine dM hS 0 rfl rfl rfl ?_
  (try simp only [Act.put, nA, nB, nC])
  refine dP hS 1 rfl rfl ?_
  (try simp only [Act.put, nA, nB, nC])
  refine dP hS 2 rfl rfl ?_
  (try simp only [Act.put, nA, nB, nC])
  first | refine dL1 hS 3 rfl rfl rfl rfl ?_ | refine dL2 hS 3 rfl rfl rfl rfl ?_ | refine dL3 hS 3 rfl rfl rfl ?_ | refine dL4 hS 3 rfl rfl rfl ?_ | refine dL5 hS 3 rfl rfl rfl ?_ | refine dL6 hS 3 rfl rfl rfl ?_ | refine dL7 hS 3 rfl rfl rfl ?_
  (try simp only [Act.put, nA, nB, nC])
  refine dM hS 4 rfl rfl rfl ?_
  (try simp only [Act.put, nA, nB, nC])
  refine dM hS 5 rfl rfl rfl ?_
  (try simp only [Act.put, nA, nB, nC])
  refine dP hS 6 rfl rfl ?_
  (try simp only [Act.put, nA, nB, nC])
  refine dP hS 7 rfl rfl ?_
  (try simp only [Act.put, nA, nB, nC])
  first | refine dL1 hS 8 rfl rfl rfl rfl ?_ | refine dL2 hS 8 rfl rfl rfl rfl ?_ | refine dL3 hS 8 rfl rfl rfl ?_ | refine dL4 hS 8 rfl rfl rfl ?_ | refine dL5 hS 8 rfl rfl rfl ?_ | refine dL6 hS 8 rfl rfl rfl ?_ | refine dL7 hS 8 rfl rfl rfl ?_
  (try simp only [Act.put, nA, nB, nC])
  refine dM hS 9 rfl rfl rfl ?_
  (try simp only [Act.put, nA, nB, nC])
  refine dM hS 10 rfl rfl rfl ?_
  (try simp only [Act.put, nA, nB, nC])
  refine dP hS 11 rfl rfl ?_
  (try simp only [Act.put, nA, nB, nC])
  refine dP hS 12 rfl rfl ?_
  (try simp only [Act.put, nA, nB, nC])
  first | refine dL1 hS 13 rfl rfl rfl rfl ?_ | refine dL2 hS 13 rfl rfl rfl rfl ?_ | refine dL3 hS 13 rfl rfl rfl ?_ | refine dL4 hS 13 rfl rfl rfl ?_ | refine dL5 hS 13 rfl rfl rfl ?_ | refine dL6 hS 13 rfl rfl rfl ?_ | refine dL7 hS 13 rfl rfl rfl ?_
  (try simp only [Act.put, nA, nB, nC])
  refine dM hS 14 rfl rfl rfl ?_
  (try simp only [Act.put, nA, nB, nC])
  refine dP hS 15 rfl rfl ?_
  (try simp only [Act.put, nA, nB, nC])
  first | refine dL1 hS 16 rfl rfl rfl rfl ?_ | refine dL2 hS 16 rfl rfl rfl rfl ?_ | refine dL3 hS 16 rfl rfl rfl ?_ | refine dL4 hS 16 rfl rfl rfl ?_ | refine dL5 hS 16 rfl rfl rfl ?_ | refine dL6 hS 16 rfl rfl rfl ?_ | refine dL7 hS 16 rfl rfl rfl ?_
  (try simp only [Act.put, nA, nB, nC])
  refine dM hS 17 rfl rfl rfl ?_
  (try simp only [Act.put, nA, nB, nC])
  refine dP hS 18 rfl rfl ?_
  (try simp only [Act.put, nA, nB, nC])
  refine dP hS 19 rfl rfl ?_
  (try simp only [Act.put, nA, nB, nC])
  first | refine dL1 hS 20 rfl rfl rfl rfl ?_ | refine dL2 hS 20 rfl rfl rfl rfl ?_ | refine dL3 hS 20 rfl rfl rfl ?_ | refine dL4 hS 20 rfl rfl rfl ?_ | refine dL5 hS 20 rfl rfl rfl ?_ | refine dL6 hS 20 rfl rfl rfl ?_ | refine dL7 hS 20 rfl rfl rfl ?_
  (try simp only [Act.put, nA, nB, nC])
  refine dM hS 21 rfl rfl rfl ?_
  (try simp only [Act.put, nA, nB, nC])
  refine dP hS 22 rfl rfl ?_
  (try simp only [Act.put, nA, nB, nC])
  first | refine dL1 hS 23 rfl rfl rfl rfl ?_ | refine dL2 hS 23 rfl rfl rfl rfl ?_ | refine dL3 hS 23 rfl rfl rfl ?_ | refine dL4 hS 23 rfl rfl rfl ?_ | refine dL5 hS 23 rfl rfl rfl ?_ | refine dL6 hS 23 rfl rfl rfl ?_ | refine dL7 hS 23 rfl rfl rfl ?_
  (try simp only [Act.put, nA, nB, nC])
  refine dP hS 24 rfl rfl ?_
  (try simp only [Act.put, nA, nB, nC])
  refine dr_one 25 (by kernel_rfl) rfl ?_
  ((first | refine sS1 hS rfl rfl rfl ?_ | refine sS2 hS rfl rfl rfl ?_ | refine sS3 hS rfl rfl rfl ?_ | refine sS4 hS rfl rfl rfl ?_ | refine sS5 hS rfl rfl rfl ?_); clear hS; intro w hS)
  (try simp only [Act.put, nA, nB, nC])
  refine dr_end hS ?_
  refine dP hS 26 rfl rfl ?_
  (try simp only [Act.put, nA, nB, nC])
  refine dr_one 27 (by kernel_rfl) rfl ?_
  ((first | refine sS1 hS rfl rfl rfl ?_ | refine sS2 hS rfl rfl rfl ?_ | refine sS3 hS rfl rfl rfl ?_ | refine sS4 hS rfl rfl rfl ?_ | refine sS5 hS rfl rfl rfl ?_); clear hS; intro w hS)
  (try simp only [Act.put, nA, nB, nC])
  refine dr_late (by kernel_rfl) ?_
  refine dr_done (by kernel_rfl) ?_
  all_goals
    replace hS : St w0 M (blk gm [.slice (some ⟨gv, 0, none⟩) n kv, .slice (some ⟨gc, 0, none⟩) n kc, .slice (some ⟨gh, 0, none⟩) nn kh, .slice (some ⟨gk, 0, none⟩) n kk, .slice (some ⟨gd, 0, none⟩) n kd, .slice (some ⟨go, 0, none⟩) nn ko, .slice (some ⟨gr, 0, none⟩) nn kr] 28 :: row (.slice (some ⟨gh, 0, none⟩) nn kh) 46 1 nn hv :: fam2 48 2 rs :: row (.slice (some ⟨gv, 0, none⟩) n kv) 3 1 n (ints s.vals) :: row (.slice (some ⟨gc, 0, none⟩) n kc) 3 1 n (ints s.cnts) :: row (.slice (some ⟨gk, 0, none⟩) n kk) 3 1 n (ints (s.cut.set q cn)) :: row (.slice (some ⟨gd, 0, none⟩) n kd) 3 1 n (ints (s.saved.set q vq)) :: row (.slice (some ⟨go, 0, none⟩) nn ko) 4 1 nn (bools s.opn) :: cs) w := hS.re
    obtain ⟨pn, hpn⟩ : ∃ pn : Nat, q * n = pn := ⟨_, rfl⟩
    have hm1 : (q : Int) * (n : Int) = (pn : Int) := by rw [← hpn]; simp
    have hpn25 : pn ≤ 25 := by rw [← hpn]; exact Nat.mul_le_mul (show q ≤ 5 by omega) hn5
    have HPN := Lib.hid hpn
    clear hpn
    go_wp2_with (first | (refine oL ?_; (first | refine sL1 hS rfl rfl rfl ?_ | refine sL2 hS rfl rfl rfl ?_ | refine sL3 hS rfl rfl ?_ | refine sL4 hS rfl rfl ?_ | refine sL5 hS rfl rfl ?_ | refine sL6 hS rfl rfl ?_ | refine sL7 hS rfl rfl ?_)) | (refine oS ?_; ((first | refine sS1 hS rfl rfl rfl ?_ | refine sS2 hS rfl rfl rfl ?_ | refine sS3 hS rfl rfl rfl ?_ | refine sS4 hS rfl rfl rfl ?_ | refine sS5 hS rfl rfl rfl ?_); clear hS; intro w hS)) | fail)
    go_loopw [5] (fun s5 wr => ∃ (r : Nat) (rs1 : List RwD) (hv1 : List Value), r ≤ n ∧ s5 = .int .i64 r ∧ Hid (FamX k0 rs1 hv1 (markCh n q r s.chs) ∧ hv1[k0]? = hv[k0]?) ∧ St w0 M (blk gm [.slice (some ⟨gv, 0, none⟩) n kv, .slice (some ⟨gc, 0, none⟩) n kc, .slice (some ⟨gh, 0, none⟩) nn kh, .slice (some ⟨gk, 0, none⟩) n kk, .slice (some ⟨gd, 0, none⟩) n kd, .slice (some ⟨go, 0, none⟩) nn ko, .slice (some ⟨gr, 0, none⟩) nn kr] 28 :: row (.slice (some ⟨gh, 0, none⟩) nn kh) 46 1 nn hv1 :: fam2 48 2 rs1 :: row (.slice (some ⟨gv, 0, none⟩) n kv) 3 1 n (ints s.vals) :: row (.slice (some ⟨gc, 0, none⟩) n kc) 3 1 n (ints s.cnts) :: row (.slice (some ⟨gk, 0, none⟩) n kk) 3 1 n (ints (s.cut.set q cn)) :: row (.slice (some ⟨gd, 0, none⟩) n kd) 3 1 n (ints (s.saved.set q vq)) :: row (.slice (some ⟨go, 0, none⟩) nn ko) 4 1 nn (bools (markOp n q r s.opn)) :: cs) wr) (fun s5 _ => n - (intOf s5).toNat)
    case atStart => exact ⟨0, rs, hv, by omega, rfl, Lib.hid (by rw [markCh_zero]; exact ⟨HH.out.1, rfl⟩), by rw [markOp_zero]; exact hS⟩
    case round =>
      clear hS
      obtain ⟨r, rs1, hv1, hr, rfl, HI, hS⟩ := hrel
      by_cases hlt : r < n
      · have hlt' : (r : Int) < n := by omega
        by_cases hrq : r = q
        · have e1 : ((r : Int) != (q : Int)) = false := by simp; omega
          have HO := Lib.hid (show markCh n q (r + 1) s.chs = markCh n q r s.chs ∧ markOp n q (r + 1) s.opn = markOp n q r s.opn by rw [hrq]; exact ⟨markCh_own n q s.chs, markOp_own n q s.opn⟩)
          clear hrq
          go_wp2_with (first | (refine oL ?_; (first | refine sL1 hS rfl rfl rfl ?_ | refine sL2 hS rfl rfl rfl ?_ | refine sL3 hS rfl rfl ?_ | refine sL4 hS rfl rfl ?_ | refine sL5 hS rfl rfl ?_ | refine sL6 hS rfl rfl ?_ | refine sL7 hS rfl rfl ?_)) | (refine oS ?_; ((first | refine sS1 hS rfl rfl rfl ?_ | refine sS2 hS rfl rfl rfl ?_ | refine sS3 hS rfl rfl rfl ?_ | refine sS4 hS rfl rfl rfl ?_ | refine sS5 hS rfl rfl rfl ?_); clear hS; intro w hS)) | fail)
          go_roundw
          case measure => simp [intOf]; omega
          exact ⟨r + 1, rs1, hv1, by omega, by go_num, Lib.hid (by rw [HO.out.1]; exact HI.out), by rw [HO.out.2]; exact hS.re⟩
        · have e1 : ((r : Int) != (q : Int)) = true := by simp; omega
          have hlh : (markCh n q r s.chs).length = nn := by rw [markCh_len, HH.out.2.1.lh]; exact HH.out.2.2
          have hkn : pn + r < nn := by rw [← HH.out.2.2, ← HPN.out]; exact ch_lt hq hlt
          have hkn' : (pn : Int) + (r : Int) < (nn : Int) := by omega
          obtain ⟨rn, hrn⟩ : ∃ rn : Nat, r * n = rn := ⟨_, rfl⟩
          have hm2 : (r : Int) * (n : Int) = (rn : Int) := by rw [← hrn]; simp
          have hko : rn + q < nn := by rw [← HH.out.2.2, ← hrn]; exact ch_lt hlt hq
          have hko' : (rn : Int) + (q : Int) < (nn : Int) := by omega
          have HRN := Lib.hid hrn
          have HO := Lib.hid (And.intro (markCh_next HH.out.2.1.lh hq hlt hrq) (markOp_next HH.out.2.1.lo hq hlt hrq))
          rw [HPN.out, hrn] at HO
          have hne0 : pn + r ≠ k0 := by rw [← HPN.out]; exact HK0.out r hlt hrq
          obtain ⟨B, cb, hrk, hvk⟩ := HI.out.1.k (pn + r) (by rw [hlh]; exact hkn) hne0
          have HNE := Lib.hid hne0
          clear hne0
          have hop : (markOp n q r s.opn).length = nn := by rw [markOp_len, HH.out.2.1.lo]; exact HH.out.2.2
          have hlb : (chOf (markCh n q r s.chs) (pn + r)).length ≤ 1000000 := by
            rw [← HPN.out] at hkn ⊢
            rw [markCh_at (by rw [HH.out.2.1.lh, HH.out.2.2]; exact hkn), ch_div hlt, ch_mod hlt, if_neg (by omega)]
            have := HH.out.2.1.hbk (k := q * n + r) (by rw [HH.out.2.2]; exact hkn)
            omega
          have hro : rn + q < (bools (markOp n q r s.opn)).length := by rw [bools_len, hop]; exact hko
          have hvl : pn + r < hv1.length := by rw [HI.out.1.m, hlh]; exact hkn
          generalize hll : chOf (markCh n q r s.chs) (pn + r) = l at *
          have HLL := Lib.hid hll
          have HRK := Lib.hid hrk
          clear hll hrq hlh hop hrn hrk
          replace hS : St w0 M (row (.slice B l.length cb) 48 2 l.length (pcs l) :: fam2 48 2 (rs1.set (pn + r) nilR2) :: blk gm [.slice (some ⟨gv, 0, none⟩) n kv, .slice (some ⟨gc, 0, none⟩) n kc, .slice (some ⟨gh, 0, none⟩) nn kh, .slice (some ⟨gk, 0, none⟩) n kk, .slice (some ⟨gd, 0, none⟩) n kd, .slice (some ⟨go, 0, none⟩) nn ko, .slice (some ⟨gr, 0, none⟩) nn kr] 28 :: row (.slice (some ⟨gh, 0, none⟩) nn kh) 46 1 nn hv1 :: row (.slice (some ⟨gv, 0, none⟩) n kv) 3 1 n (ints s.vals) :: row (.slice (some ⟨gc, 0, none⟩) n kc) 3 1 n (ints s.cnts) :: row (.slice (some ⟨gk, 0, none⟩) n kk) 3 1 n (ints (s.cut.set q cn)) :: row (.slice (some ⟨gd, 0, none⟩) n kd) 3 1 n (ints (s.saved.set q vq)) :: row (.slice (some ⟨go, 0, none⟩) nn ko) 4 1 nn (bools (markOp n q r s.opn)) :: cs) wr := (St.re (ds := fam2 48 2 rs1 :: blk gm [.slice (some ⟨gv, 0, none⟩) n kv, .slice (some ⟨gc, 0, none⟩) n kc, .slice (some ⟨gh, 0, none⟩) nn kh, .slice (some ⟨gk, 0, none⟩) n kk, .slice (some ⟨gd, 0, none⟩) n kd, .slice (some ⟨go, 0, none⟩) nn ko, .slice (some ⟨gr, 0, none⟩) nn kr] 28 :: row (.slice (some ⟨gh, 0, none⟩) nn kh) 46 1 nn hv1 :: row (.slice (some ⟨gv, 0, none⟩) n kv) 3 1 n (ints s.vals) :: row (.slice (some ⟨gc, 0, none⟩) n kc) 3 1 n (ints s.cnts) :: row (.slice (some ⟨gk, 0, none⟩) n kk) 3 1 n (ints (s.cut.set q cn)) :: row (.slice (some ⟨gd, 0, none⟩) n kd) 3 1 n (ints (s.saved.set q vq)) :: row (.slice (some ⟨go, 0, none⟩) nn ko) 4 1 nn (bools (markOp n q r s.opn)) :: cs) hS).fam2Take HRK.out
          go_wp2_with (first | (refine oL ?_; (first | refine sL1 hS rfl rfl rfl ?_ | refine sL2 hS rfl rfl rfl ?_ | refine sL3 hS rfl rfl ?_ | refine sL4 hS rfl rfl ?_ | refine sL5 hS rfl rfl ?_ | refine sL6 hS rfl rfl ?_ | refine sL7 hS rfl rfl ?_)) | (refine oS ?_; ((first | refine sS1 hS rfl rfl rfl ?_ | refine sS2 hS rfl rfl rfl ?_ | refine sS3 hS rfl rfl rfl ?_ | refine sS4 hS rfl rfl rfl ?_ | refine sS5 hS rfl rfl rfl ?_); clear hS; intro w hS)) | fail)
          refine dr_start1 [24] 0 hS (by kernel_rfl) rfl ?_; clear hS; intro w hS
          refine dM hS 0 rfl rfl rfl ?_
          (try simp only [Act.put, nA, nB, nC])
          refine dP hS 1 rfl rfl ?_
          (try simp only [Act.put, nA, nB, nC])
          refine dP hS 2 rfl rfl ?_
          (try simp only [Act.put, nA, nB, nC])
          first | refine dL1 hS 3 rfl rfl rfl rfl ?_ | refine dL2 hS 3 rfl rfl rfl rfl ?_ | refine dL3 hS 3 rfl rfl rfl ?_ | refine dL4 hS 3 rfl rfl rfl ?_ | refine dL5 hS 3 rfl rfl rfl ?_ | refine dL6 hS 3 rfl rfl rfl ?_ | refine dL7 hS 3 rfl rfl rfl ?_
          (try simp only [Act.put, nA, nB, nC])
          refine dM hS 4 rfl rfl rfl ?_
          (try simp only [Act.put, nA, nB, nC])
          refine dM hS 5 rfl rfl rfl ?_
          (try simp only [Act.put, nA, nB, nC])
          refine dP hS 6 rfl rfl ?_
          (try simp only [Act.put, nA, nB, nC])
          refine dM hS 7 rfl rfl rfl ?_
          (try simp only [Act.put, nA, nB, nC])
          refine dP hS 8 rfl rfl ?_
          (try simp only [Act.put, nA, nB, nC])
          refine dM hS 9 rfl rfl rfl ?_
          (try simp only [Act.put, nA, nB, nC])
          refine dP hS 10 rfl rfl ?_
          (try simp only [Act.put, nA, nB, nC])
          refine dP hS 11 rfl rfl ?_
          (try simp only [Act.put, nA, nB, nC])
          first | refine dL1 hS 12 rfl rfl rfl rfl ?_ | refine dL2 hS 12 rfl rfl rfl rfl ?_ | refine dL3 hS 12 rfl rfl rfl ?_ | refine dL4 hS 12 rfl rfl rfl ?_ | refine dL5 hS 12 rfl rfl rfl ?_ | refine dL6 hS 12 rfl rfl rfl ?_ | refine dL7 hS 12 rfl rfl rfl ?_
          (try simp only [Act.put, nA, nB, nC])
          refine dM hS 13 rfl rfl rfl ?_
          (try simp only [Act.put, nA, nB, nC])
          refine dM hS 14 rfl rfl rfl ?_
          (try simp only [Act.put, nA, nB, nC])
          refine dP hS 15 rfl rfl ?_
          (try simp only [Act.put, nA, nB, nC])
          refine dM hS 16 rfl rfl rfl ?_
          (try simp only [Act.put, nA, nB, nC])
          refine dP hS 17 rfl rfl ?_
          (try simp only [Act.put, nA, nB, nC])
          refine dP hS 18 rfl rfl ?_
          (try simp only [Act.put, nA, nB, nC])
          first | refine dL1 hS 19 rfl rfl rfl rfl ?_ | refine dL2 hS 19 rfl rfl rfl rfl ?_ | refine dL3 hS 19 rfl rfl rfl ?_ | refine dL4 hS 19 rfl rfl rfl ?_ | refine dL5 hS 19 rfl rfl rfl ?_ | refine dL6 hS 19 rfl rfl rfl ?_ | refine dL7 hS 19 rfl rfl rfl ?_
          (try simp only [Act.put, nA, nB, nC])
          refine dP hS 20 rfl rfl ?_
          (try simp only [Act.put, nA, nB, nC])
          refine dr_one 21 (by kernel_rfl) rfl ?_
          first | (refine st_str hS rfl rfl rfl rfl hvl ?_; clear hS; intro w hS) | ((first | refine sC0 hS rfl ?_ | refine sC1 hS rfl rfl ?_ | refine sC2 hS rfl rfl ?_ | refine sC3 hS rfl rfl rfl ?_ | refine sC4 hS rfl rfl rfl ?_); clear hS; first | ((fail_if_success guard_hyp g1); intro g1 w hS) | ((fail_if_success guard_hyp g2); intro g2 w hS) | fail) | fail
          (try simp only [Act.put, nA, nB, nC])
          refine dr_end hS ?_
          refine dr_one 22 (by kernel_rfl) rfl ?_
          first | (refine st_str hS rfl rfl rfl rfl hvl ?_; clear hS; intro w hS) | ((first | refine sP1 hS rfl rfl rfl ?_ | refine sP2 hS rfl rfl rfl ?_ | refine sP3 hS rfl rfl rfl ?_); clear hS; first | ((fail_if_success guard_hyp L1); intro L1 cl1 w hL1 hM1 hS) | ((fail_if_success guard_hyp L2); intro L2 cl2 w hL2 hM2 hS) | fail) | fail
          (try simp only [Act.put, nA, nB, nC])
          refine dr_end hS ?_
          refine dP hS 23 rfl rfl ?_
          (try simp only [Act.put, nA, nB, nC])
          refine dr_one 24 (by kernel_rfl) rfl ?_
          first | (refine st_str hS rfl rfl rfl rfl hvl ?_; clear hS; intro w hS) | ((first | refine sS1 hS rfl rfl rfl ?_ | refine sS2 hS rfl rfl rfl ?_ | refine sS3 hS rfl rfl rfl ?_ | refine sS4 hS rfl rfl rfl ?_ | refine sS5 hS rfl rfl rfl ?_); clear hS; intro w hS) | fail
          (try simp only [Act.put, nA, nB, nC])
          refine dr_late (by kernel_rfl) ?_
          refine dr_done (by kernel_rfl) ?_
          go_wp2_with (first | (refine oS ?_; refine st_str hS rfl rfl rfl rfl hro ?_; clear hS; intro w hS) | (refine oL ?_; (first | refine sL1 hS rfl rfl rfl ?_ | refine sL2 hS rfl rfl rfl ?_ | refine sL3 hS rfl rfl ?_ | refine sL4 hS rfl rfl ?_ | refine sL5 hS rfl rfl ?_ | refine sL6 hS rfl rfl ?_ | refine sL7 hS rfl rfl ?_)) | (refine oS ?_; ((first | refine sS1 hS rfl rfl rfl ?_ | refine sS2 hS rfl rfl rfl ?_ | refine sS3 hS rfl rfl rfl ?_ | refine sS4 hS rfl rfl rfl ?_ | refine sS5 hS rfl rfl rfl ?_); clear hS; intro w hS)) | fail)
          go_roundw
          case measure => simp [intOf]; omega
          refine ⟨r + 1, rs1.set (pn + r) (.slice L1 (l ++ [((true, 0) : Pcl)]).length cl1, (l ++ [((true, 0) : Pcl)]).length, pcs (l ++ [((true, 0) : Pcl)])), hv1.set (pn + r) (.slice L1 (l ++ [((true, 0) : Pcl)]).length cl1), by omega, by go_num, Lib.hid ?_, ?_⟩
          · rw [HO.out.1]
            exact ⟨HI.out.1.set (pn + r) L1 cl1 (l ++ [((true, 0) : Pcl)]), by rw [List.getElem?_set_ne HNE.out]; exact HI.out.2⟩
          · rw [HO.out.2, ← bools_set]
            simp only [List.length_append, List.length_singleton]
            have hS2 := fam_back (rs := rs1) (k := pn + r) (St.re (ds := row (.slice L1 (l.length + 1) cl1) 48 2 (l.length + 1) (pcs l ++ [.bool true, .int .i64 0]) :: fam2 48 2 (rs1.set (pn + r) nilR2) :: blk gm [.slice (some ⟨gv, 0, none⟩) n kv, .slice (some ⟨gc, 0, none⟩) n kc, .slice (some ⟨gh, 0, none⟩) nn kh, .slice (some ⟨gk, 0, none⟩) n kk, .slice (some ⟨gd, 0, none⟩) n kd, .slice (some ⟨go, 0, none⟩) nn ko, .slice (some ⟨gr, 0, none⟩) nn kr] 28 :: row (.slice (some ⟨gh, 0, none⟩) nn kh) 46 1 nn (hv1.set (pn + r) (.slice L1 (l.length + 1) cl1)) :: row (.slice (some ⟨gv, 0, none⟩) n kv) 3 1 n (ints s.vals) :: row (.slice (some ⟨gc, 0, none⟩) n kc) 3 1 n (ints s.cnts) :: row (.slice (some ⟨gk, 0, none⟩) n kk) 3 1 n (ints (s.cut.set q cn)) :: row (.slice (some ⟨gd, 0, none⟩) n kd) 3 1 n (ints (s.saved.set q vq)) :: row (.slice (some ⟨go, 0, none⟩) nn ko) 4 1 nn ((bools (markOp n q r s.opn)).set (rn + q) (.bool true)) :: cs) hS)
            simp only [List.length_append, List.length_singleton] at hS2
            exact hS2.re
      · have hlt' : ¬ (r : Int) < n := by omega
        obtain rfl : r = n := by omega
        go_wp2_with (first | (refine oL ?_; (first | refine sL1 hS rfl rfl rfl ?_ | refine sL2 hS rfl rfl rfl ?_ | refine sL3 hS rfl rfl ?_ | refine sL4 hS rfl rfl ?_ | refine sL5 hS rfl rfl ?_ | refine sL6 hS rfl rfl ?_ | refine sL7 hS rfl rfl ?_)) | (refine oS ?_; ((first | refine sS1 hS rfl rfl rfl ?_ | refine sS2 hS rfl rfl rfl ?_ | refine sS3 hS rfl rfl rfl ?_ | refine sS4 hS rfl rfl rfl ?_ | refine sS5 hS rfl rfl rfl ?_); clear hS; intro w hS)) | fail)
        first | go_end0 | refine bodyPost_ret (results_none rfl _ _ _) rfl ?_
        refine ⟨rfl, rs1, hv1, ?_, ?_⟩
        · rw [← HS2.out]; simp only [recR, HN.out]; exact HI
        · rw [← HS2.out]; simp only [recR, HN.out, HVQ.out, HCN.out]; exact hS.re
end Go.Proofs.Ytkaofbjppibdkaa
