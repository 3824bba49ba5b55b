/- rollbacknetref23.Totals, Complete. Conditions: the machine lies in memory, its lists are short. -/
import Derived.Test.YtkaofbjppibdkaaSnCons
namespace Go.Proofs.Ytkaofbjppibdkaa
open Go.RowKit
set_option linter.unusedVariables false
set_option linter.unusedSimpArgs false
set_option linter.unusedSectionVars false

set_option maxRecDepth 100000 in
set_option maxHeartbeats 6400000 in
theorem rtotals_any {S : Nat → Prop} (v : SV) (s : Snp) (n m : Nat) (w0 : World) (hs : SnAt S w0 v s) (hl : SnLen n m s) (hn : n ≤ 1000) (hm : m ≤ 1000) :
    Calls Try.prog 18 #[v.val n m] w0 fun e w' => e = .returned (.tuple #[.int .i64 (totP s), .int .i64 (totR s)]) ∧ Ext w0 w' := by
  have hS := St.start w0 NoM
  have HP := Lib.hid (And.intro hs hl)
  clear hs hl
  obtain ⟨A1, c1, A2, c2, A3, c3, A4, c4, A5, c5, A6, c6, A7, c7⟩ := v
  simp only [SV.val, SV.cells, totP, totR] at *
  go_enter Try.func18, Try.ntmps18
  go_wp2_with (first | (refine oL ?_; (first | refine sL1 hS rfl rfl rfl ?_ | refine sL2 hS rfl rfl rfl ?_ | refine sL3 hS rfl rfl ?_ | refine sL4 hS rfl rfl ?_ | refine sL5 hS rfl rfl ?_ | refine sL6 hS rfl rfl ?_ | refine sL7 hS rfl rfl ?_)) | ((first | (refine oB ?_; first | refine sB1 hS rfl rfl ?_ | refine sB2 hS rfl rfl ?_)); clear hS; first | ((fail_if_success guard_hyp g1); intro g1 w hS) | ((fail_if_success guard_hyp g2); intro g2 w hS) | fail) | fail)
  go_loopw [4, 5, 6] (fun s4 s5 s6 wr => ∃ (k : Nat) (a r : Int), k ≤ n ∧ s6 = .int .i64 k ∧ s4 = .int .i64 a ∧ s5 = .int .i64 r ∧ Hid (a = wsum 0 (s.vals.take k)) ∧ Hid (r = wsum 0 (s.saved.take k)) ∧ St w0 NoM [blk g1 [.slice A1 n c1, .slice A2 n c2, .slice A3 m c3, .slice A4 n c4, .slice A5 n c5, .slice A6 m c6, .slice A7 m c7] 28] wr) (fun _ _ s6 _ => n - (intOf s6).toNat)
  case atStart => exact ⟨0, 0, 0, by omega, rfl, rfl, rfl, Lib.hid rfl, Lib.hid rfl, hS⟩
  case round =>
    obtain ⟨k, a, r, hk, rfl, rfl, rfl, HA, HR, hS⟩ := hrel
    by_cases hlt : k < n
    · have hkl : k < s.vals.length := by rw [HP.out.2.lv]; exact hlt
      have hks : k < s.saved.length := by rw [HP.out.2.ls]; exact hlt
      obtain ⟨b1, o1, e1, _, hca⟩ := HP.out.1.vals.atNS hkl
      obtain ⟨b2, o2, e2, _, hcb⟩ := HP.out.1.saved.atNS hks
      simp only at e1 e2
      subst e1 e2
      have HT := Lib.hid (wsum_take (a := 0) hkl)
      have HT2 := Lib.hid (wsum_take (a := 0) hks)
      clear hkl hks
      generalize nth s.vals k = x at *
      generalize nth s.saved k = y at *
      go_wp2_with (first | (refine oL ?_; (first | refine sL1 hS rfl rfl rfl ?_ | refine sL2 hS rfl rfl rfl ?_ | refine sL3 hS rfl rfl ?_ | refine sL4 hS rfl rfl ?_ | refine sL5 hS rfl rfl ?_ | refine sL6 hS rfl rfl ?_ | refine sL7 hS rfl rfl ?_)) | ((first | (refine oB ?_; first | refine sB1 hS rfl rfl ?_ | refine sB2 hS rfl rfl ?_)); clear hS; first | ((fail_if_success guard_hyp g1); intro g1 w hS) | ((fail_if_success guard_hyp g2); intro g2 w hS) | fail) | fail)
      go_roundw
      case measure => simp [intOf]; omega
      exact ⟨k + 1, wrap64 (a + x), wrap64 (r + y), by omega, by go_num, rfl, rfl, Lib.hid (by rw [HT.out, HA.out]), Lib.hid (by rw [HT2.out, HR.out]), hS⟩
    · have HA2 := Lib.hid (show a = wsum 0 s.vals by rw [HA.out, List.take_of_length_le (by rw [HP.out.2.lv]; omega)])
      have HR2 := Lib.hid (show r = wsum 0 s.saved by rw [HR.out, List.take_of_length_le (by rw [HP.out.2.ls]; omega)])
      clear HA HR
      go_wp2_with (first | (refine oL ?_; (first | refine sL1 hS rfl rfl rfl ?_ | refine sL2 hS rfl rfl rfl ?_ | refine sL3 hS rfl rfl ?_ | refine sL4 hS rfl rfl ?_ | refine sL5 hS rfl rfl ?_ | refine sL6 hS rfl rfl ?_ | refine sL7 hS rfl rfl ?_)) | ((first | (refine oB ?_; first | refine sB1 hS rfl rfl ?_ | refine sB2 hS rfl rfl ?_)); clear hS; first | ((fail_if_success guard_hyp g1); intro g1 w hS) | ((fail_if_success guard_hyp g2); intro g2 w hS) | fail) | fail)
      clear hlt hk
      go_loopw [4, 7] (fun s4 s7 wr => ∃ (k : Nat) (a : Int), k ≤ m ∧ s7 = .int .i64 k ∧ s4 = .int .i64 a ∧ Hid (a = wsum 0 (s.vals ++ (s.chs.take k).flatMap pvals)) ∧ St w0 NoM [blk g1 [.slice A1 n c1, .slice A2 n c2, .slice A3 m c3, .slice A4 n c4, .slice A5 n c5, .slice A6 m c6, .slice A7 m c7] 28] wr) (fun _ s7 _ => m - (intOf s7).toNat)
      case atStart => exact ⟨0, a, by omega, rfl, rfl, Lib.hid (by simpa using HA2.out), hS⟩
      case round =>
        clear HA2
        obtain ⟨k, a, hk, rfl, rfl, HA, hS⟩ := hrel
        by_cases hlt : k < m
        · have hkl : k < s.chs.length := by rw [HP.out.2.lh]; exact hlt
          obtain ⟨b1, o1, B, cB, e1, _, hcell, hcB, hcB', hB⟩ := HP.out.1.chs.atC hkl
          simp only at e1
          subst e1
          have HF := Lib.hid (show (s.chs.take (k + 1)).flatMap pvals = (s.chs.take k).flatMap pvals ++ pvals (chOf s.chs k) by rw [flat_take hkl, chOf_eq hkl])
          have hrl : (chOf s.chs k).length ≤ 1000000 := by rw [chOf_eq hkl]; exact HP.out.2.hb _ (List.getElem_mem hkl)
          have HB := Lib.hid hB
          clear hB hkl
          generalize chOf s.chs k = l at *
          go_wp2_with (first | (refine oL ?_; (first | refine sL1 hS rfl rfl rfl ?_ | refine sL2 hS rfl rfl rfl ?_ | refine sL3 hS rfl rfl ?_ | refine sL4 hS rfl rfl ?_ | refine sL5 hS rfl rfl ?_ | refine sL6 hS rfl rfl ?_ | refine sL7 hS rfl rfl ?_)) | ((first | (refine oB ?_; first | refine sB1 hS rfl rfl ?_ | refine sB2 hS rfl rfl ?_)); clear hS; first | ((fail_if_success guard_hyp g1); intro g1 w hS) | ((fail_if_success guard_hyp g2); intro g2 w hS) | fail) | fail)
          go_loopw [4, 8] (fun s4 s8 wr => ∃ (j : Nat) (a : Int), j ≤ l.length ∧ s8 = .int .i64 j ∧ s4 = .int .i64 a ∧ Hid (a = wsum 0 (s.vals ++ (s.chs.take k).flatMap pvals ++ pvals (l.take j))) ∧ St w0 NoM [blk g1 [.slice A1 n c1, .slice A2 n c2, .slice (some ⟨b1, o1, none⟩) m c3, .slice A4 n c4, .slice A5 n c5, .slice A6 m c6, .slice A7 m c7] 28] wr) (fun _ s8 _ => l.length - (intOf s8).toNat)
          case atStart => exact ⟨0, a, by omega, rfl, rfl, Lib.hid (by rw [HA.out]; simp [pvals]), hS⟩
          case round =>
            clear HA
            obtain ⟨j, a, hj, rfl, rfl, HA, hS⟩ := hrel
            by_cases hjl : j < l.length
            · obtain ⟨b3, o3, rfl, _, hc3⟩ := pcs_cells HB.out hjl
              have HPV := Lib.hid (pv_take hjl)
              generalize l[j] = x at *
              obtain ⟨mk, xv⟩ := x
              have hca0 : w0.cell? ⟨b3, o3 + j * 2, none⟩ = some (.bool mk) := hc3 0 _ rfl
              have hca1 : w0.cell? ⟨b3, o3 + j * 2 + 1, none⟩ = some (.int .i64 xv) := hc3 1 _ rfl
              simp only at HPV
              cases mk with
              | true =>
                go_wp2_with (first | (refine oL ?_; (first | refine sL1 hS rfl rfl rfl ?_ | refine sL2 hS rfl rfl rfl ?_ | refine sL3 hS rfl rfl ?_ | refine sL4 hS rfl rfl ?_ | refine sL5 hS rfl rfl ?_ | refine sL6 hS rfl rfl ?_ | refine sL7 hS rfl rfl ?_)) | ((first | (refine oB ?_; first | refine sB1 hS rfl rfl ?_ | refine sB2 hS rfl rfl ?_)); clear hS; first | ((fail_if_success guard_hyp g1); intro g1 w hS) | ((fail_if_success guard_hyp g2); intro g2 w hS) | fail) | fail)
                go_roundw
                case measure => simp [intOf]; omega
                exact ⟨j + 1, a, by omega, by go_num, rfl, Lib.hid (by have h := HPV.out; rw [if_pos rfl] at h; rw [h]; exact HA.out), hS.re⟩
              | false =>
                go_wp2_with (first | (refine oL ?_; (first | refine sL1 hS rfl rfl rfl ?_ | refine sL2 hS rfl rfl rfl ?_ | refine sL3 hS rfl rfl ?_ | refine sL4 hS rfl rfl ?_ | refine sL5 hS rfl rfl ?_ | refine sL6 hS rfl rfl ?_ | refine sL7 hS rfl rfl ?_)) | ((first | (refine oB ?_; first | refine sB1 hS rfl rfl ?_ | refine sB2 hS rfl rfl ?_)); clear hS; first | ((fail_if_success guard_hyp g1); intro g1 w hS) | ((fail_if_success guard_hyp g2); intro g2 w hS) | fail) | fail)
                go_roundw
                case measure => simp [intOf]; omega
                refine ⟨j + 1, wrap64 (a + xv), by omega, by go_num, rfl, Lib.hid ?_, hS.re⟩
                have h := HPV.out
                rw [if_neg (by simp)] at h
                rw [h, ← List.append_assoc, wsum_snoc, HA.out]
            · have HA3 := Lib.hid (show a = wsum 0 (s.vals ++ (s.chs.take (k + 1)).flatMap pvals) by have h9 : l.take j = l := List.take_of_length_le (by omega); rw [HA.out, h9, HF.out, List.append_assoc])
              clear HA
              go_wp2_with (first | (refine oL ?_; (first | refine sL1 hS rfl rfl rfl ?_ | refine sL2 hS rfl rfl rfl ?_ | refine sL3 hS rfl rfl ?_ | refine sL4 hS rfl rfl ?_ | refine sL5 hS rfl rfl ?_ | refine sL6 hS rfl rfl ?_ | refine sL7 hS rfl rfl ?_)) | ((first | (refine oB ?_; first | refine sB1 hS rfl rfl ?_ | refine sB2 hS rfl rfl ?_)); clear hS; first | ((fail_if_success guard_hyp g1); intro g1 w hS) | ((fail_if_success guard_hyp g2); intro g2 w hS) | fail) | fail)
              go_roundw
              case measure => simp [intOf]; omega
              exact ⟨k + 1, a, by omega, by go_num, rfl, HA3, hS.re⟩
        · have HAE := Lib.hid (show wsum 0 (s.vals ++ s.chs.flatMap pvals) = a by rw [HA.out, List.take_of_length_le (by rw [HP.out.2.lh]; omega)])
          clear HA
          go_wp2_with (first | (refine oL ?_; (first | refine sL1 hS rfl rfl rfl ?_ | refine sL2 hS rfl rfl rfl ?_ | refine sL3 hS rfl rfl ?_ | refine sL4 hS rfl rfl ?_ | refine sL5 hS rfl rfl ?_ | refine sL6 hS rfl rfl ?_ | refine sL7 hS rfl rfl ?_)) | ((first | (refine oB ?_; first | refine sB1 hS rfl rfl ?_ | refine sB2 hS rfl rfl ?_)); clear hS; first | ((fail_if_success guard_hyp g1); intro g1 w hS) | ((fail_if_success guard_hyp g2); intro g2 w hS) | fail) | fail)
          clear hlt hk
          go_loopw [5, 9] (fun s5 s9 wr => ∃ (k : Nat) (r : Int), k ≤ m ∧ s9 = .int .i64 k ∧ s5 = .int .i64 r ∧ Hid (r = wsum 0 (s.saved ++ (s.recs.take k).flatMap id)) ∧ St w0 NoM [blk g1 [.slice A1 n c1, .slice A2 n c2, .slice A3 m c3, .slice A4 n c4, .slice A5 n c5, .slice A6 m c6, .slice A7 m c7] 28] wr) (fun _ s9 _ => m - (intOf s9).toNat)
          case atStart => exact ⟨0, r, by omega, rfl, rfl, Lib.hid (by simpa using HR2.out), hS⟩
          case round =>
            clear HR2
            obtain ⟨k, r, hk, rfl, rfl, HR, hS⟩ := hrel
            by_cases hlt : k < m
            · have hkl : k < s.recs.length := by rw [HP.out.2.lr]; exact hlt
              obtain ⟨b1, o1, B, cB, e1, _, hcell, hcB, hcB', hB⟩ := HP.out.1.recs.atR hkl
              simp only at e1
              subst e1
              have HF := Lib.hid (show (s.recs.take (k + 1)).flatMap id = (s.recs.take k).flatMap id ++ rowOf s.recs k by rw [flat_take hkl, rowOf_eq hkl]; rfl)
              have hrl : (rowOf s.recs k).length ≤ 1000000 := by rw [rowOf_eq hkl]; exact HP.out.2.rb _ (List.getElem_mem hkl)
              have HB := Lib.hid hB
              clear hB hkl
              generalize rowOf s.recs k = l at *
              go_wp2_with (first | (refine oL ?_; (first | refine sL1 hS rfl rfl rfl ?_ | refine sL2 hS rfl rfl rfl ?_ | refine sL3 hS rfl rfl ?_ | refine sL4 hS rfl rfl ?_ | refine sL5 hS rfl rfl ?_ | refine sL6 hS rfl rfl ?_ | refine sL7 hS rfl rfl ?_)) | ((first | (refine oB ?_; first | refine sB1 hS rfl rfl ?_ | refine sB2 hS rfl rfl ?_)); clear hS; first | ((fail_if_success guard_hyp g1); intro g1 w hS) | ((fail_if_success guard_hyp g2); intro g2 w hS) | fail) | fail)
              go_loopw [5, 10] (fun s5 s10 wr => ∃ (j : Nat) (r : Int), j ≤ l.length ∧ s10 = .int .i64 j ∧ s5 = .int .i64 r ∧ Hid (r = wsum 0 (s.saved ++ (s.recs.take k).flatMap id ++ l.take j)) ∧ St w0 NoM [blk g1 [.slice A1 n c1, .slice A2 n c2, .slice A3 m c3, .slice A4 n c4, .slice A5 n c5, .slice A6 m c6, .slice (some ⟨b1, o1, none⟩) m c7] 28] wr) (fun _ s10 _ => l.length - (intOf s10).toNat)
              case atStart => exact ⟨0, r, by omega, rfl, rfl, Lib.hid (by rw [HR.out]; simp), hS⟩
              case round =>
                clear HR
                obtain ⟨j, r, hj, rfl, rfl, HR, hS⟩ := hrel
                by_cases hjl : j < l.length
                · obtain ⟨b3, o3, rfl, _, hc3⟩ := HB.out.atNS hjl
                  have HT := Lib.hid (show l.take (j + 1) = l.take j ++ [nth l j] by rw [List.take_succ_eq_append_getElem hjl, nth_eq hjl])
                  generalize nth l j = x at *
                  go_wp2_with (first | (refine oL ?_; (first | refine sL1 hS rfl rfl rfl ?_ | refine sL2 hS rfl rfl rfl ?_ | refine sL3 hS rfl rfl ?_ | refine sL4 hS rfl rfl ?_ | refine sL5 hS rfl rfl ?_ | refine sL6 hS rfl rfl ?_ | refine sL7 hS rfl rfl ?_)) | ((first | (refine oB ?_; first | refine sB1 hS rfl rfl ?_ | refine sB2 hS rfl rfl ?_)); clear hS; first | ((fail_if_success guard_hyp g1); intro g1 w hS) | ((fail_if_success guard_hyp g2); intro g2 w hS) | fail) | fail)
                  go_roundw
                  case measure => simp [intOf]; omega
                  refine ⟨j + 1, wrap64 (r + x), by omega, by go_num, rfl, Lib.hid ?_, hS.re⟩
                  rw [HT.out, ← List.append_assoc, wsum_snoc, HR.out]
                · have HR3 := Lib.hid (show r = wsum 0 (s.saved ++ (s.recs.take (k + 1)).flatMap id) by have h9 : l.take j = l := List.take_of_length_le (by omega); rw [HR.out, h9, HF.out, List.append_assoc])
                  clear HR
                  go_wp2_with (first | (refine oL ?_; (first | refine sL1 hS rfl rfl rfl ?_ | refine sL2 hS rfl rfl rfl ?_ | refine sL3 hS rfl rfl ?_ | refine sL4 hS rfl rfl ?_ | refine sL5 hS rfl rfl ?_ | refine sL6 hS rfl rfl ?_ | refine sL7 hS rfl rfl ?_)) | ((first | (refine oB ?_; first | refine sB1 hS rfl rfl ?_ | refine sB2 hS rfl rfl ?_)); clear hS; first | ((fail_if_success guard_hyp g1); intro g1 w hS) | ((fail_if_success guard_hyp g2); intro g2 w hS) | fail) | fail)
                  go_roundw
                  case measure => simp [intOf]; omega
                  exact ⟨k + 1, r, by omega, by go_num, rfl, HR3, hS.re⟩
            · have HRE := Lib.hid (show wsum 0 (s.saved ++ s.recs.flatMap id) = r by rw [HR.out, List.take_of_length_le (by rw [HP.out.2.lr]; omega)])
              clear HR
              go_wp2_with (first | (refine oL ?_; (first | refine sL1 hS rfl rfl rfl ?_ | refine sL2 hS rfl rfl rfl ?_ | refine sL3 hS rfl rfl ?_ | refine sL4 hS rfl rfl ?_ | refine sL5 hS rfl rfl ?_ | refine sL6 hS rfl rfl ?_ | refine sL7 hS rfl rfl ?_)) | ((first | (refine oB ?_; first | refine sB1 hS rfl rfl ?_ | refine sB2 hS rfl rfl ?_)); clear hS; first | ((fail_if_success guard_hyp g1); intro g1 w hS) | ((fail_if_success guard_hyp g2); intro g2 w hS) | fail) | fail)
              go_ret2
              exact ⟨by rw [HAE.out, HRE.out]; rfl, hS.toExt⟩
/-- all of cut is there, nothing is open, up to k -/
theorem comp_all {n b : Nat} {s : Snp} (h : SnOk n b s) : compS s = true ↔ (∀ k, k < s.cut.length → 0 ≤ nth s.cut k) ∧ (∀ k, k < s.opn.length → opOf s.opn k = false) := by
  constructor
  · intro hc
    have hd := comp_done h hc
    exact ⟨fun k hk => by rw [nth_eq hk]; exact hd.1 _ (List.getElem_mem hk), fun k hk => by rw [opOf_eq hk]; exact hd.2 _ (List.getElem_mem hk)⟩
  · rintro ⟨h1, h2⟩
    simp only [compS, Bool.and_eq_true, Bool.not_eq_true', List.contains_eq_mem, decide_eq_false_iff_not]
    refine ⟨fun hm => ?_, fun hm => ?_⟩
    · obtain ⟨k, hk, e⟩ := List.getElem_of_mem hm
      have := h1 k hk
      rw [nth_eq hk, e] at this
      omega
    · obtain ⟨k, hk, e⟩ := List.getElem_of_mem hm
      have := h2 k hk
      rw [opOf_eq hk, e] at this
      cases this
theorem comp_no {n b : Nat} {s : Snp} (h : SnOk n b s) {k : Nat} (hk : (k < s.cut.length ∧ nth s.cut k < 0) ∨ (k < s.opn.length ∧ opOf s.opn k = true)) : compS s = false := by
  cases hc : compS s with
  | false => rfl
  | true =>
    have hd := (comp_all h).1 hc
    rcases hk with ⟨h1, h2⟩ | ⟨h1, h2⟩
    · have := hd.1 k h1; omega
    · rw [hd.2 k h1] at h2; cases h2
set_option maxRecDepth 100000 in
set_option maxHeartbeats 6400000 in
theorem rcomplete_any {S : Nat → Prop} (v : SV) (s : Snp) (n m b : Nat) (w0 : World) (hs : SnAt S w0 v s) (hl : SnLen n m s) (hok : SnOk n b s) (hn : n ≤ 1000) (hm : m ≤ 1000) :
    Calls Try.prog 20 #[v.val n m] w0 fun e w' => e = .returned (.bool (compS s)) ∧ Ext w0 w' := by
  have hS := St.start w0 NoM
  have HP := Lib.hid (And.intro hs (And.intro hl hok))
  have HNO := Lib.hid (fun k => comp_no (k := k) hok)
  have HAL := Lib.hid (comp_all hok).2
  clear hs hl hok
  obtain ⟨A1, c1, A2, c2, A3, c3, A4, c4, A5, c5, A6, c6, A7, c7⟩ := v
  simp only [SV.val, SV.cells] at *
  generalize compS s = cb at *
  go_enter Try.func20, Try.ntmps20
  go_wp2_with (first | (refine oL ?_; (first | refine sL1 hS rfl rfl rfl ?_ | refine sL2 hS rfl rfl rfl ?_ | refine sL3 hS rfl rfl ?_ | refine sL4 hS rfl rfl ?_ | refine sL5 hS rfl rfl ?_ | refine sL6 hS rfl rfl ?_ | refine sL7 hS rfl rfl ?_)) | ((first | (refine oB ?_; first | refine sB1 hS rfl rfl ?_ | refine sB2 hS rfl rfl ?_)); clear hS; first | ((fail_if_success guard_hyp g1); intro g1 w hS) | ((fail_if_success guard_hyp g2); intro g2 w hS) | fail) | fail)
  go_loopw [3] (fun s3 wr => ∃ (k : Nat), k ≤ n ∧ s3 = .int .i64 k ∧ Hid (∀ j, j < k → 0 ≤ nth s.cut j) ∧ St w0 NoM [blk g1 [.slice A1 n c1, .slice A2 n c2, .slice A3 m c3, .slice A4 n c4, .slice A5 n c5, .slice A6 m c6, .slice A7 m c7] 28] wr) (fun s3 _ => n - (intOf s3).toNat)
  case atStart => exact ⟨0, by omega, rfl, Lib.hid (fun j h => by omega), hS⟩
  case round =>
    obtain ⟨k, hk, rfl, HA, hS⟩ := hrel
    by_cases hlt : k < n
    · have hkl : k < s.cut.length := by rw [HP.out.2.1.lk]; exact hlt
      obtain ⟨b1, o1, e1, _, hca⟩ := HP.out.1.cut.atNS hkl
      simp only at e1
      subst e1
      by_cases hu : nth s.cut k < 0
      · have du : decide (nth s.cut k < 0) = true := decide_eq_true hu
        have HB := Lib.hid (HNO.out k (.inl ⟨hkl, hu⟩))
        generalize nth s.cut k = x at *
        clear hkl
        go_wp2_with (first | (refine oL ?_; (first | refine sL1 hS rfl rfl rfl ?_ | refine sL2 hS rfl rfl rfl ?_ | refine sL3 hS rfl rfl ?_ | refine sL4 hS rfl rfl ?_ | refine sL5 hS rfl rfl ?_ | refine sL6 hS rfl rfl ?_ | refine sL7 hS rfl rfl ?_)) | ((first | (refine oB ?_; first | refine sB1 hS rfl rfl ?_ | refine sB2 hS rfl rfl ?_)); clear hS; first | ((fail_if_success guard_hyp g1); intro g1 w hS) | ((fail_if_success guard_hyp g2); intro g2 w hS) | fail) | fail)
        go_ret
        exact ⟨by rw [HB.out]; rfl, hS.toExt⟩
      · have du : decide (nth s.cut k < 0) = false := decide_eq_false hu
        have HA2 := Lib.hid (show ∀ j, j < k + 1 → 0 ≤ nth s.cut j from fun j hj => by
          by_cases e : j = k
          · subst e; omega
          · exact HA.out j (by omega))
        generalize nth s.cut k = x at *
        clear hkl HA
        go_wp2_with (first | (refine oL ?_; (first | refine sL1 hS rfl rfl rfl ?_ | refine sL2 hS rfl rfl rfl ?_ | refine sL3 hS rfl rfl ?_ | refine sL4 hS rfl rfl ?_ | refine sL5 hS rfl rfl ?_ | refine sL6 hS rfl rfl ?_ | refine sL7 hS rfl rfl ?_)) | ((first | (refine oB ?_; first | refine sB1 hS rfl rfl ?_ | refine sB2 hS rfl rfl ?_)); clear hS; first | ((fail_if_success guard_hyp g1); intro g1 w hS) | ((fail_if_success guard_hyp g2); intro g2 w hS) | fail) | fail)
        go_roundw
        case measure => simp [intOf]; omega
        exact ⟨k + 1, by omega, by go_num, HA2, hS⟩
    · have HA1 := Lib.hid (show ∀ j, j < s.cut.length → 0 ≤ nth s.cut j from fun j hj => HA.out j (by rw [HP.out.2.1.lk] at hj; omega))
      clear HA
      go_wp2_with (first | (refine oL ?_; (first | refine sL1 hS rfl rfl rfl ?_ | refine sL2 hS rfl rfl rfl ?_ | refine sL3 hS rfl rfl ?_ | refine sL4 hS rfl rfl ?_ | refine sL5 hS rfl rfl ?_ | refine sL6 hS rfl rfl ?_ | refine sL7 hS rfl rfl ?_)) | ((first | (refine oB ?_; first | refine sB1 hS rfl rfl ?_ | refine sB2 hS rfl rfl ?_)); clear hS; first | ((fail_if_success guard_hyp g1); intro g1 w hS) | ((fail_if_success guard_hyp g2); intro g2 w hS) | fail) | fail)
      go_loopw [4] (fun s4 wr => ∃ (k : Nat), k ≤ m ∧ s4 = .int .i64 k ∧ Hid (∀ j, j < k → opOf s.opn j = false) ∧ St w0 NoM [blk g1 [.slice A1 n c1, .slice A2 n c2, .slice A3 m c3, .slice A4 n c4, .slice A5 n c5, .slice A6 m c6, .slice A7 m c7] 28] wr) (fun s4 _ => m - (intOf s4).toNat)
      case atStart => exact ⟨0, by omega, rfl, Lib.hid (fun j h => by omega), hS⟩
      case round =>
        obtain ⟨k, hk, rfl, HA, hS⟩ := hrel
        by_cases hlt2 : k < m
        · have hkl : k < s.opn.length := by rw [HP.out.2.1.lo]; exact hlt2
          obtain ⟨b1, o1, e1, _, hca⟩ := RB.at_ HP.out.1.opn hkl
          simp only at e1
          subst e1
          cases hu : opOf s.opn k with
          | true =>
            have HB := Lib.hid (HNO.out k (.inr ⟨hkl, hu⟩))
            rw [hu] at hca
            clear hkl hu
            go_wp2_with (first | (refine oL ?_; (first | refine sL1 hS rfl rfl rfl ?_ | refine sL2 hS rfl rfl rfl ?_ | refine sL3 hS rfl rfl ?_ | refine sL4 hS rfl rfl ?_ | refine sL5 hS rfl rfl ?_ | refine sL6 hS rfl rfl ?_ | refine sL7 hS rfl rfl ?_)) | ((first | (refine oB ?_; first | refine sB1 hS rfl rfl ?_ | refine sB2 hS rfl rfl ?_)); clear hS; first | ((fail_if_success guard_hyp g1); intro g1 w hS) | ((fail_if_success guard_hyp g2); intro g2 w hS) | fail) | fail)
            go_ret
            exact ⟨by rw [HB.out]; rfl, hS.toExt⟩
          | false =>
            have HA2 := Lib.hid (show ∀ j, j < k + 1 → opOf s.opn j = false from fun j hj => by
              by_cases e : j = k
              · subst e; exact hu
              · exact HA.out j (by omega))
            rw [hu] at hca
            clear hkl HA hu
            go_wp2_with (first | (refine oL ?_; (first | refine sL1 hS rfl rfl rfl ?_ | refine sL2 hS rfl rfl rfl ?_ | refine sL3 hS rfl rfl ?_ | refine sL4 hS rfl rfl ?_ | refine sL5 hS rfl rfl ?_ | refine sL6 hS rfl rfl ?_ | refine sL7 hS rfl rfl ?_)) | ((first | (refine oB ?_; first | refine sB1 hS rfl rfl ?_ | refine sB2 hS rfl rfl ?_)); clear hS; first | ((fail_if_success guard_hyp g1); intro g1 w hS) | ((fail_if_success guard_hyp g2); intro g2 w hS) | fail) | fail)
            go_roundw
            case measure => simp [intOf]; omega
            exact ⟨k + 1, by omega, by go_num, HA2, hS⟩
        · have HB := Lib.hid (show cb = true from HAL.out ⟨HA1.out, fun j hj => HA.out j (by rw [HP.out.2.1.lo] at hj; omega)⟩)
          go_wp2_with (first | (refine oL ?_; (first | refine sL1 hS rfl rfl rfl ?_ | refine sL2 hS rfl rfl rfl ?_ | refine sL3 hS rfl rfl ?_ | refine sL4 hS rfl rfl ?_ | refine sL5 hS rfl rfl ?_ | refine sL6 hS rfl rfl ?_ | refine sL7 hS rfl rfl ?_)) | ((first | (refine oB ?_; first | refine sB1 hS rfl rfl ?_ | refine sB2 hS rfl rfl ?_)); clear hS; first | ((fail_if_success guard_hyp g1); intro g1 w hS) | ((fail_if_success guard_hyp g2); intro g2 w hS) | fail) | fail)
          go_ret
          exact ⟨by rw [HB.out]; rfl, hS.toExt⟩
end Go.Proofs.Ytkaofbjppibdkaa
