/- Recovery lines: the reference. Conditions: the pattern is good and lies in memory. -/
import Derived.Test.YtombhhhaidmpeaaLineA
import Derived.Test.YtombhhhaidmpeaaGe
namespace Go.Proofs.Ytombhhhaidmpeaa
open Go.RowKit
set_option linter.unusedVariables false
set_option linter.unusedSimpArgs false
set_option linter.unusedSectionVars false

set_option maxRecDepth 100000 in
set_option maxHeartbeats 1600000 in
theorem rbelow_any {S : Nat → Prop} (A : Option Addr) (c n : Nat) (l : List Int) (z m : Int) (w0 : World) (h : RI S w0 A l) (hn : l.length = n) (hl : n ≤ 1000) (h0 : ∀ k ∈ l, 0 ≤ k) (hz : z = m + 1) :
    Calls Try.prog 87 #[.slice A n c, .int .i64 z] w0 fun e w' => e = .returned (.int .i64 ((bel l m).getD (-1))) ∧ Ext w0 w' := by
  have hS := St.start w0 NoM
  have HZ := Lib.hid hz
  subst hn
  have HK := Lib.hid h0
  clear hz h0
  go_enter Try.func87, Try.ntmps87
  go_wp2_with (first | (refine oL ?_; (first | refine sL1 hS rfl rfl rfl ?_ | refine sL2 hS rfl rfl rfl ?_ | refine sL3 hS rfl rfl ?_ | refine sL4 hS rfl rfl ?_ | refine sL5 hS rfl rfl ?_ | refine sL6 hS rfl rfl ?_ | refine sL7 hS rfl rfl ?_)) | fail)
  go_loopw [5, 6] (fun s5 s6 wr => ∃ (j : Nat) (acc : Option Int), j ≤ l.length ∧ s6 = .int .i64 j ∧ s5 = .int .i64 (acc.getD (-1)) ∧ Hid ((l.take j).foldl (belS m) none = acc ∧ ∀ b, acc = some b → 0 ≤ b) ∧ St w0 NoM [] wr) (fun _ s6 _ => l.length - (intOf s6).toNat)
  case atStart => exact ⟨0, none, by omega, rfl, rfl, Lib.hid ⟨rfl, by simp⟩, hS⟩
  case round =>
    clear hS
    obtain ⟨j, acc, hj, rfl, rfl, HA, hS⟩ := hrel
    by_cases hjl : j < l.length
    · have hjl' : (j : Int) < l.length := by omega
      obtain ⟨b4, o4, rfl, _, hc4⟩ := h.atNS hjl
      have HT := Lib.hid (bel_take (m := m) hjl)
      have hk0 : 0 ≤ nth l j := by rw [nth_eq hjl]; exact HK.out _ (List.getElem_mem hjl)
      generalize nth l j = k at *
      by_cases hkz : k < z
      · have hkm : k ≤ m := by have := HZ.out; omega
        have HN := Lib.hid (show ∃ b, (l.take (j + 1)).foldl (belS m) none = some b ∧ 0 ≤ b ∧ b = (if acc.getD (-1) < k then k else acc.getD (-1)) by
          rw [HT.out, HA.out.1]
          cases acc with
          | none => exact ⟨k, by rw [belS, if_pos hkm], hk0, by simp only [Option.getD_none]; rw [if_pos (by omega)]⟩
          | some b =>
            have hb := HA.out.2 b rfl
            by_cases hbk : b < k
            · exact ⟨k, by rw [belS, if_pos ⟨hkm, hbk⟩], hk0, by simp only [Option.getD_some]; rw [if_pos hbk]⟩
            · exact ⟨b, by rw [belS, if_neg (fun h => hbk h.2)], hb, by simp only [Option.getD_some]; rw [if_neg hbk]⟩)
        generalize acc.getD (-1) = a0 at *
        clear hkm
        by_cases hak : a0 < k
        · go_wp2_with (first | (refine oL ?_; (first | refine sL1 hS rfl rfl rfl ?_ | refine sL2 hS rfl rfl rfl ?_ | refine sL3 hS rfl rfl ?_ | refine sL4 hS rfl rfl ?_ | refine sL5 hS rfl rfl ?_ | refine sL6 hS rfl rfl ?_ | refine sL7 hS rfl rfl ?_)) | fail)
          go_roundw
          case measure => simp [intOf]; omega
          obtain ⟨b, e1, e2, e3⟩ := HN.out
          rw [if_pos hak] at e3
          exact ⟨j + 1, some b, by omega, by go_num, by rw [e3]; first | rfl | simp, Lib.hid ⟨e1, by rintro b2 h2; injection h2 with h2; omega⟩, hS⟩
        · go_wp2_with (first | (refine oL ?_; (first | refine sL1 hS rfl rfl rfl ?_ | refine sL2 hS rfl rfl rfl ?_ | refine sL3 hS rfl rfl ?_ | refine sL4 hS rfl rfl ?_ | refine sL5 hS rfl rfl ?_ | refine sL6 hS rfl rfl ?_ | refine sL7 hS rfl rfl ?_)) | fail)
          go_roundw
          case measure => simp [intOf]; omega
          obtain ⟨b, e1, e2, e3⟩ := HN.out
          rw [if_neg hak] at e3
          exact ⟨j + 1, some b, by omega, by go_num, by rw [e3]; first | rfl | simp, Lib.hid ⟨e1, by rintro b2 h2; injection h2 with h2; omega⟩, hS⟩
      · have HN := Lib.hid (show (l.take (j + 1)).foldl (belS m) none = acc by
          have hkm : ¬ k ≤ m := by have := HZ.out; omega
          rw [HT.out, HA.out.1]
          cases acc with
          | none => rw [belS, if_neg hkm]
          | some b => rw [belS, if_neg (fun h => hkm h.1)])
        go_wp2_with (first | (refine oL ?_; (first | refine sL1 hS rfl rfl rfl ?_ | refine sL2 hS rfl rfl rfl ?_ | refine sL3 hS rfl rfl ?_ | refine sL4 hS rfl rfl ?_ | refine sL5 hS rfl rfl ?_ | refine sL6 hS rfl rfl ?_ | refine sL7 hS rfl rfl ?_)) | fail)
        go_roundw
        case measure => simp [intOf]; omega
        exact ⟨j + 1, acc, by omega, by go_num, rfl, Lib.hid ⟨HN.out, HA.out.2⟩, hS⟩
    · have hjl' : ¬ (j : Int) < l.length := by omega
      have HE := Lib.hid (show acc = bel l m by rw [← HA.out.1, List.take_of_length_le (by omega)]; rfl)
      go_wp2_with (first | (refine oL ?_; (first | refine sL1 hS rfl rfl rfl ?_ | refine sL2 hS rfl rfl rfl ?_ | refine sL3 hS rfl rfl ?_ | refine sL4 hS rfl rfl ?_ | refine sL5 hS rfl rfl ?_ | refine sL6 hS rfl rfl ?_ | refine sL7 hS rfl rfl ?_)) | fail)
      go_ret
      rw [← HE.out]
      exact ⟨rfl, hS.toExt⟩
set_option maxHeartbeats 800000 in
theorem rin_any {S : Nat → Prop} (A : Option Addr) (c n : Nat) (l : List Int) (x : Int) (w0 : World) (h : RI S w0 A l) (hn : l.length = n) (hl : n ≤ 1000000) :
    Calls Try.prog 89 #[.slice A n c, .int .i64 x] w0 fun e w' => e = .returned (.bool (decide (x ∈ l))) ∧ Ext w0 w' := by
  have hS := St.start w0 NoM
  subst hn
  go_enter Try.func89, Try.ntmps89
  go_wp2_with (first | (refine oL ?_; (first | refine sL1 hS rfl rfl rfl ?_ | refine sL2 hS rfl rfl rfl ?_ | refine sL3 hS rfl rfl ?_ | refine sL4 hS rfl rfl ?_ | refine sL5 hS rfl rfl ?_ | refine sL6 hS rfl rfl ?_ | refine sL7 hS rfl rfl ?_)) | fail)
  go_loopw [5] (fun s5 wr => ∃ (j : Nat), j ≤ l.length ∧ s5 = .int .i64 j ∧ Hid (¬ x ∈ l.take j) ∧ St w0 NoM [] wr) (fun s5 _ => l.length - (intOf s5).toNat)
  case atStart => exact ⟨0, by omega, rfl, Lib.hid (by simp), hS⟩
  case round =>
    clear hS
    obtain ⟨j, hj, rfl, HA, hS⟩ := hrel
    by_cases hjl : j < l.length
    · have hjl' : (j : Int) < l.length := by omega
      obtain ⟨b4, o4, rfl, _, hc4⟩ := h.atNS hjl
      have HT := Lib.hid (List.take_succ_eq_append_getElem hjl)
      have HM := Lib.hid (List.getElem_mem hjl)
      have HN := Lib.hid (nth_eq hjl)
      generalize nth l j = k at *
      by_cases hkx : k = x
      · have db : (k == x) = true := by simp [hkx]
        have HE := Lib.hid (show x ∈ l by rw [← hkx, HN.out]; exact HM.out)
        clear hkx
        go_wp2_with (first | (refine oL ?_; (first | refine sL1 hS rfl rfl rfl ?_ | refine sL2 hS rfl rfl rfl ?_ | refine sL3 hS rfl rfl ?_ | refine sL4 hS rfl rfl ?_ | refine sL5 hS rfl rfl ?_ | refine sL6 hS rfl rfl ?_ | refine sL7 hS rfl rfl ?_)) | fail)
        go_ret
        exact ⟨by rw [decide_eq_true HE.out]; rfl, hS.toExt⟩
      · have db : (k == x) = false := by simp [hkx]
        have HE := Lib.hid (show ¬ x ∈ l.take (j + 1) by
          rw [HT.out, ← HN.out, List.mem_append, List.mem_singleton]
          rintro (h | h)
          · exact HA.out h
          · exact hkx h.symm)
        clear hkx
        go_wp2_with (first | (refine oL ?_; (first | refine sL1 hS rfl rfl rfl ?_ | refine sL2 hS rfl rfl rfl ?_ | refine sL3 hS rfl rfl ?_ | refine sL4 hS rfl rfl ?_ | refine sL5 hS rfl rfl ?_ | refine sL6 hS rfl rfl ?_ | refine sL7 hS rfl rfl ?_)) | fail)
        go_roundw
        case measure => simp [intOf]; omega
        exact ⟨j + 1, by omega, by go_num, HE, hS⟩
    · have hjl' : ¬ (j : Int) < l.length := by omega
      have HE := Lib.hid (show ¬ x ∈ l by have h1 := HA.out; rw [List.take_of_length_le (by omega)] at h1; exact h1)
      go_wp2_with (first | (refine oL ?_; (first | refine sL1 hS rfl rfl rfl ?_ | refine sL2 hS rfl rfl rfl ?_ | refine sL3 hS rfl rfl ?_ | refine sL4 hS rfl rfl ?_ | refine sL5 hS rfl rfl ?_ | refine sL6 hS rfl rfl ?_ | refine sL7 hS rfl rfl ?_)) | fail)
      go_ret
      exact ⟨by rw [decide_eq_false HE.out]; rfl, hS.toExt⟩
set_option maxHeartbeats 800000 in
theorem lin_any {S : Nat → Prop} (A : Option Addr) (c n : Nat) (l : List Int) (x : Int) (w0 : World) (h : RI S w0 A l) (hn : l.length = n) (hl : n ≤ 1000000) :
    Calls Try.prog 20 #[.slice A n c, .int .i64 x] w0 fun e w' => e = .returned (.bool (decide (x ∈ l))) ∧ Ext w0 w' := by
  have hS := St.start w0 NoM
  subst hn
  go_enter Try.func20, Try.ntmps20
  go_wp2_with (first | (refine oL ?_; (first | refine sL1 hS rfl rfl rfl ?_ | refine sL2 hS rfl rfl rfl ?_ | refine sL3 hS rfl rfl ?_ | refine sL4 hS rfl rfl ?_ | refine sL5 hS rfl rfl ?_ | refine sL6 hS rfl rfl ?_ | refine sL7 hS rfl rfl ?_)) | fail)
  go_loopw [5] (fun s5 wr => ∃ (j : Nat), j ≤ l.length ∧ s5 = .int .i64 j ∧ Hid (¬ x ∈ l.take j) ∧ St w0 NoM [] wr) (fun s5 _ => l.length - (intOf s5).toNat)
  case atStart => exact ⟨0, by omega, rfl, Lib.hid (by simp), hS⟩
  case round =>
    clear hS
    obtain ⟨j, hj, rfl, HA, hS⟩ := hrel
    by_cases hjl : j < l.length
    · have hjl' : (j : Int) < l.length := by omega
      obtain ⟨b4, o4, rfl, _, hc4⟩ := h.atNS hjl
      have HT := Lib.hid (List.take_succ_eq_append_getElem hjl)
      have HM := Lib.hid (List.getElem_mem hjl)
      have HN := Lib.hid (nth_eq hjl)
      generalize nth l j = k at *
      by_cases hkx : k = x
      · have db : (k == x) = true := by simp [hkx]
        have HE := Lib.hid (show x ∈ l by rw [← hkx, HN.out]; exact HM.out)
        clear hkx
        go_wp2_with (first | (refine oL ?_; (first | refine sL1 hS rfl rfl rfl ?_ | refine sL2 hS rfl rfl rfl ?_ | refine sL3 hS rfl rfl ?_ | refine sL4 hS rfl rfl ?_ | refine sL5 hS rfl rfl ?_ | refine sL6 hS rfl rfl ?_ | refine sL7 hS rfl rfl ?_)) | fail)
        go_ret
        exact ⟨by rw [decide_eq_true HE.out]; rfl, hS.toExt⟩
      · have db : (k == x) = false := by simp [hkx]
        have HE := Lib.hid (show ¬ x ∈ l.take (j + 1) by
          rw [HT.out, ← HN.out, List.mem_append, List.mem_singleton]
          rintro (h | h)
          · exact HA.out h
          · exact hkx h.symm)
        clear hkx
        go_wp2_with (first | (refine oL ?_; (first | refine sL1 hS rfl rfl rfl ?_ | refine sL2 hS rfl rfl rfl ?_ | refine sL3 hS rfl rfl ?_ | refine sL4 hS rfl rfl ?_ | refine sL5 hS rfl rfl ?_ | refine sL6 hS rfl rfl ?_ | refine sL7 hS rfl rfl ?_)) | fail)
        go_roundw
        case measure => simp [intOf]; omega
        exact ⟨j + 1, by omega, by go_num, HE, hS⟩
    · have hjl' : ¬ (j : Int) < l.length := by omega
      have HE := Lib.hid (show ¬ x ∈ l by have h1 := HA.out; rw [List.take_of_length_le (by omega)] at h1; exact h1)
      go_wp2_with (first | (refine oL ?_; (first | refine sL1 hS rfl rfl rfl ?_ | refine sL2 hS rfl rfl rfl ?_ | refine sL3 hS rfl rfl ?_ | refine sL4 hS rfl rfl ?_ | refine sL5 hS rfl rfl ?_ | refine sL6 hS rfl rfl ?_ | refine sL7 hS rfl rfl ?_)) | fail)
      go_ret
      exact ⟨by rw [decide_eq_false HE.out]; rfl, hS.toExt⟩
theorem alF_take {p : Pat} {F : List Nat} {q : Nat} (hq : q < p.len.length) : (alF p F).take (q + 1) = (alF p F).take q ++ [alRow p F q] := by
  rw [List.take_succ_eq_append_getElem (by rw [alF_len]; exact hq)]
  simp [alF]
set_option maxRecDepth 100000 in
set_option maxHeartbeats 6400000 in
theorem rallowed_any {S T : Nat → Prop} (v : PV) (X : Option Addr) (c n : Nat) (p : Pat) (F : List Nat) (w0 : World) (hp : PatAt S w0 v p) (hg : Good p) (hx : RI T w0 X (F.map (fun f : Nat => (f : Int)))) (hF : F.length = n) (hFl : n ≤ 1000) :
    Calls Try.prog 75 #[v.val p, .slice X n c] w0 (RetRR S w0 (alF p F)) := by
  have hS := St.start w0 NoM
  have hn5 := hg.n5
  have hn2 := hg.n2
  have HCKL := Lib.hid hg.ckl
  have hck1 : p.ck.length ≤ p.len.length := by have := HCKL.out; omega
  have hck2 : p.len.length ≤ p.ck.length := by have := HCKL.out; omega
  have HP := Lib.hid (And.intro hp hg)
  have hck := hp.ck
  have hln := hp.len
  have HX := Lib.hid (show ∀ w q, Ext w0 w → Calls Try.prog 89 #[.slice X n c, .int .i64 q] w (fun e w' => e = .returned (.bool (decide (q ∈ F.map (fun f : Nat => (f : Int))))) ∧ Ext w w') from fun w q hxt =>
    rin_any X c n (F.map (fun f : Nat => (f : Int))) q w (hx.ext hxt) (by simpa using hF) (by omega))
  clear hp hg hx
  obtain ⟨A1, c1, A2, c2, A3, c3⟩ := v
  simp only [PV.val] at *
  go_enter Try.func75, Try.ntmps75
  go_wp2_with (first | (refine oL ?_; (first | refine sL1 hS rfl rfl rfl ?_ | refine sL2 hS rfl rfl rfl ?_ | refine sL3 hS rfl rfl ?_ | refine sL4 hS rfl rfl ?_ | refine sL5 hS rfl rfl ?_ | refine sL6 hS rfl rfl ?_ | refine sL7 hS rfl rfl ?_)) | (refine oP ?_; ((first | refine sP1 hS rfl rfl rfl ?_ | refine sP2 hS rfl rfl rfl ?_ | refine sP3 hS rfl rfl rfl ?_); clear hS; first | ((fail_if_success guard_hyp L1); intro L1 cl1 w hL1 hM1 hS) | ((fail_if_success guard_hyp L2); intro L2 cl2 w hL2 hM2 hS) | ((fail_if_success guard_hyp L3); intro L3 cl3 w hL3 hM3 hS) | ((fail_if_success guard_hyp L4); intro L4 cl4 w hL4 hM4 hS) | fail)) | ((first | (refine oB ?_; first | refine sB1 hS rfl rfl ?_ | refine sB2 hS rfl rfl ?_) | (refine oC ?_; first | refine sC0 hS rfl ?_ | refine sC1 hS rfl rfl ?_ | refine sC2 hS rfl rfl ?_ | refine sC3 hS rfl rfl rfl ?_ | refine sC4 hS rfl rfl rfl ?_)); clear hS; first | ((fail_if_success guard_hyp g1); intro g1 w hS) | ((fail_if_success guard_hyp g2); intro g2 w hS) | ((fail_if_success guard_hyp g3); intro g3 w hS) | ((fail_if_success guard_hyp g4); intro g4 w hS) | fail) | fail)
  replace hS := (hS.addNil 24 1).frozNil
  go_loopw [5, 6, 7] (fun s5 s6 s7 wr => ∃ (q k : Nat) (L : Option Addr) (vs : List Value) (T1 : Nat → Prop) (u : World), q ≤ p.len.length ∧ capOk q k ∧ s6 = .int .i64 q ∧ s5 = .slice L q k ∧ Hid (Reps (repRow T1 u) 1 vs ((alF p F).take q)) ∧ St w0 NoM [froz T1 u, row (.slice L q k) 24 1 q vs, blk g1 [.slice A1 p.len.length c1, .slice A2 p.ck.length c2, .slice A3 p.arcs.length c3] 28] wr) (fun _ s6 _ _ => p.len.length - (intOf s6).toNat)
  case atStart => exact ⟨0, 0, none, [], _, _, by omega, by simp [capOk], rfl, rfl, Lib.hid rfl, hS⟩
  case round =>
    clear hS
    obtain ⟨q, k, L, vs, T1, u1, hq, hk, rfl, rfl, HV, hS⟩ := hrel
    by_cases hlt : q < p.len.length
    · have hlt' : (q : Int) < p.ck.length := by omega
      have hlt2 : (q : Int) < p.len.length := by omega
      have hq2 : q < p.ck.length := by omega
      obtain ⟨b2, o2, B, cB, rfl, hfc2, hB, hcB, hcB'⟩ := hck.fc hq2
      have hcc := hfc2.c
      obtain ⟨b1, o1, rfl, _, hcl⟩ := hln.atNS hlt
      have hrl := HP.out.2.rowLen hlt
      have HAR := Lib.hid (show alRow p F q = if q ∈ F ∨ nth p.len q ∈ rowOf p.ck q then rowOf p.ck q else rowOf p.ck q ++ [nth p.len q] from rfl)
      have HSU := Lib.hid (alF_take (p := p) (F := F) hlt)
      clear hfc2
      generalize hl : rowOf p.ck q = l at *
      generalize hm : nth p.len q = m at *
      by_cases hqF : q ∈ F
      · have dF : decide ((q : Int) ∈ F.map (fun f : Nat => (f : Int))) = true := decide_eq_true (mem_nats.2 hqF)
        have HR := Lib.hid (show alRow p F q = l by rw [HAR.out, if_pos (.inl hqF)])
        clear hqF
        go_wp2_with (first | (refine st_appON hS rfl rfl rfl (hB.ext hS.toExt) rfl (by omega) ?_; clear hS; intro Lx cx w hLx hMx hS) | (go_at_call 89; first | (guard_hyp hin1; refine (rin_any Lx cx l.length l m _ hS.ri rfl (by omega)).mono ?_; rintro e w ⟨rfl, hx1⟩; replace hS := hS.ext hx1; rw [dl]) | (refine (HX.out _ _ hS.toExt).mono ?_; rintro e w ⟨rfl, hx1⟩; replace hS := hS.ext hx1; rw [dF]; have hin1 : True := trivial)) | (refine oL ?_; (first | refine sL1 hS rfl rfl rfl ?_ | refine sL2 hS rfl rfl rfl ?_ | refine sL3 hS rfl rfl ?_ | refine sL4 hS rfl rfl ?_ | refine sL5 hS rfl rfl ?_ | refine sL6 hS rfl rfl ?_ | refine sL7 hS rfl rfl ?_)) | (refine oP ?_; ((first | refine sP1 hS rfl rfl rfl ?_ | refine sP2 hS rfl rfl rfl ?_ | refine sP3 hS rfl rfl rfl ?_); clear hS; first | ((fail_if_success guard_hyp L1); intro L1 cl1 w hL1 hM1 hS) | ((fail_if_success guard_hyp L2); intro L2 cl2 w hL2 hM2 hS) | ((fail_if_success guard_hyp L3); intro L3 cl3 w hL3 hM3 hS) | ((fail_if_success guard_hyp L4); intro L4 cl4 w hL4 hM4 hS) | fail)) | ((first | (refine oB ?_; first | refine sB1 hS rfl rfl ?_ | refine sB2 hS rfl rfl ?_) | (refine oC ?_; first | refine sC0 hS rfl ?_ | refine sC1 hS rfl rfl ?_ | refine sC2 hS rfl rfl ?_ | refine sC3 hS rfl rfl rfl ?_ | refine sC4 hS rfl rfl rfl ?_)); clear hS; first | ((fail_if_success guard_hyp g1); intro g1 w hS) | ((fail_if_success guard_hyp g2); intro g2 w hS) | ((fail_if_success guard_hyp g3); intro g3 w hS) | ((fail_if_success guard_hyp g4); intro g4 w hS) | fail) | fail)
        obtain ⟨T2, hS2, hr2⟩ := St.rowIn hS HV.out ⟨hLx, hMx⟩
        go_roundw
        case measure => simp [intOf]; omega
        exact ⟨q + 1, _, _, _, T2, _, by omega, ⟨hL1, hM1⟩, by go_num, by first | rfl | simp, Lib.hid (by rw [HSU.out, HR.out]; exact hr2), hS2.re⟩
      · have dF : decide ((q : Int) ∈ F.map (fun f : Nat => (f : Int))) = false := decide_eq_false (fun h => hqF (mem_nats.1 h))
        by_cases hlm : m ∈ l
        · have dl : decide (m ∈ l) = true := decide_eq_true hlm
          have HR := Lib.hid (show alRow p F q = l by rw [HAR.out, if_pos (.inr hlm)])
          clear hqF hlm
          go_wp2_with (first | (refine st_appON hS rfl rfl rfl (hB.ext hS.toExt) rfl (by omega) ?_; clear hS; intro Lx cx w hLx hMx hS) | (go_at_call 89; first | (guard_hyp hin1; refine (rin_any Lx cx l.length l m _ hS.ri rfl (by omega)).mono ?_; rintro e w ⟨rfl, hx1⟩; replace hS := hS.ext hx1; rw [dl]) | (refine (HX.out _ _ hS.toExt).mono ?_; rintro e w ⟨rfl, hx1⟩; replace hS := hS.ext hx1; rw [dF]; have hin1 : True := trivial)) | (refine oL ?_; (first | refine sL1 hS rfl rfl rfl ?_ | refine sL2 hS rfl rfl rfl ?_ | refine sL3 hS rfl rfl ?_ | refine sL4 hS rfl rfl ?_ | refine sL5 hS rfl rfl ?_ | refine sL6 hS rfl rfl ?_ | refine sL7 hS rfl rfl ?_)) | (refine oP ?_; ((first | refine sP1 hS rfl rfl rfl ?_ | refine sP2 hS rfl rfl rfl ?_ | refine sP3 hS rfl rfl rfl ?_); clear hS; first | ((fail_if_success guard_hyp L1); intro L1 cl1 w hL1 hM1 hS) | ((fail_if_success guard_hyp L2); intro L2 cl2 w hL2 hM2 hS) | ((fail_if_success guard_hyp L3); intro L3 cl3 w hL3 hM3 hS) | ((fail_if_success guard_hyp L4); intro L4 cl4 w hL4 hM4 hS) | fail)) | ((first | (refine oB ?_; first | refine sB1 hS rfl rfl ?_ | refine sB2 hS rfl rfl ?_) | (refine oC ?_; first | refine sC0 hS rfl ?_ | refine sC1 hS rfl rfl ?_ | refine sC2 hS rfl rfl ?_ | refine sC3 hS rfl rfl rfl ?_ | refine sC4 hS rfl rfl rfl ?_)); clear hS; first | ((fail_if_success guard_hyp g1); intro g1 w hS) | ((fail_if_success guard_hyp g2); intro g2 w hS) | ((fail_if_success guard_hyp g3); intro g3 w hS) | ((fail_if_success guard_hyp g4); intro g4 w hS) | fail) | fail)
          obtain ⟨T2, hS2, hr2⟩ := St.rowIn hS HV.out ⟨hLx, hMx⟩
          go_roundw
          case measure => simp [intOf]; omega
          exact ⟨q + 1, _, _, _, T2, _, by omega, ⟨hL1, hM1⟩, by go_num, by first | rfl | simp, Lib.hid (by rw [HSU.out, HR.out]; exact hr2), hS2.re⟩
        · have dl : decide (m ∈ l) = false := decide_eq_false hlm
          have HR := Lib.hid (show alRow p F q = l ++ [m] by rw [HAR.out, if_neg (by rintro (h | h); exact hqF h; exact hlm h)])
          clear hqF hlm
          go_wp2_with (first | (refine st_appON hS rfl rfl rfl (hB.ext hS.toExt) rfl (by omega) ?_; clear hS; intro Lx cx w hLx hMx hS) | (go_at_call 89; first | (guard_hyp hin1; refine (rin_any Lx cx l.length l m _ hS.ri rfl (by omega)).mono ?_; rintro e w ⟨rfl, hx1⟩; replace hS := hS.ext hx1; rw [dl]) | (refine (HX.out _ _ hS.toExt).mono ?_; rintro e w ⟨rfl, hx1⟩; replace hS := hS.ext hx1; rw [dF]; have hin1 : True := trivial)) | (refine oL ?_; (first | refine sL1 hS rfl rfl rfl ?_ | refine sL2 hS rfl rfl rfl ?_ | refine sL3 hS rfl rfl ?_ | refine sL4 hS rfl rfl ?_ | refine sL5 hS rfl rfl ?_ | refine sL6 hS rfl rfl ?_ | refine sL7 hS rfl rfl ?_)) | (refine oP ?_; ((first | refine sP1 hS rfl rfl rfl ?_ | refine sP2 hS rfl rfl rfl ?_ | refine sP3 hS rfl rfl rfl ?_); clear hS; first | ((fail_if_success guard_hyp L1); intro L1 cl1 w hL1 hM1 hS) | ((fail_if_success guard_hyp L2); intro L2 cl2 w hL2 hM2 hS) | ((fail_if_success guard_hyp L3); intro L3 cl3 w hL3 hM3 hS) | ((fail_if_success guard_hyp L4); intro L4 cl4 w hL4 hM4 hS) | fail)) | ((first | (refine oB ?_; first | refine sB1 hS rfl rfl ?_ | refine sB2 hS rfl rfl ?_) | (refine oC ?_; first | refine sC0 hS rfl ?_ | refine sC1 hS rfl rfl ?_ | refine sC2 hS rfl rfl ?_ | refine sC3 hS rfl rfl rfl ?_ | refine sC4 hS rfl rfl rfl ?_)); clear hS; first | ((fail_if_success guard_hyp g1); intro g1 w hS) | ((fail_if_success guard_hyp g2); intro g2 w hS) | ((fail_if_success guard_hyp g3); intro g3 w hS) | ((fail_if_success guard_hyp g4); intro g4 w hS) | fail) | fail)
          obtain ⟨T2, hS2, hr2⟩ := St.rowIn hS HV.out ⟨by simpa using hL1, hM1⟩
          rw [List.length_append, List.length_singleton] at hr2
          go_roundw
          case measure => simp [intOf]; omega
          exact ⟨q + 1, _, _, _, T2, _, by omega, ⟨hL2, hM2⟩, by go_num, by first | rfl | simp, Lib.hid (by rw [HSU.out, HR.out]; exact hr2), hS2.re⟩
    · have e : q = p.len.length := by omega
      subst e
      have hlt' : ¬ (p.len.length : Int) < p.len.length := by omega
      go_wp2_with (first | (refine oL ?_; (first | refine sL1 hS rfl rfl rfl ?_ | refine sL2 hS rfl rfl rfl ?_ | refine sL3 hS rfl rfl ?_ | refine sL4 hS rfl rfl ?_ | refine sL5 hS rfl rfl ?_ | refine sL6 hS rfl rfl ?_ | refine sL7 hS rfl rfl ?_)) | (refine oP ?_; ((first | refine sP1 hS rfl rfl rfl ?_ | refine sP2 hS rfl rfl rfl ?_ | refine sP3 hS rfl rfl rfl ?_); clear hS; first | ((fail_if_success guard_hyp L1); intro L1 cl1 w hL1 hM1 hS) | ((fail_if_success guard_hyp L2); intro L2 cl2 w hL2 hM2 hS) | ((fail_if_success guard_hyp L3); intro L3 cl3 w hL3 hM3 hS) | ((fail_if_success guard_hyp L4); intro L4 cl4 w hL4 hM4 hS) | fail)) | ((first | (refine oB ?_; first | refine sB1 hS rfl rfl ?_ | refine sB2 hS rfl rfl ?_) | (refine oC ?_; first | refine sC0 hS rfl ?_ | refine sC1 hS rfl rfl ?_ | refine sC2 hS rfl rfl ?_ | refine sC3 hS rfl rfl rfl ?_ | refine sC4 hS rfl rfl rfl ?_)); clear hS; first | ((fail_if_success guard_hyp g1); intro g1 w hS) | ((fail_if_success guard_hyp g2); intro g2 w hS) | ((fail_if_success guard_hyp g3); intro g3 w hS) | ((fail_if_success guard_hyp g4); intro g4 w hS) | fail) | fail)
      go_ret
      have hrr : RR (Orn S w0) wr L (alF p F) := ⟨vs, hS.rvNew, by have h1 := HV.out; rw [List.take_of_length_le (by rw [alF_len]; exact Nat.le_refl _)] at h1; exact h1.mono (repRow.into hS.frozOrn)⟩
      exact ⟨L, k, by rw [alF_len]; rfl, by rw [alF_len]; exact hk.1, hk.2, hrr, hS.toExt⟩
theorem rbelow_v {S : Nat → Prop} {A : Option Addr} {c n : Nat} {l : List Int} {z m bv : Int} {w0 : World} (h : RI S w0 A l) (hn : l.length = n) (hl : n ≤ 1000) (h0 : ∀ k ∈ l, 0 ≤ k) (hz : z = m + 1) (hv : bel l m = some bv) :
    Calls Try.prog 87 #[.slice A n c, .int .i64 z] w0 fun e w' => e = .returned (.int .i64 bv) ∧ Ext w0 w' := by
  have := rbelow_any A c n l z m w0 h hn hl h0 hz
  rw [hv] at this
  exact this
theorem topOf_take {al : List (List Int)} {len : List Int} {q : Nat} {bv : Int} (hq : q < len.length) (hv : bel (rowOf al q) (nth len q) = some bv) : (topOf al len).take (q + 1) = (topOf al len).take q ++ [bv] := by
  rw [List.take_succ_eq_append_getElem (by rw [topOf_len]; exact hq), ← nth_eq (by rw [topOf_len]; exact hq), topOf_nth hq, hv]; rfl
set_option maxRecDepth 100000 in
set_option maxHeartbeats 6400000 in
theorem rgreatest_any {S T : Nat → Prop} (v : PV) (A : Option Addr) (cA n2 : Nat) (p : Pat) (al : List (List Int)) (w0 : World) (hp : PatAt S w0 v p) (hg : Good p) (hal : RR T w0 A al) (hok : AlOk p.len al) (hrl : ∀ q, q < p.len.length → (rowOf al q).length ≤ 1000) (hn2 : al.length = n2) :
    Calls Try.prog 74 #[v.val p, .slice A n2 cA] w0 (GrRet (fun _ => False) w0 p al) := by
  have hS := St.start w0 NoM
  obtain ⟨A1, c1, A2, c2, A3, c3⟩ := v
  simp only [PV.val] at *
  have HP := Lib.hid (And.intro hp (And.intro hg (And.intro hok (And.intro hrl (hn2.symm.trans hok.n)))))
  have hn5 := hg.n5
  have hn22 := hg.n2
  have hfew := hg.few
  have hnle : p.len.length ≤ n2 := by have := HP.out.2.2.2.2; omega
  have hln := hp.len
  have ha := hp.arcs
  have HAL := Lib.hid hal
  have HN2 := Lib.hid hn2
  clear hp hg hok hrl hn2 hal
  go_enter Try.func74, Try.ntmps74
  go_wp2_with (first | (refine oL ?_; (first | refine sL1 hS rfl rfl rfl ?_ | refine sL2 hS rfl rfl rfl ?_ | refine sL3 hS rfl rfl ?_ | refine sL4 hS rfl rfl ?_ | refine sL5 hS rfl rfl ?_ | refine sL6 hS rfl rfl ?_ | refine sL7 hS rfl rfl ?_)) | (refine oS ?_; ((first | refine sS1 hS rfl rfl rfl ?_ | refine sS2 hS rfl rfl rfl ?_ | refine sS3 hS rfl rfl rfl ?_ | refine sS4 hS rfl rfl rfl ?_ | refine sS5 hS rfl rfl rfl ?_); clear hS; intro w hS)) | (refine oP ?_; ((first | refine sP1 hS rfl rfl rfl ?_ | refine sP2 hS rfl rfl rfl ?_ | refine sP3 hS rfl rfl rfl ?_); clear hS; first | ((fail_if_success guard_hyp L1); intro L1 cl1 w hL1 hM1 hS) | ((fail_if_success guard_hyp L2); intro L2 cl2 w hL2 hM2 hS) | fail)) | ((first | (refine oB ?_; first | refine sB1 hS rfl rfl ?_ | refine sB2 hS rfl rfl ?_) | (refine oC ?_; first | refine sC0 hS rfl ?_ | refine sC1 hS rfl rfl ?_ | refine sC2 hS rfl rfl ?_ | refine sC3 hS rfl rfl rfl ?_ | refine sC4 hS rfl rfl rfl ?_)); clear hS; first | ((fail_if_success guard_hyp g1); intro g1 w hS) | ((fail_if_success guard_hyp g2); intro g2 w hS) | ((fail_if_success guard_hyp g3); intro g3 w hS) | ((fail_if_success guard_hyp g4); intro g4 w hS) | fail) | fail)
  replace hS := hS.addNil 3 1
  go_loopw [6, 7, 8] (fun s6 s7 s8 wr => ∃ (q c : Nat) (L : Option Addr), q ≤ p.len.length ∧ s7 = .int .i64 q ∧ s6 = .slice L q c ∧ St w0 NoM [row (.slice L q c) 3 1 q (ints ((topOf al p.len).take q)), blk g1 [.slice A1 p.len.length c1, .slice A2 p.ck.length c2, .slice A3 p.arcs.length c3] 28] wr) (fun _ s7 _ _ => p.len.length - (intOf s7).toNat)
  case atStart => exact ⟨0, 0, none, by omega, rfl, rfl, hS⟩
  case round =>
    clear hS
    obtain ⟨q, c, L, hq, rfl, rfl, hS⟩ := hrel
    by_cases hlt : q < p.len.length
    · have hlt' : (q : Int) < p.len.length := by omega
      have hlt2 : (q : Int) < n2 := by omega
      obtain ⟨bv, hbv⟩ := bel_zero (HP.out.2.2.1.z q hlt) (HP.out.2.1.lo q hlt)
      have HBV := Lib.hid hbv
      have HTT := Lib.hid (topOf_take hlt hbv)
      obtain ⟨b1, o1, rfl, _, hc1⟩ := hln.atNS hlt
      obtain ⟨b2, o2, B, cB, rfl, hfc, hB, hcB, hcB'⟩ := HAL.out.fc (k := q) (by have := HN2.out; omega)
      have hcc := hfc.c
      have hb := bel_some hbv
      have hbn := HP.out.2.2.1.nn q hlt _ hb.1
      have hlo := HP.out.2.1.lo q hlt
      have hhi := HP.out.2.1.hi q hlt
      have hrl := HP.out.2.2.2.1 q hlt
      have HNN := Lib.hid (fun k hk => (HP.out.2.2.1.nn q hlt k hk).1)
      have HTL := Lib.hid (show ((topOf al p.len).take q).length = q by rw [List.length_take, topOf_len]; omega)
      clear hbv hfc hb
      generalize rowOf al q = l at *
      generalize nth p.len q = nq at *
      generalize (topOf al p.len).take q = xs at *
      have dn : decide (bv < 0) = false := decide_eq_false (by omega)
      go_wp2_with (first | (refine oL ?_; (first | refine sL1 hS rfl rfl rfl ?_ | refine sL2 hS rfl rfl rfl ?_ | refine sL3 hS rfl rfl ?_ | refine sL4 hS rfl rfl ?_ | refine sL5 hS rfl rfl ?_ | refine sL6 hS rfl rfl ?_ | refine sL7 hS rfl rfl ?_)) | (refine oS ?_; ((first | refine sS1 hS rfl rfl rfl ?_ | refine sS2 hS rfl rfl rfl ?_ | refine sS3 hS rfl rfl rfl ?_ | refine sS4 hS rfl rfl rfl ?_ | refine sS5 hS rfl rfl rfl ?_); clear hS; intro w hS)) | (refine oP ?_; ((first | refine sP1 hS rfl rfl rfl ?_ | refine sP2 hS rfl rfl rfl ?_ | refine sP3 hS rfl rfl rfl ?_); clear hS; first | ((fail_if_success guard_hyp L1); intro L1 cl1 w hL1 hM1 hS) | ((fail_if_success guard_hyp L2); intro L2 cl2 w hL2 hM2 hS) | fail)) | ((first | (refine oB ?_; first | refine sB1 hS rfl rfl ?_ | refine sB2 hS rfl rfl ?_) | (refine oC ?_; first | refine sC0 hS rfl ?_ | refine sC1 hS rfl rfl ?_ | refine sC2 hS rfl rfl ?_ | refine sC3 hS rfl rfl rfl ?_ | refine sC4 hS rfl rfl rfl ?_)); clear hS; first | ((fail_if_success guard_hyp g1); intro g1 w hS) | ((fail_if_success guard_hyp g2); intro g2 w hS) | ((fail_if_success guard_hyp g3); intro g3 w hS) | ((fail_if_success guard_hyp g4); intro g4 w hS) | fail) | fail)
      refine dr_start0 []  hS (by kernel_rfl) rfl ?_; clear hS; intro w hS
      refine dM hS 0 rfl rfl rfl ?_
      (try simp only [Act.put, nA, nB, nC])
      refine dM hS 1 rfl rfl rfl ?_
      (try simp only [Act.put, nA, nB, nC])
      refine dP hS 2 rfl rfl ?_
      (try simp only [Act.put, nA, nB, nC])
      first | refine dL1 hS 3 rfl rfl rfl rfl ?_ | refine dL2 hS 3 rfl rfl rfl rfl ?_ | refine dL3 hS 3 rfl rfl rfl ?_ | refine dL4 hS 3 rfl rfl rfl ?_ | refine dL5 hS 3 rfl rfl rfl ?_ | refine dL6 hS 3 rfl rfl rfl ?_ | refine dL7 hS 3 rfl rfl rfl ?_
      (try simp only [Act.put, nA, nB, nC])
      refine dP hS 4 rfl rfl ?_
      (try simp only [Act.put, nA, nB, nC])
      first | refine dL1 hS 5 rfl rfl rfl rfl ?_ | refine dL2 hS 5 rfl rfl rfl rfl ?_ | refine dL3 hS 5 rfl rfl rfl ?_ | refine dL4 hS 5 rfl rfl rfl ?_ | refine dL5 hS 5 rfl rfl rfl ?_ | refine dL6 hS 5 rfl rfl rfl ?_ | refine dL7 hS 5 rfl rfl rfl ?_
      (try simp only [Act.put, nA, nB, nC])
      refine dM hS 6 rfl rfl rfl ?_
      (try simp only [Act.put, nA, nB, nC])
      refine dP hS 7 rfl rfl ?_
      (try simp only [Act.put, nA, nB, nC])
      first | refine dL1 hS 8 rfl rfl rfl rfl ?_ | refine dL2 hS 8 rfl rfl rfl rfl ?_ | refine dL3 hS 8 rfl rfl rfl ?_ | refine dL4 hS 8 rfl rfl rfl ?_ | refine dL5 hS 8 rfl rfl rfl ?_ | refine dL6 hS 8 rfl rfl rfl ?_ | refine dL7 hS 8 rfl rfl rfl ?_
      (try simp only [Act.put, nA, nB, nC])
      refine dP hS 9 rfl rfl ?_
      (try simp only [Act.put, nA, nB, nC])
      refine dr_one 10 (by kernel_rfl) rfl ?_
      (refine st_call rfl (by kernel_rfl) rfl ?_; go_at_call 87; refine (rbelow_v (m := nq) (hB.ext hS.toExt) rfl hrl HNN.out (by first | rfl | omega) HBV.out).mono ?_; rintro e w ⟨rfl, hx1⟩; replace hS := hS.ext hx1)
      (try simp only [Act.put, nA, nB, nC])
      refine dr_end hS ?_
      refine dA hS 11 rfl rfl rfl ?_
      (try simp only [Act.put, nA, nB, nC])
      refine dr_done (by kernel_rfl) ?_
      go_wp2_with (first | (refine oP ?_; refine st_app hS rfl rfl rfl rfl (by simp [Value.oneCell']) (by omega) ?_; clear hS; intro L9 cl9 w hL9 hM9 hS) | (refine oL ?_; (first | refine sL1 hS rfl rfl rfl ?_ | refine sL2 hS rfl rfl rfl ?_ | refine sL3 hS rfl rfl ?_ | refine sL4 hS rfl rfl ?_ | refine sL5 hS rfl rfl ?_ | refine sL6 hS rfl rfl ?_ | refine sL7 hS rfl rfl ?_)) | (refine oS ?_; ((first | refine sS1 hS rfl rfl rfl ?_ | refine sS2 hS rfl rfl rfl ?_ | refine sS3 hS rfl rfl rfl ?_ | refine sS4 hS rfl rfl rfl ?_ | refine sS5 hS rfl rfl rfl ?_); clear hS; intro w hS)) | (refine oP ?_; ((first | refine sP1 hS rfl rfl rfl ?_ | refine sP2 hS rfl rfl rfl ?_ | refine sP3 hS rfl rfl rfl ?_); clear hS; first | ((fail_if_success guard_hyp L1); intro L1 cl1 w hL1 hM1 hS) | ((fail_if_success guard_hyp L2); intro L2 cl2 w hL2 hM2 hS) | fail)) | ((first | (refine oB ?_; first | refine sB1 hS rfl rfl ?_ | refine sB2 hS rfl rfl ?_) | (refine oC ?_; first | refine sC0 hS rfl ?_ | refine sC1 hS rfl rfl ?_ | refine sC2 hS rfl rfl ?_ | refine sC3 hS rfl rfl rfl ?_ | refine sC4 hS rfl rfl rfl ?_)); clear hS; first | ((fail_if_success guard_hyp g1); intro g1 w hS) | ((fail_if_success guard_hyp g2); intro g2 w hS) | ((fail_if_success guard_hyp g3); intro g3 w hS) | ((fail_if_success guard_hyp g4); intro g4 w hS) | fail) | fail)
      go_roundw
      case measure => simp [intOf]; omega
      refine ⟨q + 1, _, _, by omega, by go_num, rfl, ?_⟩
      rw [HTT.out]
      simpa [ints] using hS
    · have e : q = p.len.length := by omega
      subst e
      have hlt' : ¬ (p.len.length : Int) < p.len.length := by omega
      rw [List.take_of_length_le (by rw [topOf_len]; exact Nat.le_refl _)] at hS
      obtain ⟨gx, rfl⟩ := hS.rowSome L (by omega)
      have hcf := hS.rowForm (some ⟨gx, 0, none⟩)
      go_wp2_with (first | (refine oL ?_; (first | refine sL1 hS rfl rfl rfl ?_ | refine sL2 hS rfl rfl rfl ?_ | refine sL3 hS rfl rfl ?_ | refine sL4 hS rfl rfl ?_ | refine sL5 hS rfl rfl ?_ | refine sL6 hS rfl rfl ?_ | refine sL7 hS rfl rfl ?_)) | (refine oS ?_; ((first | refine sS1 hS rfl rfl rfl ?_ | refine sS2 hS rfl rfl rfl ?_ | refine sS3 hS rfl rfl rfl ?_ | refine sS4 hS rfl rfl rfl ?_ | refine sS5 hS rfl rfl rfl ?_); clear hS; intro w hS)) | (refine oP ?_; ((first | refine sP1 hS rfl rfl rfl ?_ | refine sP2 hS rfl rfl rfl ?_ | refine sP3 hS rfl rfl rfl ?_); clear hS; first | ((fail_if_success guard_hyp L1); intro L1 cl1 w hL1 hM1 hS) | ((fail_if_success guard_hyp L2); intro L2 cl2 w hL2 hM2 hS) | fail)) | ((first | (refine oB ?_; first | refine sB1 hS rfl rfl ?_ | refine sB2 hS rfl rfl ?_) | (refine oC ?_; first | refine sC0 hS rfl ?_ | refine sC1 hS rfl rfl ?_ | refine sC2 hS rfl rfl ?_ | refine sC3 hS rfl rfl rfl ?_ | refine sC4 hS rfl rfl rfl ?_)); clear hS; first | ((fail_if_success guard_hyp g1); intro g1 w hS) | ((fail_if_success guard_hyp g2); intro g2 w hS) | ((fail_if_success guard_hyp g3); intro g3 w hS) | ((fail_if_success guard_hyp g4); intro g4 w hS) | fail) | fail)
      go_loopg [9, 10, 11] (sumN (topOf al p.len)) (fun kk s9 s10 s11 wr => ∃ (y : List Int), y.length = p.len.length ∧ Hid (Run (lineStep al) p.arcs (topOf al p.len) y ∧ validB p.len y = true ∧ Allow p.len.length al y ∧ sumN y = kk) ∧ St w0 NoM [row (.slice (some ⟨gx, 0, none⟩) p.len.length c) 3 1 p.len.length (ints y), blk g1 [.slice A1 p.len.length c1, .slice A2 p.ck.length c2, .slice A3 p.arcs.length c3] 28] wr)
      case atStart =>
        obtain ⟨t1, t2, _⟩ := top_ok HP.out.2.2.1 HP.out.2.1
        exact ⟨_, topOf_len _ _, Lib.hid ⟨Run.refl _ _ _, t1, t2, rfl⟩, hS⟩
      case round =>
        clear hS
        obtain ⟨y, hyl, HY, hS⟩ := hrel
        have HYL := Lib.hid hyl
        have HOK := Lib.hid (HP.out.2.1.arcs_in hyl)
        have hle := idxs_le (orph · y) p.arcs p.arcs.length
        have HB := Lib.hid (consB_iff p.arcs y)
        clear hyl
        cases hid : idxs (orph · y) p.arcs p.arcs.length with
        | nil =>
          go_wp2_with (first | (go_at_call 88; refine (rorphans_n HYL.out hS.ri (ha.into (Into.ofExt hS.toExt)) HOK.out (by omega)).mono ?_; rintro e w ⟨L, cl2, rfl, ho, hx1⟩; have hS := hS.addRow ho hx1; rw [hid] at hS ⊢; rw [List.length_nil]) | (refine oL ?_; (first | refine sL1 hS rfl rfl rfl ?_ | refine sL2 hS rfl rfl rfl ?_ | refine sL3 hS rfl rfl ?_ | refine sL4 hS rfl rfl ?_ | refine sL5 hS rfl rfl ?_ | refine sL6 hS rfl rfl ?_ | refine sL7 hS rfl rfl ?_)) | (refine oS ?_; ((first | refine sS1 hS rfl rfl rfl ?_ | refine sS2 hS rfl rfl rfl ?_ | refine sS3 hS rfl rfl rfl ?_ | refine sS4 hS rfl rfl rfl ?_ | refine sS5 hS rfl rfl rfl ?_); clear hS; intro w hS)) | (refine oP ?_; ((first | refine sP1 hS rfl rfl rfl ?_ | refine sP2 hS rfl rfl rfl ?_ | refine sP3 hS rfl rfl rfl ?_); clear hS; first | ((fail_if_success guard_hyp L1); intro L1 cl1 w hL1 hM1 hS) | ((fail_if_success guard_hyp L2); intro L2 cl2 w hL2 hM2 hS) | fail)) | ((first | (refine oB ?_; first | refine sB1 hS rfl rfl ?_ | refine sB2 hS rfl rfl ?_) | (refine oC ?_; first | refine sC0 hS rfl ?_ | refine sC1 hS rfl rfl ?_ | refine sC2 hS rfl rfl ?_ | refine sC3 hS rfl rfl rfl ?_ | refine sC4 hS rfl rfl rfl ?_)); clear hS; first | ((fail_if_success guard_hyp g1); intro g1 w hS) | ((fail_if_success guard_hyp g2); intro g2 w hS) | ((fail_if_success guard_hyp g3); intro g3 w hS) | ((fail_if_success guard_hyp g4); intro g4 w hS) | fail) | fail)
          go_ret2
          have hb := HB.out
          rw [hid] at hb
          exact ⟨y, _, _, ⟨HY.out.1, by simpa using hb.symm⟩, rfl, hcf.1, hcf.2, hS.riNew, hS.toExt⟩
        | cons i r =>
          obtain ⟨k, rfl, hk, hk', hf, ho⟩ := find_idxs _ (Nat.le_refl _) hid
          have HST := Lib.hid (lstep_ok HP.out.2.2.1 HP.out.2.1 (List.getElem_mem hk') HY.out.2.1 HY.out.2.2.1 ho)
          have HRUN := Lib.hid (HY.out.1.snoc (step := lineStep al) hf)
          have hto := (HP.out.2.1.arc _ (List.getElem_mem hk')).to
          have hat1 := (orph_iff.1 ho).1
          have hat0 := (HP.out.2.1.arc _ (List.getElem_mem hk')).at1
          have hhi := HP.out.2.1.hi _ hto
          obtain ⟨bv, hbv⟩ := bel_zero (HP.out.2.2.1.z _ hto) (show 0 ≤ p.arcs[k].at_ - 1 by omega)
          have HX2 := Lib.hid (show lineStep al p.arcs[k] y = y.set p.arcs[k].to bv by rw [lineStep, hbv]; rfl)
          have HBV := Lib.hid hbv
          have hrl := HP.out.2.2.2.1 _ hto
          have hto' : (p.arcs[k].to : Int) < p.len.length := by omega
          have hto2 : (p.arcs[k].to : Int) < n2 := by omega
          have hb0 := (HP.out.2.2.1.nn _ hto _ (bel_some hbv).1).1
          have dn : decide (bv < 0) = false := decide_eq_false (by omega)
          have HNN := Lib.hid (fun k' hk' => (HP.out.2.2.1.nn _ hto k' hk').1)
          obtain ⟨b2, o2, B, cB, rfl, hfc, hB, hcB, hcB'⟩ := HAL.out.fc (k := p.arcs[k].to) (by have := HN2.out; omega)
          have hcc := hfc.c
          have hyt : p.arcs[k].to < y.length := by have := HYL.out; omega
          obtain ⟨b3, o3, rfl, _, hcs⟩ := ha.cells hk'
          have hrl2 : ((k : Int) :: r).length ≤ 1000 := by rw [← hid]; omega
          clear hbv hf ho hfc
          generalize p.arcs[k] = ar at *
          generalize rowOf al ar.to = l at *
          obtain ⟨fr, ix, to_, at_⟩ := ar
          simp only [arcCells] at *
          go_wp2_with (first | (go_at_call 88; refine (rorphans_n HYL.out hS.ri (ha.into (Into.ofExt hS.toExt)) HOK.out (by omega)).mono ?_; rintro e w ⟨L, cl2, rfl, ho, hx1⟩; have hS := hS.addRow ho hx1; rw [hid] at hS ⊢; obtain ⟨gl, rfl⟩ := hS.rowSome L (by simp)) | (refine oL ?_; (first | refine sL1 hS rfl rfl rfl ?_ | refine sL2 hS rfl rfl rfl ?_ | refine sL3 hS rfl rfl ?_ | refine sL4 hS rfl rfl ?_ | refine sL5 hS rfl rfl ?_ | refine sL6 hS rfl rfl ?_ | refine sL7 hS rfl rfl ?_)) | (refine oS ?_; ((first | refine sS1 hS rfl rfl rfl ?_ | refine sS2 hS rfl rfl rfl ?_ | refine sS3 hS rfl rfl rfl ?_ | refine sS4 hS rfl rfl rfl ?_ | refine sS5 hS rfl rfl rfl ?_); clear hS; intro w hS)) | (refine oP ?_; ((first | refine sP1 hS rfl rfl rfl ?_ | refine sP2 hS rfl rfl rfl ?_ | refine sP3 hS rfl rfl rfl ?_); clear hS; first | ((fail_if_success guard_hyp L1); intro L1 cl1 w hL1 hM1 hS) | ((fail_if_success guard_hyp L2); intro L2 cl2 w hL2 hM2 hS) | fail)) | ((first | (refine oB ?_; first | refine sB1 hS rfl rfl ?_ | refine sB2 hS rfl rfl ?_) | (refine oC ?_; first | refine sC0 hS rfl ?_ | refine sC1 hS rfl rfl ?_ | refine sC2 hS rfl rfl ?_ | refine sC3 hS rfl rfl rfl ?_ | refine sC4 hS rfl rfl rfl ?_)); clear hS; first | ((fail_if_success guard_hyp g1); intro g1 w hS) | ((fail_if_success guard_hyp g2); intro g2 w hS) | ((fail_if_success guard_hyp g3); intro g3 w hS) | ((fail_if_success guard_hyp g4); intro g4 w hS) | fail) | fail)
          have hr0 : (ints ((k : Int) :: r))[0]? = some (.int .i64 (k : Int)) := rfl
          have hkl : (k : Int) < p.arcs.length := by omega
          refine dr_start0 [8]  hS (by kernel_rfl) rfl ?_; clear hS; intro w hS
          refine dP hS 0 rfl rfl ?_
          (try simp only [Act.put, nA, nB, nC])
          first | refine dL1 hS 1 rfl rfl rfl rfl ?_ | refine dL2 hS 1 rfl rfl rfl rfl ?_ | refine dL3 hS 1 rfl rfl rfl ?_ | refine dL4 hS 1 rfl rfl rfl ?_ | refine dL5 hS 1 rfl rfl rfl ?_ | refine dL6 hS 1 rfl rfl rfl ?_ | refine dL7 hS 1 rfl rfl rfl ?_
          (try simp only [Act.put, nA, nB, nC])
          refine dM hS 2 rfl rfl rfl ?_
          (try simp only [Act.put, nA, nB, nC])
          refine dP hS 3 rfl rfl ?_
          (try simp only [Act.put, nA, nB, nC])
          first | refine dL1 hS 4 rfl rfl rfl rfl ?_ | refine dL2 hS 4 rfl rfl rfl rfl ?_ | refine dL3 hS 4 rfl rfl rfl ?_ | refine dL4 hS 4 rfl rfl rfl ?_ | refine dL5 hS 4 rfl rfl rfl ?_ | refine dL6 hS 4 rfl rfl rfl ?_ | refine dL7 hS 4 rfl rfl rfl ?_
          (try simp only [Act.put, nA, nB, nC])
          refine dP hS 5 rfl rfl ?_
          (try simp only [Act.put, nA, nB, nC])
          first | refine dL1 hS 6 rfl rfl rfl rfl ?_ | refine dL2 hS 6 rfl rfl rfl rfl ?_ | refine dL3 hS 6 rfl rfl rfl ?_ | refine dL4 hS 6 rfl rfl rfl ?_ | refine dL5 hS 6 rfl rfl rfl ?_ | refine dL6 hS 6 rfl rfl rfl ?_ | refine dL7 hS 6 rfl rfl rfl ?_
          (try simp only [Act.put, nA, nB, nC])
          refine dr_one 7 (by kernel_rfl) rfl ?_
          (refine sN1 hS rfl ?_; clear hS; first | ((fail_if_success guard_hyp g1); intro g1 w hS) | ((fail_if_success guard_hyp g2); intro g2 w hS) | ((fail_if_success guard_hyp g3); intro g3 w hS) | ((fail_if_success guard_hyp g4); intro g4 w hS) | fail)
          (try simp only [Act.put, nA, nB, nC])
          refine dr_end hS ?_
          refine dr_one 8 (by kernel_rfl) rfl ?_
          ((first | refine sS1 hS rfl rfl rfl ?_ | refine sS2 hS rfl rfl rfl ?_ | refine sS3 hS rfl rfl rfl ?_ | refine sS4 hS rfl rfl rfl ?_ | refine sS5 hS rfl rfl rfl ?_); clear hS; intro w hS)
          (try simp only [Act.put, nA, nB, nC])
          refine dr_late (by kernel_rfl) ?_
          refine dr_done (by kernel_rfl) ?_
          go_wp2_with (first | (refine oL ?_; (first | refine sL1 hS rfl rfl rfl ?_ | refine sL2 hS rfl rfl rfl ?_ | refine sL3 hS rfl rfl ?_ | refine sL4 hS rfl rfl ?_ | refine sL5 hS rfl rfl ?_ | refine sL6 hS rfl rfl ?_ | refine sL7 hS rfl rfl ?_)) | (refine oS ?_; ((first | refine sS1 hS rfl rfl rfl ?_ | refine sS2 hS rfl rfl rfl ?_ | refine sS3 hS rfl rfl rfl ?_ | refine sS4 hS rfl rfl rfl ?_ | refine sS5 hS rfl rfl rfl ?_); clear hS; intro w hS)) | (refine oP ?_; ((first | refine sP1 hS rfl rfl rfl ?_ | refine sP2 hS rfl rfl rfl ?_ | refine sP3 hS rfl rfl rfl ?_); clear hS; first | ((fail_if_success guard_hyp L1); intro L1 cl1 w hL1 hM1 hS) | ((fail_if_success guard_hyp L2); intro L2 cl2 w hL2 hM2 hS) | fail)) | ((first | (refine oB ?_; first | refine sB1 hS rfl rfl ?_ | refine sB2 hS rfl rfl ?_) | (refine oC ?_; first | refine sC0 hS rfl ?_ | refine sC1 hS rfl rfl ?_ | refine sC2 hS rfl rfl ?_ | refine sC3 hS rfl rfl rfl ?_ | refine sC4 hS rfl rfl rfl ?_)); clear hS; first | ((fail_if_success guard_hyp g1); intro g1 w hS) | ((fail_if_success guard_hyp g2); intro g2 w hS) | ((fail_if_success guard_hyp g3); intro g3 w hS) | ((fail_if_success guard_hyp g4); intro g4 w hS) | fail) | fail)
          refine dr_start0 []  hS (by kernel_rfl) rfl ?_; clear hS; intro w hS
          refine dM hS 0 rfl rfl rfl ?_
          (try simp only [Act.put, nA, nB, nC])
          refine dP hS 1 rfl rfl ?_
          (try simp only [Act.put, nA, nB, nC])
          first | refine dL1 hS 2 rfl rfl rfl rfl ?_ | refine dL2 hS 2 rfl rfl rfl rfl ?_ | refine dL3 hS 2 rfl rfl rfl ?_ | refine dL4 hS 2 rfl rfl rfl ?_ | refine dL5 hS 2 rfl rfl rfl ?_ | refine dL6 hS 2 rfl rfl rfl ?_ | refine dL7 hS 2 rfl rfl rfl ?_
          (try simp only [Act.put, nA, nB, nC])
          refine dP hS 3 rfl rfl ?_
          (try simp only [Act.put, nA, nB, nC])
          first | refine dL1 hS 4 rfl rfl rfl rfl ?_ | refine dL2 hS 4 rfl rfl rfl rfl ?_ | refine dL3 hS 4 rfl rfl rfl ?_ | refine dL4 hS 4 rfl rfl rfl ?_ | refine dL5 hS 4 rfl rfl rfl ?_ | refine dL6 hS 4 rfl rfl rfl ?_ | refine dL7 hS 4 rfl rfl rfl ?_
          (try simp only [Act.put, nA, nB, nC])
          refine dP hS 5 rfl rfl ?_
          (try simp only [Act.put, nA, nB, nC])
          first | refine dL1 hS 6 rfl rfl rfl rfl ?_ | refine dL2 hS 6 rfl rfl rfl rfl ?_ | refine dL3 hS 6 rfl rfl rfl ?_ | refine dL4 hS 6 rfl rfl rfl ?_ | refine dL5 hS 6 rfl rfl rfl ?_ | refine dL6 hS 6 rfl rfl rfl ?_ | refine dL7 hS 6 rfl rfl rfl ?_
          (try simp only [Act.put, nA, nB, nC])
          refine dr_one 7 (by kernel_rfl) rfl ?_
          (refine st_call rfl (by kernel_rfl) rfl ?_; go_at_call 87; refine (rbelow_v (m := at_ - 1) (hB.ext hS.toExt) rfl hrl HNN.out (by omega) HBV.out).mono ?_; rintro e w ⟨rfl, hx1⟩; replace hS := hS.ext hx1)
          (try simp only [Act.put, nA, nB, nC])
          refine dr_end hS ?_
          refine dA hS 8 rfl rfl rfl ?_
          (try simp only [Act.put, nA, nB, nC])
          refine dr_done (by kernel_rfl) ?_
          go_wp2_with (first | (refine oL ?_; (first | refine sL1 hS rfl rfl rfl ?_ | refine sL2 hS rfl rfl rfl ?_ | refine sL3 hS rfl rfl ?_ | refine sL4 hS rfl rfl ?_ | refine sL5 hS rfl rfl ?_ | refine sL6 hS rfl rfl ?_ | refine sL7 hS rfl rfl ?_)) | (refine oS ?_; ((first | refine sS1 hS rfl rfl rfl ?_ | refine sS2 hS rfl rfl rfl ?_ | refine sS3 hS rfl rfl rfl ?_ | refine sS4 hS rfl rfl rfl ?_ | refine sS5 hS rfl rfl rfl ?_); clear hS; intro w hS)) | (refine oP ?_; ((first | refine sP1 hS rfl rfl rfl ?_ | refine sP2 hS rfl rfl rfl ?_ | refine sP3 hS rfl rfl rfl ?_); clear hS; first | ((fail_if_success guard_hyp L1); intro L1 cl1 w hL1 hM1 hS) | ((fail_if_success guard_hyp L2); intro L2 cl2 w hL2 hM2 hS) | fail)) | ((first | (refine oB ?_; first | refine sB1 hS rfl rfl ?_ | refine sB2 hS rfl rfl ?_) | (refine oC ?_; first | refine sC0 hS rfl ?_ | refine sC1 hS rfl rfl ?_ | refine sC2 hS rfl rfl ?_ | refine sC3 hS rfl rfl rfl ?_ | refine sC4 hS rfl rfl rfl ?_)); clear hS; first | ((fail_if_success guard_hyp g1); intro g1 w hS) | ((fail_if_success guard_hyp g2); intro g2 w hS) | ((fail_if_success guard_hyp g3); intro g3 w hS) | ((fail_if_success guard_hyp g4); intro g4 w hS) | fail) | fail)
          go_roundg (sumN (y.set to_ bv))
          case measure => have h := HST.out.2.2.1; rw [HX2.out, HY.out.2.2.2] at h; exact h
          case rel =>
            have h1 := HST.out.1
            have h2 := HST.out.2.1
            have h3 := HRUN.out
            rw [HX2.out] at h1 h2 h3
            exact ⟨_, by rw [List.length_set]; exact HYL.out, Lib.hid ⟨h3, h1, h2, rfl⟩, hS.re⟩
set_option maxRecDepth 100000 in
set_option maxHeartbeats 3200000 in
theorem rfailure_any {S T : Nat → Prop} (v : PV) (X : Option Addr) (c n : Nat) (p : Pat) (F : List Nat) (w0 : World) (hp : PatAt S w0 v p) (hg : Good p) (hx : RI T w0 X (F.map (fun f : Nat => (f : Int)))) (hF : F.length = n) (hFl : n ≤ 1000) :
    Calls Try.prog 45 #[v.val p, .slice X n c] w0 (RetI (fun _ => False) w0 p.len.length (lineOf p F)) := by
  have hS := St.start w0 NoM
  have HP := Lib.hid (And.intro hp hg)
  have hal := alF_ok hg F
  have hrw : ∀ q, q < p.len.length → (rowOf (alF p F) q).length ≤ 1000 := fun q hq => by
    rw [alF_row hq]
    have := hg.rowLen hq
    unfold alRow
    split
    · omega
    · simp; omega
  have HAL := Lib.hid (And.intro hal hrw)
  clear hp hg hal hrw
  go_enter Try.func45, Try.ntmps45
  go_wp2_with (first | ((first | (refine oB ?_; first | refine sB1 hS rfl rfl ?_ | refine sB2 hS rfl rfl ?_)); clear hS; first | ((fail_if_success guard_hyp g1); intro g1 w hS) | ((fail_if_success guard_hyp g2); intro g2 w hS) | fail) | fail)
  refine dr_start0 []  hS (by kernel_rfl) rfl ?_; clear hS; intro w hS
  first | refine dL1 hS 0 rfl rfl rfl rfl ?_ | refine dL2 hS 0 rfl rfl rfl rfl ?_ | refine dL3 hS 0 rfl rfl rfl ?_ | refine dL4 hS 0 rfl rfl rfl ?_ | refine dL5 hS 0 rfl rfl rfl ?_ | refine dL6 hS 0 rfl rfl rfl ?_ | refine dL7 hS 0 rfl rfl rfl ?_
  (try simp only [Act.put, nA, nB, nC])
  first | refine dL1 hS 1 rfl rfl rfl rfl ?_ | refine dL2 hS 1 rfl rfl rfl rfl ?_ | refine dL3 hS 1 rfl rfl rfl ?_ | refine dL4 hS 1 rfl rfl rfl ?_ | refine dL5 hS 1 rfl rfl rfl ?_ | refine dL6 hS 1 rfl rfl rfl ?_ | refine dL7 hS 1 rfl rfl rfl ?_
  (try simp only [Act.put, nA, nB, nC])
  refine dM hS 2 rfl rfl rfl ?_
  (try simp only [Act.put, nA, nB, nC])
  refine dr_one 3 (by kernel_rfl) rfl ?_
  (refine st_call rfl (by kernel_rfl) rfl ?_; go_at_call 75; refine (rallowed_any v X c n p F _ (HP.out.1.ext hS.toExt) HP.out.2 (hx.ext hS.toExt) hF hFl).mono ?_; rintro e w ⟨LA, cA, rfl, hcA, hcA', hrr, hx1⟩; have hle := hS.toExt.size; replace hS := hS.ext hx1)
  (try simp only [Act.put, nA, nB, nC])
  refine dr_end hS ?_
  refine dr_one 4 (by kernel_rfl) rfl ?_
  (refine st_call rfl (by kernel_rfl) rfl ?_; go_at_call 74; refine (rgreatest_any v LA cA (alF p F).length p (alF p F) _ (HP.out.1.ext hS.toExt) HP.out.2 hrr HAL.out.1 HAL.out.2 rfl).mono ?_; rintro e w ⟨y, LG, cG, hfin, rfl, hcG, hcG', hri, hx2⟩; have hle2 := hS.toExt.size; replace hS := hS.ext hx2)
  (try simp only [Act.put, nA, nB, nC])
  refine dr_end hS ?_
  refine dM hS 5 rfl rfl rfl ?_
  (try simp only [Act.put, nA, nB, nC])
  refine dP hS 6 rfl rfl ?_
  (try simp only [Act.put, nA, nB, nC])
  refine dP hS 7 rfl rfl ?_
  (try simp only [Act.put, nA, nB, nC])
  refine dA hS 8 rfl rfl rfl ?_
  (try simp only [Act.put, nA, nB, nC])
  refine dA hS 9 rfl rfl rfl ?_
  (try simp only [Act.put, nA, nB, nC])
  refine dr_done (by kernel_rfl) ?_
  go_wp2_with (first | ((first | (refine oB ?_; first | refine sB1 hS rfl rfl ?_ | refine sB2 hS rfl rfl ?_)); clear hS; first | ((fail_if_success guard_hyp g1); intro g1 w hS) | ((fail_if_success guard_hyp g2); intro g2 w hS) | fail) | fail)
  go_ret
  have hy := lineOf_eq HP.out.2 (line_fin HAL.out.1 HP.out.2 hfin)
  subst hy
  exact ⟨LG, cG, rfl, hcG, hcG', hri.sub (fun k hk => by
    rcases hk with h | h
    · exact .inl h
    · exact .inr (by omega)), hS.toExt⟩
end Go.Proofs.Ytombhhhaidmpeaa
