/- pattern.Mark, of the program and of the reference. Conditions: the pattern is good and lies in memory. -/
import Derived.Test.YtmjmdncdmmcmaaaGe
namespace Go.Proofs.Ytmjmdncdmmcmaaa
open Go.RowKit
set_option linter.unusedVariables false
set_option linter.unusedSimpArgs false

/-- the first place of a number in a list -/
def idxI (l : List Int) (x : Int) : Int := if x ∈ l then (l.idxOf x : Int) else -1
set_option maxHeartbeats 800000 in
theorem index_any {S : Nat → Prop} (A : Option Addr) (c : Nat) (l : List Int) (x : Int) (w0 : World) (h : RI S w0 A l) (hl : l.length ≤ 1000000) :
    Calls Try.prog 88 #[.slice A l.length c, .int .i64 x] w0 fun e w' => e = .returned (.int .i64 (idxI l x)) ∧ Ext w0 w' := by
  have hS := St.start w0 NoM
  go_enter Try.func88, Try.ntmps88
  go_wp2_with (fail)
  go_loopw [8] (fun i wr => ∃ k : Nat, k ≤ l.length ∧ i = .int .i64 k ∧ Hid (¬ x ∈ l.take k) ∧ St w0 NoM [] wr) (fun i _ => l.length - (intOf i).toNat)
  case atStart => exact ⟨0, Nat.zero_le _, rfl, Lib.hid (by simp), hS⟩
  case round =>
    obtain ⟨k, hk, rfl, HW, hS⟩ := hrel
    by_cases hlt : k < l.length
    · obtain ⟨b1, o1, rfl, _, hca⟩ := h.atNS hlt
      have HT := Lib.hid (List.take_succ_eq_append_getElem hlt)
      have HN := Lib.hid (nth_eq hlt)
      generalize hy : nth l k = y at *
      by_cases hxy : x = y
      · go_wp2_with (((refine oL ?_; ((refine sL4 hS rfl rfl ?_)))))
        go_ret
        refine ⟨ret_int ?_, hS.toExt⟩
        have hm : x ∈ l := by rw [hxy, HN.out]; exact List.getElem_mem hlt
        have hi : l.idxOf x = k := by
          have h1 : l = l.take k ++ y :: l.drop (k + 1) := by rw [HN.out, List.getElem_cons_drop, List.take_append_drop]
          have hw := HW.out
          rw [hxy] at hw ⊢
          rw [h1, List.idxOf_append, if_neg hw, List.idxOf_cons_self, List.length_take]
          omega
        rw [idxI, if_pos hm, hi]
      · go_wp2_with (((refine oL ?_; ((refine sL4 hS rfl rfl ?_)))))
        go_roundw
        case measure => simp [intOf]; omega
        refine ⟨k + 1, by omega, by go_num, Lib.hid ?_, hS⟩
        rw [HT.out, ← HN.out, List.mem_append, List.mem_singleton]
        rintro (h | h)
        · exact HW.out h
        · exact hxy h
    · go_wp2_with (fail)
      go_ret
      refine ⟨ret_int ?_, hS.toExt⟩
      have hw := HW.out
      rw [List.take_of_length_le (by omega)] at hw
      rw [idxI, if_neg hw]
set_option maxHeartbeats 800000 in
theorem contains_any {S : Nat → Prop} (A : Option Addr) (c : Nat) (l : List Int) (x : Int) (w0 : World) (h : RI S w0 A l) (hl : l.length ≤ 1000000) :
    Calls Try.prog 57 #[.slice A l.length c, .int .i64 x] w0 fun e w' => e = .returned (.bool (decide (x ∈ l))) ∧ Ext w0 w' := by
  have hS := St.start w0 NoM
  have hd : decide (0 ≤ idxI l x) = decide (x ∈ l) := by
    unfold idxI
    split
    · rename_i h; simp [h]
    · rename_i h; simp [h]
  have HD := Lib.hid hd
  clear hd
  go_enter Try.func57, Try.ntmps57
  go_wp2_with (((go_at_call 88; refine (index_any _ _ l x _ (h.ext hS.toExt) hl).mono ?_; rintro e w ⟨rfl, hx1⟩; replace hS := hS.ext hx1)))
  go_ret
  exact ⟨ret_bool (by rw [← HD.out]), hS.toExt⟩
set_option maxHeartbeats 800000 in
/-- Clone of a list of lists: the rows are shared -/
theorem cloneR_any {S : Nat → Prop} (A : Option Addr) (c n : Nat) (vs : List Value) (w0 : World) (hx : RV S w0 A vs) (hn : vs.length = n) (h1 : ∀ u ∈ vs, u.oneCell' = true) (hl : n ≤ 1000000) :
    Calls Try.prog 67 #[.slice A n c] w0 (RetRow w0 25 1 n vs) := by
  have hS := St.start w0 NoM
  have qT : ∀ (w : World) (a : Option Addr) (n c n' c' : Nat), (binOp .eql 41 (.slice a n c) (.slice none n' c')).run Try.prog w = .ok (.bool a.isNone) w := fun w a n c n' c' => Lib.run_eql_slice_nil w _ _ a n c n' c' Try.underlying41
  cases A with
  | none =>
    have h0 := hx.none_len
    subst h0
    simp at hn
    subst hn
    go_enter Try.func67, Try.ntmps67
    go_wp2_with (fail)
    go_ret
    exact ⟨none, 0, rfl, ownsRow_nil _ _ _ _, hS.toExt⟩
  | some ad =>
    go_enter Try.func67, Try.ntmps67
    go_wp2_with (first | (refine st_appG (n := 0) (vs := []) hS rfl rfl rfl (hx.ext hS.toExt) (by omega) h1 (by omega) ?_; clear hS; intro L cl w hL hM hS; rw [List.nil_append, Nat.zero_add] at hS; rw [Nat.zero_add]) | ((((refine oC ?_; (refine sC0 hS rfl ?_)))); clear hS; (((fail_if_success guard_hyp g1); intro g1 w hS))))
    go_ret
    exact hS.ret rfl
/-- Mark at any number -/
def markI (p : Pat) (q : Int) : Pat := if 0 ≤ q ∧ q < p.len.length then p.mark q.toNat else p
theorem RetP.same {S : Nat → Prop} {w w' : World} {v : PV} {p : Pat} (h : PatAt S w v p) (hx : Ext w w') : RetP S w p (.returned (v.val p)) w' := ⟨v, rfl, h.into (Into.orNew hx), hx⟩
theorem RR.vs {S : Nat → Prop} {w : World} {A : Option Addr} {ls : List (List Int)} (h : RR S w A ls) : ∃ vs, RV S w A vs ∧ Reps (repRow S w) 1 vs ls ∧ vs.length = ls.length ∧ ∀ u ∈ vs, u.oneCell' = true := by
  obtain ⟨vs, h1, h2⟩ := h
  exact ⟨vs, h1, h2, by rw [h2.length, Nat.mul_one], h2.all (fun cs x h => repRow.one cs x h)⟩
/-- a row is replaced -/
theorem Reps.setRow {S S' : Nat → Prop} {w w' : World} {vs : List Value} {ls : List (List Int)} (h : Reps (repRow S w) 1 vs ls) (hi : Into S S' w w') {k : Nat} (hk : k < ls.length) {l : List Int} {L : Option Addr} {n c : Nat} (hn : l.length = n) (hc : capOk n c) (hr : RI S' w' L l) : Reps (repRow S' w') 1 (vs.set k (.slice L n c)) (ls.set k l) := by
  subst hn
  have := Reps.set (sz := 1) (i := 0) (h.mono (repRow.into hi)) (by omega) hk (u := .slice L l.length c) (x := l) (fun cs h hcs => by
    refine ⟨L, c, ?_, hc.1, hc.2, hr⟩
    match cs, hcs with
    | [c0], _ => rfl)
  simpa using this
set_option maxRecDepth 100000 in
set_option maxHeartbeats 6400000 in
theorem mark_any {S : Nat → Prop} (v : PV) (p : Pat) (q : Int) (w0 : World) (hp : PatAt S w0 v p) (hg : Good p) :
    Calls Try.prog 75 #[v.val p, .int .i64 q] w0 (RetP S w0 (markI p q)) := by
  have hS := St.start w0 NoM
  have hn5 := hg.n5
  have hn2 := hg.n2
  have hckl := hg.ckl
  have HP := Lib.hid (And.intro hp hg)
  have h1 := hp.len
  have h2 := hp.ck
  have HSM := Lib.hid (@RetP.same S w0 · v p hp)
  clear hp hg
  obtain ⟨A1, c1, A2, c2, A3, c3⟩ := v
  simp only [PV.val] at *
  by_cases hq : 0 ≤ q ∧ q < p.len.length
  rotate_left
  · rw [markI, if_neg hq]
    clear hckl
    have dq : decide (0 ≤ q ∧ q < (p.len.length : Int)) = false := decide_eq_false hq
    go_enter Try.func75, Try.ntmps75
    go_wp2_with (first | (go_at_call 101; refine (process_any _ _ _ _ _ _ _ _ _ _ _).mono ?_; rintro e w ⟨rfl, hx1⟩; replace hS := hS.ext hx1; rw [dq]) | (refine oL ?_; ((refine sL2 hS rfl rfl rfl ?_))) | (refine oS ?_; (((refine sS4 hS rfl rfl rfl ?_)); clear hS; intro w hS)) | ((first | (refine oB ?_; (refine sB1 hS rfl rfl ?_)) | refine sN1 hS rfl ?_); clear hS; first | ((fail_if_success guard_hyp g1); intro g1 w hS) | ((fail_if_success guard_hyp g2); intro g2 w hS)))
    exact st_retC hS rfl rfl rfl rfl (HSM.out _ hS.toExt)
  rw [markI, if_pos hq]
  obtain ⟨k, rfl⟩ : ∃ k : Nat, q = k := ⟨q.toNat, by omega⟩
  rw [Int.toNat_natCast]
  have dq : decide (0 ≤ (k : Int) ∧ (k : Int) < (p.len.length : Int)) = true := decide_eq_true hq
  have hk : k < p.len.length := by omega
  have hk' : (k : Int) < p.len.length := by omega
  have hk2 : k < p.ck.length := by omega
  have hk2' : (k : Int) < p.ck.length := by omega
  have hck5 : p.ck.length ≤ 5 := by omega
  clear hq hckl
  obtain ⟨b1, o1, rfl, _, hca⟩ := h1.atNS hk
  obtain ⟨b2, o2, B, cB, rfl, hfc2, hB, hcB, hcB'⟩ := h2.fc hk2
  have hcc := hfc2.c
  have hrl := HP.out.2.rowLen hk
  obtain ⟨vs, hvs, hreps, hvl, hv1⟩ := h2.vs
  have HV := Lib.hid (And.intro hvs (And.intro hreps hv1))
  have hBn : B = none → (rowOf p.ck k).length = 0 := fun h => by subst h; have := RV.none_len hB; have h4 : (ints (rowOf p.ck k)).length = (rowOf p.ck k).length := by simp
                                                                 rw [this] at h4; exact h4.symm
  clear hvs hreps hv1 hfc2
  have HR := Lib.hid (And.intro (@Pat.mark_same p k) (@Pat.mark_new p k))
  generalize hl : rowOf p.ck k = l at *
  generalize hm : nth p.len k = m at *
  by_cases hml : m ∈ l
  · have dm : decide (m ∈ l) = true := decide_eq_true hml
    rw [HR.out.1 hml]
    go_enter Try.func75, Try.ntmps75
    go_wp2_with (first | (go_at_call 101; refine (process_any _ _ _ _ _ _ _ _ _ _ _).mono ?_; rintro e w ⟨rfl, hx1⟩; replace hS := hS.ext hx1; rw [dq]) | (go_at_call 57; refine (contains_any _ _ l m _ (hB.ext hS.toExt) (by omega)).mono ?_; rintro e w ⟨rfl, hx1⟩; replace hS := hS.ext hx1; rw [dm]) | (refine oL ?_; (first | refine sL1 hS rfl rfl rfl ?_ | refine sL2 hS rfl rfl rfl ?_ | refine sL4 hS rfl rfl ?_)) | (refine oS ?_; (((refine sS4 hS rfl rfl rfl ?_)); clear hS; intro w hS)) | ((first | (refine oB ?_; (refine sB1 hS rfl rfl ?_)) | refine sN1 hS rfl ?_); clear hS; first | ((fail_if_success guard_hyp g1); intro g1 w hS) | ((fail_if_success guard_hyp g2); intro g2 w hS)))
    exact st_retC hS rfl rfl rfl rfl (HSM.out _ hS.toExt)
  have dm : decide (m ∈ l) = false := decide_eq_false hml
  have HPP := Lib.hid (HR.out.2 hml)
  generalize p.mark k = p' at *
  obtain ⟨vk, hvk⟩ : ∃ v, vs[k]? = some v := ⟨vs[k]'(by omega), by simp⟩
  have hvk' : vs[k]? = some (.slice B l.length cB) := by
    obtain ⟨_, _, e, _, hc⟩ := HV.out.1 k _ hvk
    injection e with e; injection e with e1 e2; subst e1; subst e2
    rw [hc] at hcc; rw [hvk]; exact hcc
  clear hvk
  go_enter Try.func75, Try.ntmps75
  go_wp2_with (first | (go_at_call 101; refine (process_any _ _ _ _ _ _ _ _ _ _ _).mono ?_; rintro e w ⟨rfl, hx1⟩; replace hS := hS.ext hx1; rw [dq]) | (go_at_call 57; refine (contains_any _ _ l m _ (hB.ext hS.toExt) (by omega)).mono ?_; rintro e w ⟨rfl, hx1⟩; replace hS := hS.ext hx1; rw [dm]) | (go_at_call 67; refine (cloneR_any _ _ _ vs _ (HV.out.1.ext hS.toExt) hvl HV.out.2.2 (by omega)).mono ?_; rintro e w ⟨L, cl, rfl, ho, hx1⟩; replace hS := hS.addRow ho hx1) | (refine oL ?_; (first | refine sL1 hS rfl rfl rfl ?_ | refine sL2 hS rfl rfl rfl ?_ | refine sL4 hS rfl rfl ?_)) | (refine oS ?_; (((refine sS1 hS rfl rfl rfl ?_)); clear hS; intro w hS)) | ((first | (refine oB ?_; (refine sB1 hS rfl rfl ?_)) | refine sN1 hS rfl ?_); clear hS; first | ((fail_if_success guard_hyp g1); intro g1 w hS) | ((fail_if_success guard_hyp g2); intro g2 w hS)))
  simp only [List.set_cons_zero, List.set_cons_succ] at hS
  have hrf := hS.rowForm L
  obtain ⟨gr, rfl⟩ := hS.rowSome L (by omega)
  refine dr_start0 [13]  hS (by kernel_rfl) rfl ?_; clear hS; intro w hS
  refine dP hS 0 rfl rfl ?_
  (try simp only [Act.put, nA, nB, nC])
  (refine dL1 hS 1 rfl rfl rfl rfl ?_)
  (try simp only [Act.put, nA, nB, nC])
  refine dM hS 2 rfl rfl rfl ?_
  (try simp only [Act.put, nA, nB, nC])
  refine dP hS 3 rfl rfl ?_
  (try simp only [Act.put, nA, nB, nC])
  (refine dL1 hS 4 rfl rfl rfl rfl ?_)
  (try simp only [Act.put, nA, nB, nC])
  refine dM hS 5 rfl rfl rfl ?_
  (try simp only [Act.put, nA, nB, nC])
  refine dP hS 6 rfl rfl ?_
  (try simp only [Act.put, nA, nB, nC])
  (refine dL5 hS 7 rfl rfl rfl ?_)
  (try simp only [Act.put, nA, nB, nC])
  refine dM hS 9 rfl rfl rfl ?_
  (try simp only [Act.put, nA, nB, nC])
  refine dr_two 8 10 (by kernel_rfl) rfl rfl ?_ ?_
  (refine st_call rfl (by kernel_rfl) rfl ?_; go_at_call 102; refine (clipI_any _ _ _ _ hcB hcB' hBn).mono ?_; rintro e w ⟨rfl, hx1⟩; replace hS := hS.ext hx1)
  (try simp only [Act.put, nA, nB, nC])
  refine dr_end hS ?_
  refine dr_one 10 (by kernel_rfl) rfl ?_
  first | (refine st_appFI hS rfl rfl rfl (hB.ext hS.toExt) rfl hBn (by omega) ?_; clear hS; intro L3 cl3 w hL3 hM3 hS) | (refine st_str hS rfl rfl rfl rfl (by omega) ?_; clear hS; intro w hS) | ((first | refine sC0 hS rfl ?_ | refine sC1 hS rfl rfl ?_ | refine sC2 hS rfl rfl ?_ | refine sC3 hS rfl rfl rfl ?_ | refine sC4 hS rfl rfl rfl ?_); clear hS; first | ((fail_if_success guard_hyp g1); intro g1 w hS) | ((fail_if_success guard_hyp g2); intro g2 w hS) | ((fail_if_success guard_hyp g3); intro g3 w hS) | ((fail_if_success guard_hyp g4); intro g4 w hS) | fail) | fail
  (try simp only [Act.put, nA, nB, nC])
  refine dr_end hS ?_
  refine dr_one 11 (by kernel_rfl) rfl ?_
  first | (refine st_appFI hS rfl rfl rfl (hB.ext hS.toExt) rfl hBn (by omega) ?_; clear hS; intro L3 cl3 w hL3 hM3 hS) | (refine st_str hS rfl rfl rfl rfl (by omega) ?_; clear hS; intro w hS) | ((first | refine sP1 hS rfl rfl rfl ?_ | refine sP2 hS rfl rfl rfl ?_ | refine sP3 hS rfl rfl rfl ?_); clear hS; first | ((fail_if_success guard_hyp L1); intro L1 cl1 w hL1 hM1 hS) | ((fail_if_success guard_hyp L2); intro L2 cl2 w hL2 hM2 hS) | fail) | fail
  (try simp only [Act.put, nA, nB, nC])
  refine dr_end hS ?_
  refine dP hS 12 rfl rfl ?_
  (try simp only [Act.put, nA, nB, nC])
  refine dr_one 13 (by kernel_rfl) rfl ?_
  first | (refine st_appFI hS rfl rfl rfl (hB.ext hS.toExt) rfl hBn (by omega) ?_; clear hS; intro L3 cl3 w hL3 hM3 hS) | (refine st_str hS rfl rfl rfl rfl (by omega) ?_; clear hS; intro w hS) | ((first | refine sS1 hS rfl rfl rfl ?_ | refine sS2 hS rfl rfl rfl ?_ | refine sS3 hS rfl rfl rfl ?_ | refine sS4 hS rfl rfl rfl ?_ | refine sS5 hS rfl rfl rfl ?_); clear hS; intro w hS) | fail
  (try simp only [Act.put, nA, nB, nC])
  refine dr_late (by kernel_rfl) ?_
  refine dr_done (by kernel_rfl) ?_
  rotate_left
  first | (refine st_appFI hS rfl rfl rfl (hB.ext hS.toExt) rfl hBn (by omega) ?_; clear hS; intro L3 cl3 w hL3 hM3 hS) | (refine st_str hS rfl rfl rfl rfl (by omega) ?_; clear hS; intro w hS) | ((first | refine sC0 hS rfl ?_ | refine sC1 hS rfl rfl ?_ | refine sC2 hS rfl rfl ?_ | refine sC3 hS rfl rfl rfl ?_ | refine sC4 hS rfl rfl rfl ?_); clear hS; first | ((fail_if_success guard_hyp g1); intro g1 w hS) | ((fail_if_success guard_hyp g2); intro g2 w hS) | ((fail_if_success guard_hyp g3); intro g3 w hS) | ((fail_if_success guard_hyp g4); intro g4 w hS) | fail) | fail
  (try simp only [Act.put, nA, nB, nC])
  refine dr_end hS ?_
  refine dr_one 8 (by kernel_rfl) rfl ?_
  (refine st_call rfl (by kernel_rfl) rfl ?_; go_at_call 102; refine (clipI_any _ _ _ _ hcB hcB' hBn).mono ?_; rintro e w ⟨rfl, hx1⟩; replace hS := hS.ext hx1)
  (try simp only [Act.put, nA, nB, nC])
  refine dr_end hS ?_
  refine dr_one 11 (by kernel_rfl) rfl ?_
  first | (refine st_appFI hS rfl rfl rfl (hB.ext hS.toExt) rfl hBn (by omega) ?_; clear hS; intro L3 cl3 w hL3 hM3 hS) | (refine st_str hS rfl rfl rfl rfl (by omega) ?_; clear hS; intro w hS) | ((first | refine sP1 hS rfl rfl rfl ?_ | refine sP2 hS rfl rfl rfl ?_ | refine sP3 hS rfl rfl rfl ?_); clear hS; first | ((fail_if_success guard_hyp L1); intro L1 cl1 w hL1 hM1 hS) | ((fail_if_success guard_hyp L2); intro L2 cl2 w hL2 hM2 hS) | fail) | fail
  (try simp only [Act.put, nA, nB, nC])
  refine dr_end hS ?_
  refine dP hS 12 rfl rfl ?_
  (try simp only [Act.put, nA, nB, nC])
  refine dr_one 13 (by kernel_rfl) rfl ?_
  first | (refine st_appFI hS rfl rfl rfl (hB.ext hS.toExt) rfl hBn (by omega) ?_; clear hS; intro L3 cl3 w hL3 hM3 hS) | (refine st_str hS rfl rfl rfl rfl (by omega) ?_; clear hS; intro w hS) | ((first | refine sS1 hS rfl rfl rfl ?_ | refine sS2 hS rfl rfl rfl ?_ | refine sS3 hS rfl rfl rfl ?_ | refine sS4 hS rfl rfl rfl ?_ | refine sS5 hS rfl rfl rfl ?_); clear hS; intro w hS) | fail
  (try simp only [Act.put, nA, nB, nC])
  refine dr_late (by kernel_rfl) ?_
  refine dr_done (by kernel_rfl) ?_
  rotate_left
  all_goals
    go_wp2_with (first | (refine oL ?_; ((refine sL2 hS rfl rfl rfl ?_))) | (refine oS ?_; (((refine sS4 hS rfl rfl rfl ?_)); clear hS; intro w hS)))
    refine st_retC hS rfl rfl rfl rfl ?_
    have hE := hS.toExt
    refine RetP.mk (p := p') (by rw [HPP.out]) (by rw [HPP.out]; simp) (by rw [HPP.out]) ?_ ?_ ?_ ⟨HP.out.1.l1, HP.out.1.m1⟩ hrf ⟨HP.out.1.l3, HP.out.1.m3⟩ hE
    · rw [HPP.out]; exact h1.into (Into.orNew hE)
    · rw [HPP.out]
      exact ⟨_, hS.rvNew, HV.out.2.1.setRow (Into.orNew hE) hk2 rfl ⟨by simpa using hL3, hM3⟩ hS.riNew⟩
    · rw [HPP.out]; exact HP.out.1.arcs.into (Into.orNew hE)
set_option maxHeartbeats 800000 in
theorem rmark_any {S : Nat → Prop} (v : PV) (p : Pat) (q : Int) (w0 : World) (hp : PatAt S w0 v p) (hg : Good p) :
    Calls Try.prog 76 #[v.val p, .int .i64 q] w0 (RetP S w0 (markI p q)) := by
  by_cases hq : 0 ≤ q ∧ q < p.len.length
  · obtain ⟨k, rfl⟩ : ∃ k : Nat, q = k := ⟨q.toNat, by omega⟩
    rw [markI, if_pos hq, Int.toNat_natCast]
    have hk : k < p.len.length := by omega
    refine (rmark_good (S := Orn S w0) v.A1 v.A2 v.A3 v.c1 v.c2 v.c3 p k w0 (fun k hk => .inr hk) hp.len (hp.ck.into (Into.orNew (Ext.refl' w0))) hp.l2 hp.m2 hg hk).mono ?_
    rintro e w' ⟨L2, k2, rfl, hr, hc, hc', hx⟩
    rw [← Pat.mark_len p k, ← Pat.mark_arcs p k]
    exact RetP.mk rfl rfl rfl (by rw [Pat.mark_len]; exact hp.len.into (Into.orNew hx)) hr (by rw [Pat.mark_arcs]; exact hp.arcs.into (Into.orNew hx)) (by rw [Pat.mark_len]; exact ⟨hp.l1, hp.m1⟩) ⟨hc, hc'⟩ (by rw [Pat.mark_arcs]; exact ⟨hp.l3, hp.m3⟩) hx
  · rw [markI, if_neg hq]
    have hS := St.start w0 NoM
    have HSM := Lib.hid (@RetP.same S w0 · v p hp)
    have dq : decide (0 ≤ q ∧ q < (p.len.length : Int)) = false := decide_eq_false hq
    clear hp hg
    obtain ⟨A1, c1, A2, c2, A3, c3⟩ := v
    simp only [PV.val] at *
    go_enter Try.func76, Try.ntmps76
    go_wp2_with (first | (go_at_call 103; refine (proc_any _ _ _ _ _ _ _ _ _ _ _).mono ?_; rintro e w ⟨rfl, hx1⟩; replace hS := hS.ext hx1; rw [dq]) | (refine oL ?_; ((refine sL2 hS rfl rfl rfl ?_))) | (refine oS ?_; (((refine sS4 hS rfl rfl rfl ?_)); clear hS; intro w hS)) | ((first | (refine oB ?_; (refine sB1 hS rfl rfl ?_)) | refine sN1 hS rfl ?_); clear hS; first | ((fail_if_success guard_hyp g1); intro g1 w hS) | ((fail_if_success guard_hyp g2); intro g2 w hS)))
    exact st_retC hS rfl rfl rfl rfl (HSM.out _ hS.toExt)
end Go.Proofs.Ytmjmdncdmmcmaaa
