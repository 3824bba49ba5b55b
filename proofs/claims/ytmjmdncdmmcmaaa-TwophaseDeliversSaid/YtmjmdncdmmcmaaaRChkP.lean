/- rollbacknetref16.possible. Conditions: the pattern is good and lies in memory. -/
import Derived.Test.YtmjmdncdmmcmaaaCanA
namespace Go.Proofs.Ytmjmdncdmmcmaaa
open Go.RowKit
set_option linter.unusedVariables false
set_option linter.unusedSimpArgs false
set_option linter.unusedSectionVars false

theorem lackN_go {p : Pat} {x : List Int} {q : Nat} (hv : validB p.len x = true) (hq : q < p.len.length) (h : canB p x q = true) : lackN p.len (goOn x q) < lackN p.len x := by
  obtain ⟨hl, hb⟩ := valid_iff.1 hv
  have := canB_lt h
  exact lackN_set (by rw [hl]; exact hq) hq (by omega) (by omega)
theorem goOn_valid {p : Pat} {x : List Int} {q : Nat} (hv : validB p.len x = true) (hq : q < p.len.length) (h : canB p x q = true) : validB p.len (goOn x q) = true := by
  obtain ⟨hl, hb⟩ := valid_iff.1 hv
  have hlt := canB_lt h
  refine valid_iff.2 ⟨by rw [goOn_length, hl], fun r hr => ?_⟩
  have h1 := hb r hr
  rw [goOn_nth (by rw [hl]; exact hq)]
  split
  · rename_i e; subst e; omega
  · exact h1
def bN (m : Bool) : Nat := if m then 1 else 0
/-- between two rounds -/
def PoO (p : Pat) (x : List Int) (m : Bool) (kk : Nat) : Prop := validB p.len x = true ∧ (m = false → nextQ p x = none) ∧ 2 * lackN p.len x + bN m = kk
/-- in a round that began at x0 -/
def PoM (p : Pat) (x0 : List Int) (q : Nat) (x : List Int) (m : Bool) : Prop := validB p.len x = true ∧ (m = false → x = x0 ∧ ∀ r, r < q → canB p x r = false) ∧ (m = true → lackN p.len x < lackN p.len x0)
theorem PoM.go {p : Pat} {x0 x : List Int} {q : Nat} {m : Bool} (h : PoM p x0 q x m) (hq : q < p.len.length) (hc : canB p x q = true) : PoM p x0 q (goOn x q) true :=
  ⟨goOn_valid h.1 hq hc, fun h => (by cases h), fun _ => by
    have h1 := lackN_go h.1 hq hc
    cases m with
    | true => exact Nat.lt_trans h1 (h.2.2 rfl)
    | false => rw [← (h.2.1 rfl).1]; exact h1⟩
theorem PoM.next {p : Pat} {x0 x : List Int} {q : Nat} {m : Bool} (h : PoM p x0 q x m) (hc : canB p x q = false) : PoM p x0 (q + 1) x m :=
  ⟨h.1, fun hm => ⟨(h.2.1 hm).1, fun r hr => by
    rcases Nat.lt_or_ge r q with h1 | h1
    · exact (h.2.1 hm).2 r h1
    · obtain rfl : r = q := by omega
      exact hc⟩, h.2.2⟩
theorem PoM.fin {p : Pat} {x0 x : List Int} {m : Bool} (h : PoM p x0 p.len.length x m) : PoO p x m (2 * lackN p.len x + bN m) := ⟨h.1, fun hm => nextQ_none.2 (h.2.1 hm).2, rfl⟩
theorem PoM.less {p : Pat} {x0 x : List Int} {m : Bool} {q : Nat} (h : PoM p x0 q x m) : 2 * lackN p.len x + bN m < 2 * lackN p.len x0 + 1 := by
  cases m with
  | true => have := h.2.2 rfl; simp only [bN, if_true]; omega
  | false => rw [(h.2.1 rfl).1]; simp [bN]
set_option maxRecDepth 100000 in
set_option maxHeartbeats 6400000 in
theorem possible_any {S : Nat → Prop} (A1 : Option Addr) (c1 : Nat) (A2 : Option Addr) (c2 : Nat) (A3 : Option Addr) (c3 : Nat) (p : Pat) (w0 : World) (hp : PatAt S w0 ⟨A1, c1, A2, c2, A3, c3⟩ p) (hg : Good p) :
    Calls Try.prog 81 #[.agg #[.slice A1 p.len.length c1, .slice A2 p.ck.length c2, .slice A3 p.arcs.length c3]] w0 fun e w' => e = .returned (.bool true) ∧ Ext w0 w' := by
  have hS := St.start w0 NoM
  have HP := Lib.hid (And.intro hp hg)
  have hn5 := hg.n5
  have hn2 := hg.n2
  have hlen := hp.len
  clear hp hg
  go_enter Try.func81, Try.ntmps81
  go_wp2_with (first | (refine oL ?_; ((refine sL1 hS rfl rfl rfl ?_))) | ((first | (refine oB ?_; (refine sB1 hS rfl rfl ?_)) | refine sM1 hS rfl rfl rfl ?_); clear hS; first | ((fail_if_success guard_hyp g1); intro g1 w hS) | ((fail_if_success guard_hyp g2); intro g2 w hS)))
  obtain ⟨kk0, hkk⟩ : ∃ kk0, 2 * lackN p.len (List.replicate p.len.length 0) + 1 = kk0 := ⟨_, rfl⟩
  go_loopg [4, 5] (kk0) (fun kk s4 s5 wr => ∃ (x : List Int) (m : Bool), s4 = .bool m ∧ Hid (PoO p x m kk) ∧ St w0 NoM [row (.slice (some ⟨g2, 0, none⟩) p.len.length p.len.length) 3 1 p.len.length (ints x), blk g1 [.slice A1 p.len.length c1, .slice A2 p.ck.length c2, .slice A3 p.arcs.length c3] 44] wr)
  case atStart => exact ⟨_, true, rfl, Lib.hid ⟨valid_zero HP.out.2, fun h => (by cases h), by rw [← hkk]; rfl⟩, hS.re⟩
  case round =>
    obtain ⟨x, m, rfl, HO, hS⟩ := hrel
    cases m with
    | false =>
      have HX := Lib.hid (all_come HP.out.2 HO.out.1 (HO.out.2.1 rfl))
      rw [HX.out] at hS
      go_wp2_with (fail)
      go_loopw [6] (fun s6 wr => ∃ q : Nat, q ≤ p.len.length ∧ s6 = .int .i64 q ∧ St w0 NoM [row (.slice (some ⟨g2, 0, none⟩) p.len.length p.len.length) 3 1 p.len.length (ints p.len), blk g1 [.slice A1 p.len.length c1, .slice A2 p.ck.length c2, .slice A3 p.arcs.length c3] 44] wr) (fun s6 _ => p.len.length - (intOf s6).toNat)
      case atStart => exact ⟨0, by omega, rfl, hS⟩
      case round =>
        clear hS
        obtain ⟨q, hq, rfl, hS⟩ := hrel
        by_cases hlt : q < p.len.length
        · have hlt' : (q : Int) < p.len.length := by omega
          obtain ⟨b1, o1, rfl, _, hc⟩ := hlen.atNS hlt
          have hrow : (ints p.len)[q]? = some (.int .i64 (nth p.len q)) := by rw [ints_get hlt, nth_eq hlt]
          generalize nth p.len q = lq at *
          have d0 : decide (lq < lq) = false := decide_eq_false (by omega)
          go_wp2_with (fail)
          refine dr_start0 []  hS (by kernel_rfl) rfl ?_; clear hS; intro w hS
          refine dM hS 0 rfl rfl rfl ?_
          (try simp only [Act.put, nA, nB, nC])
          refine dM hS 1 rfl rfl rfl ?_
          (try simp only [Act.put, nA, nB, nC])
          refine dP hS 2 rfl rfl ?_
          (try simp only [Act.put, nA, nB, nC])
          (refine dL5 hS 3 rfl rfl rfl ?_)
          (try simp only [Act.put, nA, nB, nC])
          refine dP hS 4 rfl rfl ?_
          (try simp only [Act.put, nA, nB, nC])
          (refine dL1 hS 5 rfl rfl rfl rfl ?_)
          (try simp only [Act.put, nA, nB, nC])
          refine dM hS 6 rfl rfl rfl ?_
          (try simp only [Act.put, nA, nB, nC])
          refine dP hS 7 rfl rfl ?_
          (try simp only [Act.put, nA, nB, nC])
          (refine dL4 hS 8 rfl rfl rfl ?_)
          (try simp only [Act.put, nA, nB, nC])
          refine dP hS 9 rfl rfl ?_
          (try simp only [Act.put, nA, nB, nC])
          refine dr_done (by kernel_rfl) ?_
          go_wp2_with (fail)
          go_roundw
          case measure => simp [intOf]; try omega
          exact ⟨q + 1, by omega, by go_num, hS⟩
        · have hlt' : ¬ (q : Int) < p.len.length := by omega
          go_wp2_with (fail)
          go_ret
          exact ⟨rfl, hS.toExt⟩
    | true =>
      go_wp2_with (fail)
      go_loopw [4, 5] (fun s4 s5 wr => ∃ (q : Nat) (x2 : List Int) (m2 : Bool), q ≤ p.len.length ∧ s5 = .int .i64 q ∧ s4 = .bool m2 ∧ Hid (PoM p x q x2 m2) ∧ St w0 NoM [row (.slice (some ⟨g2, 0, none⟩) p.len.length p.len.length) 3 1 p.len.length (ints x2), blk g1 [.slice A1 p.len.length c1, .slice A2 p.ck.length c2, .slice A3 p.arcs.length c3] 44] wr) (fun _ s5 _ => p.len.length - (intOf s5).toNat)
      case atStart => exact ⟨0, x, false, by omega, rfl, rfl, Lib.hid ⟨HO.out.1, fun _ => ⟨rfl, fun r hr => absurd hr (by omega)⟩, fun h => (by cases h)⟩, hS⟩
      case round =>
        clear hS
        obtain ⟨q, x2, m2, hq, rfl, rfl, HM, hS⟩ := hrel
        by_cases hlt : q < p.len.length
        · have hlt' : (q : Int) < p.len.length := by omega
          go_wp2_with (fail)
          obtain ⟨kk1, hkk1⟩ : ∃ kk1, lackN p.len x2 = kk1 := ⟨_, rfl⟩
          go_loopg [4] (kk1) (fun kk s4 wr => ∃ (x3 : List Int) (m3 : Bool), s4 = .bool m3 ∧ Hid (PoM p x q x3 m3 ∧ lackN p.len x3 = kk) ∧ St w0 NoM [row (.slice (some ⟨g2, 0, none⟩) p.len.length p.len.length) 3 1 p.len.length (ints x3), blk g1 [.slice A1 p.len.length c1, .slice A2 p.ck.length c2, .slice A3 p.arcs.length c3] 44] wr)
          case atStart => exact ⟨x2, m2, rfl, Lib.hid ⟨HM.out, hkk1⟩, hS⟩
          case round =>
            clear hS
            obtain ⟨x3, m3, rfl, HN, hS⟩ := hrel
            have hx3l : x3.length = p.len.length := (valid_iff.1 HN.out.1.1).1
            have hqx : q < x3.length := by omega
            have hxq : (ints x3)[q]? = some (.int .i64 (nth x3 q)) := by rw [ints_get hqx, nth_eq hqx]
            cases hcb : canB p x3 q with
            | false =>
              have HF := Lib.hid (HN.out.1.next hcb)
              go_wp2_with (first | (go_at_call 104; refine (can_any ⟨A1, c1, A2, c2, A3, c3⟩ p _ _ x3 q _ (HP.out.1.ext hS.toExt) HP.out.2 hS.ri HN.out.1.1 hlt).mono ?_; rintro e w ⟨rfl, hx1⟩; rw [hcb]; replace hS := hS.ext hx1) | (refine oL ?_; ((refine sL2 hS rfl rfl rfl ?_))))
              go_roundw
              case measure => simp [intOf]; try omega
              exact ⟨q + 1, x3, m3, by omega, by go_num, rfl, HF, hS⟩
            | true =>
              have HF := Lib.hid (And.intro (HN.out.1.go hlt hcb) (lackN_go HN.out.1.1 hlt hcb))
              have hgo : goOn x3 q = x3.set q (nth x3 q + 1) := rfl
              have HGO := Lib.hid hgo
              have hhi := HP.out.2.hi q hlt
              have hlo := (valid_iff.1 HN.out.1.1).2 q hlt
              clear hgo
              generalize nth x3 q = v3 at *
              go_wp2_with (first | (go_at_call 104; refine (can_any ⟨A1, c1, A2, c2, A3, c3⟩ p _ _ x3 q _ (HP.out.1.ext hS.toExt) HP.out.2 hS.ri HN.out.1.1 hlt).mono ?_; rintro e w ⟨rfl, hx1⟩; rw [hcb]; replace hS := hS.ext hx1) | (refine oL ?_; (first | refine sL2 hS rfl rfl rfl ?_ | refine sL5 hS rfl rfl ?_)) | (refine oS ?_; (((refine sS2 hS rfl rfl rfl ?_)); clear hS; intro w hS)))
              go_roundg (lackN p.len (goOn x3 q))
              case measure => have h := HF.out.2; rw [HN.out.2] at h; exact h
              case rel => exact ⟨goOn x3 q, true, rfl, Lib.hid ⟨HF.out.1, rfl⟩, by rw [HGO.out]; exact hS⟩
        · have hlt' : ¬ (q : Int) < p.len.length := by omega
          have HE := Lib.hid (show PoM p x p.len.length x2 m2 by have := HM.out; rwa [show q = p.len.length by omega] at this)
          have HLS := Lib.hid HE.out.less
          clear HM
          go_wp2_with (fail)
          go_roundg (2 * lackN p.len x2 + bN m2)
          case measure => have h := HLS.out; have h2 := HO.out.2.2; simp only [bN, if_true] at h2; simp only [bN] at h ⊢; omega
          case rel => exact ⟨x2, m2, rfl, Lib.hid HE.out.fin, hS⟩
end Go.Proofs.Ytmjmdncdmmcmaaa
