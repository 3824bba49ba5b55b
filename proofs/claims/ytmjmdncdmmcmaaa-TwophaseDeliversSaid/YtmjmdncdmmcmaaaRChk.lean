/- rollbacknetref16.Check: OK for a good pattern. Conditions: the pattern lies in memory. -/
import Derived.Test.YtmjmdncdmmcmaaaRChkD
namespace Go.Proofs.Ytmjmdncdmmcmaaa
open Go.RowKit
set_option linter.unusedVariables false
set_option linter.unusedSimpArgs false
set_option linter.unusedSectionVars false

theorem row_asc {a : Int} {l : List Int} {m : Int} : (a :: l).Pairwise (· < ·) → (∀ x ∈ a :: l, x ≤ m) → ((a :: l).length : Int) ≤ m - a + 1 := by
  induction l generalizing a with
  | nil => intro _ h; have := h a (by simp); simp; omega
  | cons b l ih =>
    intro h1 h2
    have h3 := (List.pairwise_cons.1 h1).1 b (by simp)
    have h4 := ih (List.pairwise_cons.1 h1).2 (fun x hx => h2 x (by simp [hx]))
    simp only [List.length_cons] at h4 ⊢
    omega
theorem row_short {l : List Int} {m : Int} (h : RowOk l m) (hm : m ≤ 64) : l.length ≤ 65 := by
  obtain ⟨r, rfl⟩ := h.head
  have := row_asc h.asc h.le
  omega
set_option maxRecDepth 100000 in
set_option maxHeartbeats 6400000 in
theorem rcheck_any {S : Nat → Prop} (A1 : Option Addr) (c1 : Nat) (A2 : Option Addr) (c2 : Nat) (A3 : Option Addr) (c3 : Nat) (p : Pat) (w0 : World) (hp : PatAt S w0 ⟨A1, c1, A2, c2, A3, c3⟩ p) (hg : Good p) :
    Calls Try.prog 41 #[.agg #[.slice A1 p.len.length c1, .slice A2 p.ck.length c2, .slice A3 p.arcs.length c3]] w0 fun e w' => e = .returned (.int .i64 0) ∧ Ext w0 w' := by
  have hS := St.start w0 NoM
  have hn5 := hg.n5
  have hfew := hg.few
  have hckl := hg.ckl
  have HP := Lib.hid (And.intro hp hg)
  have hlen := Lib.hid hp.len
  have hcks := Lib.hid hp.ck
  have d1 : decide ((5 : Int) < (p.len.length : Int)) = false := decide_eq_false (by omega)
  have d1n : decide (5 < p.len.length) = false := decide_eq_false (by omega)
  have d2 : decide ((256 : Int) < (p.arcs.length : Int)) = false := decide_eq_false (by omega)
  have d2n : decide (256 < p.arcs.length) = false := decide_eq_false (by omega)
  have e1 : ((p.ck.length : Int) != (p.len.length : Int)) = false := by rw [hckl]; simp
  have HCK := Lib.hid hckl
  clear hp hg hckl
  go_enter Try.func41, Try.ntmps41
  go_wp2_with (first | (refine oL ?_; ((refine sL1 hS rfl rfl rfl ?_))) | ((((refine oB ?_; (refine sB1 hS rfl rfl ?_)))); clear hS; (((fail_if_success guard_hyp g1); intro g1 w hS))))
  clear d1 d1n d2 d2n e1
  go_loopw [3] (fun s3 wr => ∃ q : Nat, q ≤ p.len.length ∧ s3 = .int .i64 q ∧ St w0 NoM [blk g1 [.slice A1 p.len.length c1, .slice A2 p.ck.length c2, .slice A3 p.arcs.length c3] 44] wr) (fun s3 _ => p.len.length - (intOf s3).toNat)
  case atStart => exact ⟨0, by omega, rfl, hS⟩
  case round =>
    clear hS
    obtain ⟨q, hq, rfl, hS⟩ := hrel
    by_cases hlt : q < p.len.length
    · have hlt' : (q : Int) < p.len.length := by omega
      obtain ⟨b1, o1, rfl, _, hc1⟩ := hlen.out.atNS hlt
      have h0 := HP.out.2.lo q hlt
      have h1 := HP.out.2.hi q hlt
      generalize nth p.len q = x at *
      have d1 : decide (x < 0) = false := decide_eq_false (by omega)
      have d2 : decide (64 < x) = false := decide_eq_false (by omega)
      go_wp2_with (((refine oL ?_; (first | refine sL1 hS rfl rfl rfl ?_ | refine sL4 hS rfl rfl ?_))))
      go_roundw
      case measure => simp [intOf]; try omega
      exact ⟨q + 1, by omega, by go_num, hS⟩
    · have hlt' : ¬ (q : Int) < p.len.length := by omega
      go_wp2_with (((refine oL ?_; ((refine sL1 hS rfl rfl rfl ?_)))))
      go_loopw [4] (fun s4 wr => ∃ q : Nat, q ≤ p.len.length ∧ s4 = .int .i64 q ∧ St w0 NoM [blk g1 [.slice A1 p.len.length c1, .slice A2 p.ck.length c2, .slice A3 p.arcs.length c3] 44] wr) (fun s4 _ => p.len.length - (intOf s4).toNat)
      case atStart => exact ⟨0, by omega, rfl, hS⟩
      case round =>
        clear hS hlt hlt' hq
        obtain ⟨q, hq, rfl, hS⟩ := hrel
        by_cases hlt : q < p.len.length
        · have hlt' : (q : Int) < p.len.length := by omega
          have hltc : (q : Int) < p.ck.length := by have := HCK.out; omega
          have hltk : q < p.ck.length := by have := HCK.out; omega
          obtain ⟨b1, o1, rfl, _, hc1⟩ := hlen.out.atNS hlt
          have hrow := HP.out.2.row q hlt
          obtain ⟨b2, o2, L, cl, rfl, hc2, hL1, hL2, hri⟩ := hcks.out.at_ hltk
          have hl64 : (rowOf p.ck q).length ≤ 1000 := by have := row_short (hrow) (HP.out.2.hi q hlt); omega
          generalize rowOf p.ck q = rw1 at *
          generalize nth p.len q = x at *
          go_wp2_with (((refine oL ?_; ((refine sL1 hS rfl rfl rfl ?_)))))
          refine dr_start0 []  hS (by kernel_rfl) rfl ?_; clear hS; intro w hS
          refine dP hS 0 rfl rfl ?_
          (try simp only [Act.put, nA, nB, nC])
          (refine dL1 hS 1 rfl rfl rfl rfl ?_)
          (try simp only [Act.put, nA, nB, nC])
          refine dM hS 2 rfl rfl rfl ?_
          (try simp only [Act.put, nA, nB, nC])
          refine dP hS 3 rfl rfl ?_
          (try simp only [Act.put, nA, nB, nC])
          (refine dL4 hS 4 rfl rfl rfl ?_)
          (try simp only [Act.put, nA, nB, nC])
          refine dP hS 5 rfl rfl ?_
          (try simp only [Act.put, nA, nB, nC])
          (refine dL1 hS 6 rfl rfl rfl rfl ?_)
          (try simp only [Act.put, nA, nB, nC])
          refine dM hS 7 rfl rfl rfl ?_
          (try simp only [Act.put, nA, nB, nC])
          refine dP hS 8 rfl rfl ?_
          (try simp only [Act.put, nA, nB, nC])
          (refine dL4 hS 9 rfl rfl rfl ?_)
          (try simp only [Act.put, nA, nB, nC])
          refine dr_one 10 (by kernel_rfl) rfl ?_
          (refine st_call rfl (by kernel_rfl) rfl ?_; go_at_call 79; refine (rckpts_any L cl rw1 x _ (hri.ext hS.toExt) hrow hl64).mono ?_; rintro e w ⟨rfl, hx1⟩; replace hS := hS.ext hx1; clear hx1)
          (try simp only [Act.put, nA, nB, nC])
          refine dr_end hS ?_
          refine dP hS 11 rfl rfl ?_
          (try simp only [Act.put, nA, nB, nC])
          refine dr_done (by kernel_rfl) ?_
          go_wp2_with (fail)
          go_roundw
          case measure => simp [intOf]; try omega
          exact ⟨q + 1, by omega, by go_num, hS⟩
        · have hlt' : ¬ (q : Int) < p.len.length := by omega
          go_wp2_with (((refine oL ?_; ((refine sL1 hS rfl rfl rfl ?_)))))
          go_loopw [5, 6] (fun s5 s6 wr => ∃ i : Nat, i ≤ p.arcs.length ∧ s5 = .int .i64 i ∧ St w0 NoM [blk g1 [.slice A1 p.len.length c1, .slice A2 p.ck.length c2, .slice A3 p.arcs.length c3] 44] wr) (fun s5 _ _ => p.arcs.length - (intOf s5).toNat)
          case atStart => exact ⟨0, by omega, rfl, hS⟩
          case round =>
            clear hS hlt hlt' hq
            obtain ⟨i, hi, rfl, hS⟩ := hrel
            by_cases hlt : i < p.arcs.length
            · have hlt' : (i : Int) < p.arcs.length := by omega
              go_wp2_with (first | (go_at_call 80; refine (rarc_any A1 c1 A2 c2 A3 c3 p i _ (HP.out.1.ext hS.toExt) HP.out.2 hlt).mono ?_; rintro e w ⟨rfl, hx1⟩; replace hS := hS.ext hx1; clear hx1) | (refine oL ?_; (first | refine sL1 hS rfl rfl rfl ?_ | refine sL2 hS rfl rfl rfl ?_)))
              go_roundw
              case measure => simp [intOf]; try omega
              exact ⟨i + 1, by omega, by go_num, hS⟩
            · have hlt' : ¬ (i : Int) < p.arcs.length := by omega
              go_wp2_with (first | (go_at_call 81; refine (possible_any A1 c1 A2 c2 A3 c3 p _ (HP.out.1.ext hS.toExt) HP.out.2).mono ?_; rintro e w ⟨rfl, hx1⟩; replace hS := hS.ext hx1; clear hx1) | (refine oL ?_; (first | refine sL1 hS rfl rfl rfl ?_ | refine sL2 hS rfl rfl rfl ?_)))
              go_ret
              exact ⟨rfl, hS.toExt⟩
end Go.Proofs.Ytmjmdncdmmcmaaa
