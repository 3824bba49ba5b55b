/- CollectForever returns true for every input. No condition. -/
import Derived.Test.YtombhhhaidmpeaaCollectCovers
import Derived.Test.YtombhhhaidmpeaaLater
namespace Go.Proofs.Ytombhhhaidmpeaa
open Go.RowKit
set_option linter.unusedVariables false
set_option linter.unusedSimpArgs false
set_option linter.unusedSectionVars false

section
variable {S : Nat → Prop} {w : World} {B1 B2 B3 : Option Addr} {d1 d2 d3 q s : Nat} {k z1 z2 z3 : Int} {r : Pat}
theorem append_x (hp : PatAt S w ⟨B1, d1, B2, d2, B3, d3⟩ r) (hg : Good r) (h1 : z1 = q) (h2 : z2 = s) (h3 : z3 = k) (hq : q < r.len.length) (hs : s < r.len.length) (hne : q ≠ s) (hl : nth r.len q < 64) (h0 : 0 ≤ k) (hk : k ≤ nth r.len s) (hf : r.arcs.length < 256) :
    Calls Try.prog 42 #[.agg #[.slice B1 r.len.length d1, .slice B2 r.ck.length d2, .slice B3 r.arcs.length d3], .int .i64 z1, .int .i64 z2, .int .i64 z3] w fun e w' => ∃ X1 x1 X2 x2 X3 x3, e = .returned (.tuple #[.agg #[.slice X1 ((r.more q).send ⟨s, k, q, nth r.len q + 1⟩).len.length x1, .slice X2 ((r.more q).send ⟨s, k, q, nth r.len q + 1⟩).ck.length x2, .slice X3 ((r.more q).send ⟨s, k, q, nth r.len q + 1⟩).arcs.length x3], .bool true]) ∧ PatAt (Orn S w) w' ⟨X1, x1, X2, x2, X3, x3⟩ ((r.more q).send ⟨s, k, q, nth r.len q + 1⟩) ∧ Ext w w' := by
  subst h1 h2 h3
  refine (append_any ⟨B1, d1, B2, d2, B3, d3⟩ r q s _ w hp hg).mono ?_
  rw [app_recv hq hs hne hl h0 hk hf]
  rintro e w' ⟨⟨X1, x1, X2, x2, X3, x3⟩, rfl, h4, h5⟩
  exact ⟨X1, x1, X2, x2, X3, x3, rfl, h4, h5⟩
theorem append_m (hp : PatAt S w ⟨B1, d1, B2, d2, B3, d3⟩ r) (hg : Good r) (h1 : z1 = q) (hq : q < r.len.length) (hl : nth r.len q < 64) :
    Calls Try.prog 42 #[.agg #[.slice B1 r.len.length d1, .slice B2 r.ck.length d2, .slice B3 r.arcs.length d3], .int .i64 z1, .int .i64 (-1), .int .i64 0] w fun e w' => ∃ X1 x1 X2 x2 X3 x3, e = .returned (.tuple #[.agg #[.slice X1 (r.more q).len.length x1, .slice X2 (r.more q).ck.length x2, .slice X3 (r.more q).arcs.length x3], .bool true]) ∧ PatAt (Orn S w) w' ⟨X1, x1, X2, x2, X3, x3⟩ (r.more q) ∧ Ext w w' := by
  subst h1
  refine (append_any ⟨B1, d1, B2, d2, B3, d3⟩ r q (-1) 0 w hp hg).mono ?_
  rw [app_more hq hl]
  rintro e w' ⟨⟨X1, x1, X2, x2, X3, x3⟩, rfl, h4, h5⟩
  exact ⟨X1, x1, X2, x2, X3, x3, rfl, h4, h5⟩
theorem mark_x (hp : PatAt S w ⟨B1, d1, B2, d2, B3, d3⟩ r) (hg : Good r) (h1 : z1 = q) (hq : q < r.len.length) :
    Calls Try.prog 41 #[.agg #[.slice B1 r.len.length d1, .slice B2 r.ck.length d2, .slice B3 r.arcs.length d3], .int .i64 z1] w fun e w' => ∃ X1 x1 X2 x2 X3 x3, e = .returned (.agg #[.slice X1 (r.mark q).len.length x1, .slice X2 (r.mark q).ck.length x2, .slice X3 (r.mark q).arcs.length x3]) ∧ PatAt (Orn S w) w' ⟨X1, x1, X2, x2, X3, x3⟩ (r.mark q) ∧ Ext w w' := by
  subst h1
  refine (mark_any ⟨B1, d1, B2, d2, B3, d3⟩ r q w hp hg).mono ?_
  rw [show markI r (q : Int) = r.mark q by rw [markI, if_pos ⟨by omega, by omega⟩, Int.toNat_natCast]]
  rintro e w' ⟨⟨X1, x1, X2, x2, X3, x3⟩, rfl, h4, h5⟩
  exact ⟨X1, x1, X2, x2, X3, x3, rfl, h4, h5⟩
theorem check_x (hp : PatAt S w ⟨B1, d1, B2, d2, B3, d3⟩ r) (hg : Good r) : Calls Try.prog 36 #[.agg #[.slice B1 r.len.length d1, .slice B2 r.ck.length d2, .slice B3 r.arcs.length d3]] w fun e w' => e = .returned (.int .i64 0) ∧ Ext w w' := check_good ⟨B1, d1, B2, d2, B3, d3⟩ r w hp hg
end
/-- what holds of the two patterns in a round -/
structure LatP (T : Nat → Prop) (u : World) (p r : Pat) (vp vr : PV) (LA : Option Addr) (m : Nat) : Prop where
  hp : PatAt T u vp p
  hl : RR T u LA (needL p)
  hr : PatAt T u vr r
  hs : Small r m
  ht : Later p r
theorem LatP.into {T T' : Nat → Prop} {u u' : World} {p r : Pat} {vp vr : PV} {LA : Option Addr} {m : Nat} (h : LatP T u p r vp vr LA m) (k : Into T T' u u') : LatP T' u' p r vp vr LA m := ⟨h.hp.into k, h.hl.into k, h.hr.into k, h.hs, h.ht⟩
set_option maxRecDepth 100000 in
set_option maxHeartbeats 6400000 in
theorem collectForever_any (C : Option Addr) (f : Nat) (bs : List Int) (C2 : Option Addr) (f2 : Nat) (b2 : List Int) (w0 : World) (hbs : RV (fun b => b < w0.heap.size) w0 C (bytes bs)) (hf : bs.length ≤ f) (hf' : f ≤ 9223372036854775807) (hby : ∀ b ∈ bs, 0 ≤ b ∧ b ≤ 255) (hb2 : RV (fun b => b < w0.heap.size) w0 C2 (bytes b2)) (hf2 : b2.length ≤ f2) (hf2' : f2 ≤ 9223372036854775807) (hy2 : ∀ b ∈ b2, 0 ≤ b ∧ b ≤ 255) :
    Calls Try.prog 9 #[.slice C bs.length f, .slice C2 b2.length f2] w0 fun e w' => e = .returned (.bool true) ∧ Ext w0 w' := by
  have hS := St.start w0 NoM
  have HB2 := Lib.hid (And.intro hy2 (RV.sub (S' := Froz w0 NoM) hb2 (fun k hk => ⟨hk, id⟩)))
  clear hy2 hb2
  have HB := Lib.hid (And.intro hby (RV.sub (S' := Froz w0 NoM) hbs (fun k hk => ⟨hk, id⟩)))
  clear hby hbs
  go_enter Try.func9, Try.ntmps9
  go_wp2_with (first | (go_at_call 10; refine (awake36_any _).mono ?_; rintro e w ⟨rfl, hx1⟩; replace hS := hS.ext hx1) | (refine oL ?_; (first | refine sL1 hS rfl rfl rfl ?_ | refine sL2 hS rfl rfl rfl ?_ | refine sL3 hS rfl rfl ?_ | refine sL4 hS rfl rfl ?_ | refine sL5 hS rfl rfl ?_ | refine sL6 hS rfl rfl ?_ | refine sL7 hS rfl rfl ?_)) | (refine oS ?_; ((first | refine sS1 hS rfl rfl rfl ?_ | refine sS2 hS rfl rfl rfl ?_ | refine sS3 hS rfl rfl rfl ?_ | refine sS4 hS rfl rfl rfl ?_ | refine sS5 hS rfl rfl rfl ?_); clear hS; intro w hS)) | ((first | refine sN1 hS rfl ?_); clear hS; first | ((fail_if_success guard_hyp g1); intro g1 w hS) | ((fail_if_success guard_hyp g2); intro g2 w hS) | ((fail_if_success guard_hyp g3); intro g3 w hS) | ((fail_if_success guard_hyp g4); intro g4 w hS) | ((fail_if_success guard_hyp g5); intro g5 w hS) | fail) | fail)
  refine (new_st (m := 120) hS (by omega) HB.out.2 hf hf' HB.out.1).mono ?_
  rintro e w ⟨gc, κ, rfl, hS⟩
  clear HB
  generalize bs.take 120 = r at *
  go_wp2_with (first | (refine oL ?_; (first | refine sL1 hS rfl rfl rfl ?_ | refine sL2 hS rfl rfl rfl ?_ | refine sL3 hS rfl rfl ?_ | refine sL4 hS rfl rfl ?_ | refine sL5 hS rfl rfl ?_ | refine sL6 hS rfl rfl ?_ | refine sL7 hS rfl rfl ?_)) | (refine oS ?_; ((first | refine sS1 hS rfl rfl rfl ?_ | refine sS2 hS rfl rfl rfl ?_ | refine sS3 hS rfl rfl rfl ?_ | refine sS4 hS rfl rfl rfl ?_ | refine sS5 hS rfl rfl rfl ?_); clear hS; intro w hS)) | ((first | refine sN1 hS rfl ?_); clear hS; first | ((fail_if_success guard_hyp g1); intro g1 w hS) | ((fail_if_success guard_hyp g2); intro g2 w hS) | ((fail_if_success guard_hyp g3); intro g3 w hS) | ((fail_if_success guard_hyp g4); intro g4 w hS) | ((fail_if_success guard_hyp g5); intro g5 w hS) | fail) | fail)
  refine (pattern_st (m := 35) hS rfl (by omega)).mono ?_
  rintro e w ⟨v, p, r1, T, rfl, hsm, hpa, hS⟩
  have HP := Lib.hid (And.intro hsm hpa)
  have e1 := hsm.good.ckl
  have hn5 := hsm.good.n5
  obtain ⟨A1, c1, A2, c2, A3, c3⟩ := v
  simp only [PV.val]
  have HE := Lib.hid e1
  have hn2 := hsm.good.n2
  have hfew := hsm.few
  clear hsm hpa e1
  generalize hu : w = u at *
  have HNL := Lib.hid (And.intro (needL_len p) (needL_rl HP.out.1.good))
  have hn4 := HP.out.1.n4
  have HG := Lib.hid HP.out.1.good
  have en : ((p.len.length : Int) != (p.len.length : Int)) = false := by simp
  go_wp2_with (first | (go_at_call 15; refine (needed_any ⟨A1, c1, A2, c2, A3, c3⟩ p _ (HP.out.2.into hS.frozInto) HP.out.1.good).mono ?_; rintro e w2 ⟨LA, cA, rfl, hcA, hcA', hrr, hx1⟩; obtain ⟨T2, hS2, hi1, hi0⟩ := hS.grow hx1; have HV := Lib.hid (show LatP T2 w2 p p ⟨A1, c1, A2, c2, A3, c3⟩ ⟨A1, c1, A2, c2, A3, c3⟩ LA 35 from ⟨HP.out.2.into hi0, hrr.into hi1, HP.out.2.into hi0, HP.out.1, Later.refl p⟩); clear hi1 hi0 hS hx1 hrr; replace hS := hS2; clear hS2; rw [HNL.out.1]) | (refine oL ?_; (first | refine sL1 hS rfl rfl rfl ?_ | refine sL2 hS rfl rfl rfl ?_ | refine sL3 hS rfl rfl ?_ | refine sL4 hS rfl rfl ?_ | refine sL5 hS rfl rfl ?_ | refine sL6 hS rfl rfl ?_ | refine sL7 hS rfl rfl ?_)) | (refine oS ?_; ((first | refine sS1 hS rfl rfl rfl ?_ | refine sS2 hS rfl rfl rfl ?_ | refine sS3 hS rfl rfl rfl ?_ | refine sS4 hS rfl rfl rfl ?_ | refine sS5 hS rfl rfl rfl ?_); clear hS; intro w hS)) | ((first | refine sN1 hS rfl ?_); clear hS; first | ((fail_if_success guard_hyp g1); intro g1 w hS) | ((fail_if_success guard_hyp g2); intro g2 w hS) | ((fail_if_success guard_hyp g3); intro g3 w hS) | ((fail_if_success guard_hyp g4); intro g4 w hS) | ((fail_if_success guard_hyp g5); intro g5 w hS) | fail) | fail)
  refine (new_st (m := 80) hS (by omega) HB2.out.2 hf2 hf2' HB2.out.1).mono ?_
  rintro e w ⟨gd, κ2, rfl, hS⟩
  clear HB2
  generalize b2.take 80 = rd at *
  go_wp2_with (first | (refine oL ?_; (first | refine sL1 hS rfl rfl rfl ?_ | refine sL2 hS rfl rfl rfl ?_ | refine sL3 hS rfl rfl ?_ | refine sL4 hS rfl rfl ?_ | refine sL5 hS rfl rfl ?_ | refine sL6 hS rfl rfl ?_ | refine sL7 hS rfl rfl ?_)) | (refine oS ?_; ((first | refine sS1 hS rfl rfl rfl ?_ | refine sS2 hS rfl rfl rfl ?_ | refine sS3 hS rfl rfl rfl ?_ | refine sS4 hS rfl rfl rfl ?_ | refine sS5 hS rfl rfl rfl ?_); clear hS; intro w hS)) | ((first | refine sN1 hS rfl ?_); clear hS; first | ((fail_if_success guard_hyp g1); intro g1 w hS) | ((fail_if_success guard_hyp g2); intro g2 w hS) | ((fail_if_success guard_hyp g3); intro g3 w hS) | ((fail_if_success guard_hyp g4); intro g4 w hS) | ((fail_if_success guard_hyp g5); intro g5 w hS) | fail) | fail)
  clear en
  go_loopw [10] (fun s10 wr => ∃ (i : Nat) (B1 : Option Addr) (d1 : Nat) (B2 : Option Addr) (d2 : Nat) (B3 : Option Addr) (d3 : Nat) (r : Pat) (T : Nat → Prop) (u : World) (rr : List Int), i ≤ 25 ∧ s10 = .int .i64 i ∧ Hid (LatP T u p r ⟨A1, c1, A2, c2, A3, c3⟩ ⟨B1, d1, B2, d2, B3, d3⟩ LA (35 + i)) ∧ St w0 NoM [froz T u, cds gd κ2 rr, blk g1 [.slice A1 p.len.length c1, .slice A2 p.ck.length c2, .slice A3 p.arcs.length c3] 28, blk g2 [.slice B1 r.len.length d1, .slice B2 r.ck.length d2, .slice B3 r.arcs.length d3] 28] wr) (fun s10 _ => 25 - (intOf s10).toNat)
  case atStart => exact ⟨0, _, _, _, _, _, _, p, _, _, rd, by omega, rfl, HV, hS.re⟩
  case round =>
    clear hS HV
    obtain ⟨i, B1, d1, B2, d2, B3, d3, r, T, u, rr, hi, rfl, HV, hS⟩ := hrel
    go_upto_region 11 with fail
    go_cut [44] (fun s44 wx => s44 = .bool (decide (i < 25) && !rr.isEmpty) ∧ St w0 NoM [froz T u, cds gd κ2 rr, blk g1 [.slice A1 p.len.length c1, .slice A2 p.ck.length c2, .slice A3 p.arcs.length c3] 28, blk g2 [.slice B1 r.len.length d1, .slice B2 r.ck.length d2, .slice B3 r.arcs.length d3] 28] wx)
    case first =>
      by_cases h25 : i < 25
      · have h25' : (i : Int) < 25 := by omega
        go_wp2_with (first | (go_at_call 40; refine (left_st hS).mono ?_; rintro e w ⟨rfl, hS⟩) | (refine oL ?_; (first | refine sL1 hS rfl rfl rfl ?_ | refine sL2 hS rfl rfl rfl ?_ | refine sL3 hS rfl rfl ?_ | refine sL4 hS rfl rfl ?_ | refine sL5 hS rfl rfl ?_ | refine sL6 hS rfl rfl ?_ | refine sL7 hS rfl rfl ?_)) | (refine oS ?_; ((first | refine sS1 hS rfl rfl rfl ?_ | refine sS2 hS rfl rfl rfl ?_ | refine sS3 hS rfl rfl rfl ?_ | refine sS4 hS rfl rfl rfl ?_ | refine sS5 hS rfl rfl rfl ?_); clear hS; intro w hS)) | ((first | refine sN1 hS rfl ?_); clear hS; first | ((fail_if_success guard_hyp g1); intro g1 w hS) | ((fail_if_success guard_hyp g2); intro g2 w hS) | ((fail_if_success guard_hyp g3); intro g3 w hS) | ((fail_if_success guard_hyp g4); intro g4 w hS) | ((fail_if_success guard_hyp g5); intro g5 w hS) | fail) | fail)
        go_meet
        exact ⟨by simp [h25], hS⟩
      · have h25' : ¬ (i : Int) < 25 := by omega
        go_wp2_with (first | (refine oL ?_; (first | refine sL1 hS rfl rfl rfl ?_ | refine sL2 hS rfl rfl rfl ?_ | refine sL3 hS rfl rfl ?_ | refine sL4 hS rfl rfl ?_ | refine sL5 hS rfl rfl ?_ | refine sL6 hS rfl rfl ?_ | refine sL7 hS rfl rfl ?_)) | (refine oS ?_; ((first | refine sS1 hS rfl rfl rfl ?_ | refine sS2 hS rfl rfl rfl ?_ | refine sS3 hS rfl rfl rfl ?_ | refine sS4 hS rfl rfl rfl ?_ | refine sS5 hS rfl rfl rfl ?_); clear hS; intro w hS)) | ((first | refine sN1 hS rfl ?_); clear hS; first | ((fail_if_success guard_hyp g1); intro g1 w hS) | ((fail_if_success guard_hyp g2); intro g2 w hS) | ((fail_if_success guard_hyp g3); intro g3 w hS) | ((fail_if_success guard_hyp g4); intro g4 w hS) | ((fail_if_success guard_hyp g5); intro g5 w hS) | fail) | fail)
        go_meet
        exact ⟨by simp [h25], hS⟩
    case rest =>
      clear hS
      obtain ⟨rfl, hS⟩ := hcut
      cases hb : (decide (i < 25) && !rr.isEmpty) with
      | true =>
        have hi25 : i < 25 := by
          rw [Bool.and_eq_true] at hb
          exact of_decide_eq_true hb.1
        clear hb
        have hqlt := nxt_lt rr (n := p.len.length) (by omega)
        have hklt := nxt_lt rr.tail (n := 6) (by omega)
        have hjlt := nxt_lt rr.tail.tail (n := p.len.length - 1) (by omega)
        have HRN := Lib.hid HV.out.ht.n
        have hrn1 : r.len.length ≤ p.len.length := by have := HRN.out; omega
        have hrn2 : p.len.length ≤ r.len.length := by have := HRN.out; omega
        go_wp2_with (first | (refine oL ?_; (first | refine sL1 hS rfl rfl rfl ?_ | refine sL2 hS rfl rfl rfl ?_ | refine sL3 hS rfl rfl ?_ | refine sL4 hS rfl rfl ?_ | refine sL5 hS rfl rfl ?_ | refine sL6 hS rfl rfl ?_ | refine sL7 hS rfl rfl ?_)) | (refine oS ?_; ((first | refine sS1 hS rfl rfl rfl ?_ | refine sS2 hS rfl rfl rfl ?_ | refine sS3 hS rfl rfl rfl ?_ | refine sS4 hS rfl rfl rfl ?_ | refine sS5 hS rfl rfl rfl ?_); clear hS; intro w hS)) | ((first | refine sN1 hS rfl ?_); clear hS; first | ((fail_if_success guard_hyp g1); intro g1 w hS) | ((fail_if_success guard_hyp g2); intro g2 w hS) | ((fail_if_success guard_hyp g3); intro g3 w hS) | ((fail_if_success guard_hyp g4); intro g4 w hS) | ((fail_if_success guard_hyp g5); intro g5 w hS) | fail) | fail)
        refine (next_z p.len.length hS rfl (by omega) (by omega)).mono ?_
        rintro e w ⟨rfl, hS1⟩
        replace hS := hS1
        clear hS1
        generalize nxt rr p.len.length = q at *
        go_wp2_with (first | (refine oL ?_; (first | refine sL1 hS rfl rfl rfl ?_ | refine sL2 hS rfl rfl rfl ?_ | refine sL3 hS rfl rfl ?_ | refine sL4 hS rfl rfl ?_ | refine sL5 hS rfl rfl ?_ | refine sL6 hS rfl rfl ?_ | refine sL7 hS rfl rfl ?_)) | (refine oS ?_; ((first | refine sS1 hS rfl rfl rfl ?_ | refine sS2 hS rfl rfl rfl ?_ | refine sS3 hS rfl rfl rfl ?_ | refine sS4 hS rfl rfl rfl ?_ | refine sS5 hS rfl rfl rfl ?_); clear hS; intro w hS)) | ((first | refine sN1 hS rfl ?_); clear hS; first | ((fail_if_success guard_hyp g1); intro g1 w hS) | ((fail_if_success guard_hyp g2); intro g2 w hS) | ((fail_if_success guard_hyp g3); intro g3 w hS) | ((fail_if_success guard_hyp g4); intro g4 w hS) | ((fail_if_success guard_hyp g5); intro g5 w hS) | fail) | fail)
        refine (next_z 6 hS rfl (by omega) (by omega)).mono ?_
        rintro e w ⟨rfl, hS1⟩
        replace hS := hS1
        clear hS1
        generalize nxt rr.tail 6 = kk at *
        have hql := HV.out.hs.ev q (by omega)
        have hql0 := HV.out.hs.good.lo q (by omega)
        have hfew := HV.out.hs.few
        by_cases hk0 : kk = 0
        · subst hk0
          have HLT := Lib.hid (And.intro (HV.out.hs.mark (q := q) (by omega)) (HV.out.ht.mark HV.out.hs.good hqlt))
          go_upto_region 25 with (first | (go_at_call 41; refine (mark_x (HV.out.hr.into hS.frozInto) HV.out.hs.good rfl (by omega)).mono ?_; rintro e w1 ⟨X1, x1, X2, x2, X3, x3, rfl, hp1, hx1⟩; obtain ⟨T1, hS1, hi1, hi0⟩ := hS.grow hx1; clear hS; have hS := hS1; clear hS1; have HX := Lib.hid (show LatP T1 w1 p (r.mark q) ⟨A1, c1, A2, c2, A3, c3⟩ ⟨X1, x1, X2, x2, X3, x3⟩ LA (35 + i + 1) from ⟨HV.out.hp.into hi0, HV.out.hl.into hi0, hp1.into hi1, HLT.out.1, HLT.out.2⟩); clear hi1 hi0 hx1 hp1) | (refine oL ?_; (first | refine sL1 hS rfl rfl rfl ?_ | refine sL2 hS rfl rfl rfl ?_ | refine sL3 hS rfl rfl ?_ | refine sL4 hS rfl rfl ?_ | refine sL5 hS rfl rfl ?_ | refine sL6 hS rfl rfl ?_ | refine sL7 hS rfl rfl ?_)) | (refine oS ?_; ((first | refine sS1 hS rfl rfl rfl ?_ | refine sS2 hS rfl rfl rfl ?_ | refine sS3 hS rfl rfl rfl ?_ | refine sS4 hS rfl rfl rfl ?_ | refine sS5 hS rfl rfl rfl ?_); clear hS; intro w hS)) | ((first | refine sN1 hS rfl ?_); clear hS; first | ((fail_if_success guard_hyp g1); intro g1 w hS) | ((fail_if_success guard_hyp g2); intro g2 w hS) | ((fail_if_success guard_hyp g3); intro g3 w hS) | ((fail_if_success guard_hyp g4); intro g4 w hS) | ((fail_if_success guard_hyp g5); intro g5 w hS) | fail) | fail)
          clear HLT
          generalize r.mark q = r' at *
          have en : ((r'.len.length : Int) != (p.len.length : Int)) = false := by have := HX.out.ht.n; simp [this]
          go_wp2_with (first | (go_at_call 36; refine (check_x (HX.out.hr.into hS.frozInto) HX.out.hs.good).mono ?_; rintro e w ⟨rfl, hx1⟩; replace hS := hS.ext hx1) | (refine oL ?_; (first | refine sL1 hS rfl rfl rfl ?_ | refine sL2 hS rfl rfl rfl ?_ | refine sL3 hS rfl rfl ?_ | refine sL4 hS rfl rfl ?_ | refine sL5 hS rfl rfl ?_ | refine sL6 hS rfl rfl ?_ | refine sL7 hS rfl rfl ?_)) | (refine oS ?_; ((first | refine sS1 hS rfl rfl rfl ?_ | refine sS2 hS rfl rfl rfl ?_ | refine sS3 hS rfl rfl rfl ?_ | refine sS4 hS rfl rfl rfl ?_ | refine sS5 hS rfl rfl rfl ?_); clear hS; intro w hS)) | ((first | refine sN1 hS rfl ?_); clear hS; first | ((fail_if_success guard_hyp g1); intro g1 w hS) | ((fail_if_success guard_hyp g2); intro g2 w hS) | ((fail_if_success guard_hyp g3); intro g3 w hS) | ((fail_if_success guard_hyp g4); intro g4 w hS) | ((fail_if_success guard_hyp g5); intro g5 w hS) | fail) | fail)
          go_roundw
          case measure => simp [intOf]; omega
          exact ⟨i + 1, X1, x1, X2, x2, X3, x3, r', T1, _, rr.tail.tail, by omega, by go_num, by rw [show 35 + (i + 1) = 35 + i + 1 by omega]; exact HX, hS.re⟩
        · by_cases hk1 : kk = 1
          · subst hk1
            have HLT := Lib.hid (And.intro (HV.out.hs.more (q := q) (by omega) (by omega)) (HV.out.ht.more hqlt))
            go_upto_region 25 with (first | (go_at_call 42; refine (append_m (HV.out.hr.into hS.frozInto) HV.out.hs.good rfl (by omega) (by omega)).mono ?_; rintro e w1 ⟨X1, x1, X2, x2, X3, x3, rfl, hp1, hx1⟩; obtain ⟨T1, hS1, hi1, hi0⟩ := hS.grow hx1; clear hS; have hS := hS1; clear hS1; have HX := Lib.hid (show LatP T1 w1 p (r.more q) ⟨A1, c1, A2, c2, A3, c3⟩ ⟨X1, x1, X2, x2, X3, x3⟩ LA (35 + i + 1) from ⟨HV.out.hp.into hi0, HV.out.hl.into hi0, hp1.into hi1, HLT.out.1, HLT.out.2⟩); clear hi1 hi0 hx1 hp1) | (refine oL ?_; (first | refine sL1 hS rfl rfl rfl ?_ | refine sL2 hS rfl rfl rfl ?_ | refine sL3 hS rfl rfl ?_ | refine sL4 hS rfl rfl ?_ | refine sL5 hS rfl rfl ?_ | refine sL6 hS rfl rfl ?_ | refine sL7 hS rfl rfl ?_)) | (refine oS ?_; ((first | refine sS1 hS rfl rfl rfl ?_ | refine sS2 hS rfl rfl rfl ?_ | refine sS3 hS rfl rfl rfl ?_ | refine sS4 hS rfl rfl rfl ?_ | refine sS5 hS rfl rfl rfl ?_); clear hS; intro w hS)) | ((first | refine sN1 hS rfl ?_); clear hS; first | ((fail_if_success guard_hyp g1); intro g1 w hS) | ((fail_if_success guard_hyp g2); intro g2 w hS) | ((fail_if_success guard_hyp g3); intro g3 w hS) | ((fail_if_success guard_hyp g4); intro g4 w hS) | ((fail_if_success guard_hyp g5); intro g5 w hS) | fail) | fail)
            clear HLT
            generalize r.more q = r' at *
            have en : ((r'.len.length : Int) != (p.len.length : Int)) = false := by have := HX.out.ht.n; simp [this]
            go_wp2_with (first | (go_at_call 36; refine (check_x (HX.out.hr.into hS.frozInto) HX.out.hs.good).mono ?_; rintro e w ⟨rfl, hx1⟩; replace hS := hS.ext hx1) | (refine oL ?_; (first | refine sL1 hS rfl rfl rfl ?_ | refine sL2 hS rfl rfl rfl ?_ | refine sL3 hS rfl rfl ?_ | refine sL4 hS rfl rfl ?_ | refine sL5 hS rfl rfl ?_ | refine sL6 hS rfl rfl ?_ | refine sL7 hS rfl rfl ?_)) | (refine oS ?_; ((first | refine sS1 hS rfl rfl rfl ?_ | refine sS2 hS rfl rfl rfl ?_ | refine sS3 hS rfl rfl rfl ?_ | refine sS4 hS rfl rfl rfl ?_ | refine sS5 hS rfl rfl rfl ?_); clear hS; intro w hS)) | ((first | refine sN1 hS rfl ?_); clear hS; first | ((fail_if_success guard_hyp g1); intro g1 w hS) | ((fail_if_success guard_hyp g2); intro g2 w hS) | ((fail_if_success guard_hyp g3); intro g3 w hS) | ((fail_if_success guard_hyp g4); intro g4 w hS) | ((fail_if_success guard_hyp g5); intro g5 w hS) | fail) | fail)
            go_roundw
            case measure => simp [intOf]; omega
            exact ⟨i + 1, X1, x1, X2, x2, X3, x3, r', T1, _, rr.tail.tail, by omega, by go_num, by rw [show 35 + (i + 1) = 35 + i + 1 by omega]; exact HX, hS.re⟩
          · have b0 : ((kk : Int) == 0) = false := by simp; omega
            have b1 : ((kk : Int) == 1) = false := by simp; omega
            have hoth := other_mod (q := q) (k := p.len.length) hqlt hjlt
            generalize hjj : nxt rr.tail.tail (p.len.length - 1) = j at *
            have HJ := Lib.hid hjj
            have hse : ((q : Int) + 1 + (j : Int)) % (p.len.length : Int) = (((q + 1 + j) % p.len.length : Nat) : Int) := by simp [Int.natCast_emod]
            clear hjj
            generalize (q + 1 + j) % p.len.length = s at *
            have hs0 := HV.out.hs.good.lo s (by omega)
            have hs1 := HV.out.hs.ev s (by omega)
            have hnz : ¬ (p.len.length : Int) = 0 := by omega
            go_wp2_with (first | (refine oL ?_; (first | refine sL1 hS rfl rfl rfl ?_ | refine sL2 hS rfl rfl rfl ?_ | refine sL3 hS rfl rfl ?_ | refine sL4 hS rfl rfl ?_ | refine sL5 hS rfl rfl ?_ | refine sL6 hS rfl rfl ?_ | refine sL7 hS rfl rfl ?_)) | (refine oS ?_; ((first | refine sS1 hS rfl rfl rfl ?_ | refine sS2 hS rfl rfl rfl ?_ | refine sS3 hS rfl rfl rfl ?_ | refine sS4 hS rfl rfl rfl ?_ | refine sS5 hS rfl rfl rfl ?_); clear hS; intro w hS)) | ((first | refine sN1 hS rfl ?_); clear hS; first | ((fail_if_success guard_hyp g1); intro g1 w hS) | ((fail_if_success guard_hyp g2); intro g2 w hS) | ((fail_if_success guard_hyp g3); intro g3 w hS) | ((fail_if_success guard_hyp g4); intro g4 w hS) | ((fail_if_success guard_hyp g5); intro g5 w hS) | fail) | fail)
            refine (next_z (p.len.length - 1) hS (by omega) (by omega) (by omega)).mono ?_
            rintro e w ⟨rfl, hS1⟩
            replace hS := hS1
            clear hS1
            rw [HJ.out]
            go_upto_region 16 with (first | (refine oL ?_; (first | refine sL1 hS rfl rfl rfl ?_ | refine sL2 hS rfl rfl rfl ?_ | refine sL3 hS rfl rfl ?_ | refine sL4 hS rfl rfl ?_ | refine sL5 hS rfl rfl ?_ | refine sL6 hS rfl rfl ?_ | refine sL7 hS rfl rfl ?_)) | (refine oS ?_; ((first | refine sS1 hS rfl rfl rfl ?_ | refine sS2 hS rfl rfl rfl ?_ | refine sS3 hS rfl rfl rfl ?_ | refine sS4 hS rfl rfl rfl ?_ | refine sS5 hS rfl rfl rfl ?_); clear hS; intro w hS)) | ((first | refine sN1 hS rfl ?_); clear hS; first | ((fail_if_success guard_hyp g1); intro g1 w hS) | ((fail_if_success guard_hyp g2); intro g2 w hS) | ((fail_if_success guard_hyp g3); intro g3 w hS) | ((fail_if_success guard_hyp g4); intro g4 w hS) | ((fail_if_success guard_hyp g5); intro g5 w hS) | fail) | fail)
            have hsr : s < r.len.length := by omega
            have hsr' : (s : Int) < r.len.length := by omega
            obtain ⟨b1, o1, e1, hfs⟩ := HV.out.hr.len.fc (k := s) hsr
            simp only at e1
            subst e1
            have HQS := Lib.hid (show q ≠ s from fun e => hoth.2 e.symm)
            have HNS := Lib.hid (rfl : nth r.len s = nth r.len s)
            generalize hns : nth r.len s = ns at *
            obtain ⟨n0, rfl⟩ := Int.eq_ofNat_of_zero_le hs0
            replace HNS := Lib.hid hns
            clear hns
            obtain ⟨mm, hmm⟩ : ∃ mm, mm = min 4 (n0 + 1) := ⟨_, rfl⟩
            have hmin : (if (n0 : Int) + 1 < 4 then (n0 : Int) + 1 else 4) = (mm : Int) := by split <;> omega
            have hmm1 : 1 ≤ mm := by omega
            have hmm2 : mm ≤ n0 + 1 := by omega
            have hxlt := nxt_lt rr.tail.tail.tail (n := mm) (by omega)
            generalize hxx : nxt rr.tail.tail.tail mm = xi at *
            have HXI := Lib.hid hxx
            clear hxx hmm
            have hxn : (n0 : Int) - (xi : Int) = ((n0 - xi : Nat) : Int) := by omega
            have HLT := Lib.hid (And.intro (HV.out.hs.recv (s := s) (q := q) (k := ((n0 - xi : Nat) : Int)) (by omega) (by omega) (fun e => HQS.out e.symm) (by omega) (by rw [HNS.out]; omega) (by omega)) (HV.out.ht.recv (s := s) (k := ((n0 - xi : Nat) : Int)) hqlt))
            obtain ⟨r', hr'⟩ : ∃ r', r' = (r.more q).send ⟨s, ((n0 - xi : Nat) : Int), q, nth r.len q + 1⟩ := ⟨_, rfl⟩
            have HR' := Lib.hid hr'
            rw [← hr'] at HLT
            clear hr'
            go_cut [16, 17] (fun s16 s17 wx => ∃ (g3 : Nat) (X1 : Option Addr) (x1 : Nat) (X2 : Option Addr) (x2 : Nat) (X3 : Option Addr) (x3 : Nat) (T1 : Nat → Prop) (u1 : World), s16 = .pointer (some ⟨g3, 0, none⟩) ∧ s17 = .bool true ∧ Hid (LatP T1 u1 p r' ⟨A1, c1, A2, c2, A3, c3⟩ ⟨X1, x1, X2, x2, X3, x3⟩ LA (35 + i + 1)) ∧ St w0 NoM [froz T1 u1, cds gd κ2 rr.tail.tail.tail.tail, blk g1 [.slice A1 p.len.length c1, .slice A2 p.ck.length c2, .slice A3 p.arcs.length c3] 28, blk g2 [.slice (some ⟨b1, o1, none⟩) r.len.length d1, .slice B2 r.ck.length d2, .slice B3 r.arcs.length d3] 28, blk g3 [.slice X1 r'.len.length x1, .slice X2 r'.ck.length x2, .slice X3 r'.arcs.length x3] 28] wx)
            case first =>
              refine dr_start1 [] 1 hS (by kernel_rfl) rfl ?_; clear hS; intro w hS
              first | refine dL1 hS 0 rfl rfl rfl rfl ?_ | refine dL2 hS 0 rfl rfl rfl rfl ?_ | refine dL3 hS 0 rfl rfl rfl ?_ | refine dL4 hS 0 rfl rfl rfl ?_ | refine dL5 hS 0 rfl rfl rfl ?_ | refine dL6 hS 0 rfl rfl rfl ?_ | refine dL7 hS 0 rfl rfl rfl ?_
              (try simp only [Act.put, nA, nB, nC])
              refine dM hS 1 rfl rfl rfl ?_
              (try simp only [Act.put, nA, nB, nC])
              refine dM hS 2 rfl rfl rfl ?_
              (try simp only [Act.put, nA, nB, nC])
              refine dP hS 3 rfl rfl ?_
              (try simp only [Act.put, nA, nB, nC])
              first | refine dL1 hS 4 rfl rfl rfl rfl ?_ | refine dL2 hS 4 rfl rfl rfl rfl ?_ | refine dL3 hS 4 rfl rfl rfl ?_ | refine dL4 hS 4 rfl rfl rfl ?_ | refine dL5 hS 4 rfl rfl rfl ?_ | refine dL6 hS 4 rfl rfl rfl ?_ | refine dL7 hS 4 rfl rfl rfl ?_
              (try simp only [Act.put, nA, nB, nC])
              refine dM hS 5 rfl rfl rfl ?_
              (try simp only [Act.put, nA, nB, nC])
              refine dP hS 6 rfl rfl ?_
              (try simp only [Act.put, nA, nB, nC])
              first | refine dL1 hS 7 rfl rfl rfl rfl ?_ | refine dL2 hS 7 rfl rfl rfl rfl ?_ | refine dL3 hS 7 rfl rfl rfl ?_ | refine dL4 hS 7 rfl rfl rfl ?_ | refine dL5 hS 7 rfl rfl rfl ?_ | refine dL6 hS 7 rfl rfl rfl ?_ | refine dL7 hS 7 rfl rfl rfl ?_
              (try simp only [Act.put, nA, nB, nC])
              refine dM hS 8 rfl rfl rfl ?_
              (try simp only [Act.put, nA, nB, nC])
              refine dP hS 9 rfl rfl ?_
              (try simp only [Act.put, nA, nB, nC])
              first | refine dL1 hS 10 rfl rfl rfl rfl ?_ | refine dL2 hS 10 rfl rfl rfl rfl ?_ | refine dL3 hS 10 rfl rfl rfl ?_ | refine dL4 hS 10 rfl rfl rfl ?_ | refine dL5 hS 10 rfl rfl rfl ?_ | refine dL6 hS 10 rfl rfl rfl ?_ | refine dL7 hS 10 rfl rfl rfl ?_
              (try simp only [Act.put, nA, nB, nC])
              refine dM hS 11 rfl rfl rfl ?_
              (try simp only [Act.put, nA, nB, nC])
              refine dP hS 12 rfl rfl ?_
              (try simp only [Act.put, nA, nB, nC])
              first | refine dL1 hS 13 rfl rfl rfl rfl ?_ | refine dL2 hS 13 rfl rfl rfl rfl ?_ | refine dL3 hS 13 rfl rfl rfl ?_ | refine dL4 hS 13 rfl rfl rfl ?_ | refine dL5 hS 13 rfl rfl rfl ?_ | refine dL6 hS 13 rfl rfl rfl ?_ | refine dL7 hS 13 rfl rfl rfl ?_
              (try simp only [Act.put, nA, nB, nC])
              refine dP hS 14 rfl rfl ?_
              (try simp only [Act.put, nA, nB, nC])
              refine dP hS 15 rfl rfl ?_
              (try simp only [Act.put, nA, nB, nC])
              refine dr_two 16 22 (by kernel_rfl) rfl rfl ?_ ?_
              (refine st_call rfl (by kernel_rfl) rfl ?_; go_at_call 22; refine (next_z mm hS (by first | rfl | omega) (by omega) (by omega)).mono ?_; rintro e w ⟨rfl, hS⟩; rw [HXI.out])
              (try simp only [Act.put, nA, nB, nC])
              refine dr_end hS ?_
              refine dP hS 17 rfl rfl ?_
              (try simp only [Act.put, nA, nB, nC])
              refine dr_two 18 22 (by kernel_rfl) rfl rfl ?_ ?_
              (refine st_call rfl (by kernel_rfl) rfl ?_; go_at_call 42; refine (append_x (q := q) (s := s) (k := ((n0 - xi : Nat) : Int)) (HV.out.hr.into hS.frozInto) HV.out.hs.good (by first | rfl | omega) (by first | rfl | omega) (by first | rfl | omega) (by omega) (by omega) HQS.out (by omega) (by omega) (by rw [HNS.out]; omega) (by omega)).mono ?_; rw [← HR'.out]; rintro e w1 ⟨X1, x1, X2, x2, X3, x3, rfl, hp1, hx1⟩; obtain ⟨N1, hS1, hi1, hi0⟩ := hS.grow2 hx1; clear hS; have hS := hS1; clear hS1; have HXP := Lib.hid (hp1.into hi1))
              (try simp only [Act.put, nA, nB, nC])
              refine dr_end hS ?_
              refine dM hS 19 rfl rfl rfl ?_
              (try simp only [Act.put, nA, nB, nC])
              refine dP hS 20 rfl rfl ?_
              (try simp only [Act.put, nA, nB, nC])
              refine dP hS 21 rfl rfl ?_
              (try simp only [Act.put, nA, nB, nC])
              refine dr_one 22 (by kernel_rfl) rfl ?_
              (refine sN1 hS rfl ?_; clear hS; first | ((fail_if_success guard_hyp g1); intro g1 w hS) | ((fail_if_success guard_hyp g2); intro g2 w hS) | ((fail_if_success guard_hyp g3); intro g3 w hS) | ((fail_if_success guard_hyp g4); intro g4 w hS) | ((fail_if_success guard_hyp g5); intro g5 w hS) | fail)
              (try simp only [Act.put, nA, nB, nC])
              refine dr_end hS ?_
              refine dr_one 23 (by kernel_rfl) rfl ?_
              ((first | refine sS1 hS rfl rfl rfl ?_ | refine sS2 hS rfl rfl rfl ?_ | refine sS3 hS rfl rfl rfl ?_ | refine sS4 hS rfl rfl rfl ?_ | refine sS5 hS rfl rfl rfl ?_); clear hS; intro w hS)
              (try simp only [Act.put, nA, nB, nC])
              refine dr_end hS ?_
              refine dA hS 24 rfl rfl rfl ?_
              (try simp only [Act.put, nA, nB, nC])
              refine dr_done (by kernel_rfl) ?_
              rotate_left
              (refine sN1 hS rfl ?_; clear hS; first | ((fail_if_success guard_hyp g1); intro g1 w hS) | ((fail_if_success guard_hyp g2); intro g2 w hS) | ((fail_if_success guard_hyp g3); intro g3 w hS) | ((fail_if_success guard_hyp g4); intro g4 w hS) | ((fail_if_success guard_hyp g5); intro g5 w hS) | fail)
              (try simp only [Act.put, nA, nB, nC])
              refine dr_end hS ?_
              refine dr_one 18 (by kernel_rfl) rfl ?_
              (refine st_call rfl (by kernel_rfl) rfl ?_; go_at_call 42; refine (append_x (q := q) (s := s) (k := ((n0 - xi : Nat) : Int)) (HV.out.hr.into hS.frozInto) HV.out.hs.good (by first | rfl | omega) (by first | rfl | omega) (by first | rfl | omega) (by omega) (by omega) HQS.out (by omega) (by omega) (by rw [HNS.out]; omega) (by omega)).mono ?_; rw [← HR'.out]; rintro e w1 ⟨X1, x1, X2, x2, X3, x3, rfl, hp1, hx1⟩; obtain ⟨N1, hS1, hi1, hi0⟩ := hS.grow2 hx1; clear hS; have hS := hS1; clear hS1; have HXP := Lib.hid (hp1.into hi1))
              (try simp only [Act.put, nA, nB, nC])
              refine dr_end hS ?_
              refine dM hS 19 rfl rfl rfl ?_
              (try simp only [Act.put, nA, nB, nC])
              refine dP hS 20 rfl rfl ?_
              (try simp only [Act.put, nA, nB, nC])
              refine dP hS 21 rfl rfl ?_
              (try simp only [Act.put, nA, nB, nC])
              refine dr_one 23 (by kernel_rfl) rfl ?_
              ((first | refine sS1 hS rfl rfl rfl ?_ | refine sS2 hS rfl rfl rfl ?_ | refine sS3 hS rfl rfl rfl ?_ | refine sS4 hS rfl rfl rfl ?_ | refine sS5 hS rfl rfl rfl ?_); clear hS; intro w hS)
              (try simp only [Act.put, nA, nB, nC])
              refine dr_end hS ?_
              refine dA hS 24 rfl rfl rfl ?_
              (try simp only [Act.put, nA, nB, nC])
              refine dr_done (by kernel_rfl) ?_
              rotate_left
              (refine sN1 hS rfl ?_; clear hS; first | ((fail_if_success guard_hyp g1); intro g1 w hS) | ((fail_if_success guard_hyp g2); intro g2 w hS) | ((fail_if_success guard_hyp g3); intro g3 w hS) | ((fail_if_success guard_hyp g4); intro g4 w hS) | ((fail_if_success guard_hyp g5); intro g5 w hS) | fail)
              (try simp only [Act.put, nA, nB, nC])
              refine dr_end hS ?_
              refine dr_one 16 (by kernel_rfl) rfl ?_
              (refine st_call rfl (by kernel_rfl) rfl ?_; go_at_call 22; refine (next_z mm hS (by first | rfl | omega) (by omega) (by omega)).mono ?_; rintro e w ⟨rfl, hS⟩; rw [HXI.out])
              (try simp only [Act.put, nA, nB, nC])
              refine dr_end hS ?_
              refine dP hS 17 rfl rfl ?_
              (try simp only [Act.put, nA, nB, nC])
              refine dr_one 18 (by kernel_rfl) rfl ?_
              (refine st_call rfl (by kernel_rfl) rfl ?_; go_at_call 42; refine (append_x (q := q) (s := s) (k := ((n0 - xi : Nat) : Int)) (HV.out.hr.into hS.frozInto) HV.out.hs.good (by first | rfl | omega) (by first | rfl | omega) (by first | rfl | omega) (by omega) (by omega) HQS.out (by omega) (by omega) (by rw [HNS.out]; omega) (by omega)).mono ?_; rw [← HR'.out]; rintro e w1 ⟨X1, x1, X2, x2, X3, x3, rfl, hp1, hx1⟩; obtain ⟨N1, hS1, hi1, hi0⟩ := hS.grow2 hx1; clear hS; have hS := hS1; clear hS1; have HXP := Lib.hid (hp1.into hi1))
              (try simp only [Act.put, nA, nB, nC])
              refine dr_end hS ?_
              refine dM hS 19 rfl rfl rfl ?_
              (try simp only [Act.put, nA, nB, nC])
              refine dP hS 20 rfl rfl ?_
              (try simp only [Act.put, nA, nB, nC])
              refine dP hS 21 rfl rfl ?_
              (try simp only [Act.put, nA, nB, nC])
              refine dr_one 23 (by kernel_rfl) rfl ?_
              ((first | refine sS1 hS rfl rfl rfl ?_ | refine sS2 hS rfl rfl rfl ?_ | refine sS3 hS rfl rfl rfl ?_ | refine sS4 hS rfl rfl rfl ?_ | refine sS5 hS rfl rfl rfl ?_); clear hS; intro w hS)
              (try simp only [Act.put, nA, nB, nC])
              refine dr_end hS ?_
              refine dA hS 24 rfl rfl rfl ?_
              (try simp only [Act.put, nA, nB, nC])
              refine dr_done (by kernel_rfl) ?_
              rotate_left
              all_goals
                go_wp2_with fail
                obtain ⟨T1, hS1, hm0, hm1⟩ := hS.merge N1 w1 hi0
                go_meet
                exact ⟨_, X1, x1, X2, x2, X3, x3, T1, _, rfl, rfl, Lib.hid ⟨HV.out.hp.into hm0, HV.out.hl.into hm0, HXP.out.into hm1, HLT.out.1, HLT.out.2⟩, hS1.re⟩
            case rest =>
              clear hS HV HLT HR' hfs
              obtain ⟨g3, X1, x1, X2, x2, X3, x3, T1, u1, rfl, rfl, HX, hS⟩ := hcut
              have en : ((r'.len.length : Int) != (p.len.length : Int)) = false := by have := HX.out.ht.n; simp [this]
              go_wp2_with (first | (go_at_call 36; refine (check_x (HX.out.hr.into hS.frozInto) HX.out.hs.good).mono ?_; rintro e w ⟨rfl, hx1⟩; replace hS := hS.ext hx1) | (refine oL ?_; (first | refine sL1 hS rfl rfl rfl ?_ | refine sL2 hS rfl rfl rfl ?_ | refine sL3 hS rfl rfl ?_ | refine sL4 hS rfl rfl ?_ | refine sL5 hS rfl rfl ?_ | refine sL6 hS rfl rfl ?_ | refine sL7 hS rfl rfl ?_)) | (refine oS ?_; ((first | refine sS1 hS rfl rfl rfl ?_ | refine sS2 hS rfl rfl rfl ?_ | refine sS3 hS rfl rfl rfl ?_ | refine sS4 hS rfl rfl rfl ?_ | refine sS5 hS rfl rfl rfl ?_); clear hS; intro w hS)) | ((first | refine sN1 hS rfl ?_); clear hS; first | ((fail_if_success guard_hyp g1); intro g1 w hS) | ((fail_if_success guard_hyp g2); intro g2 w hS) | ((fail_if_success guard_hyp g3); intro g3 w hS) | ((fail_if_success guard_hyp g4); intro g4 w hS) | ((fail_if_success guard_hyp g5); intro g5 w hS) | fail) | fail)
              go_roundw
              case measure => simp [intOf]; omega
              exact ⟨i + 1, X1, x1, X2, x2, X3, x3, r', T1, _, rr.tail.tail.tail.tail, by omega, by go_num, by rw [show 35 + (i + 1) = 35 + i + 1 by omega]; exact HX, hS.re⟩
      | false =>
        clear hb
        have HSL := Lib.hid (setsOf_len p.len.length)
        have hN16 : 2 ^ p.len.length ≤ 16 := by
          rcases (show p.len.length = 2 ∨ p.len.length = 3 ∨ p.len.length = 4 by omega) with h | h | h <;> rw [h] <;> decide
        have HSR := Lib.hid (fun i hi => setsOf_row (n := p.len.length) (i := i) hi)
        generalize 2 ^ p.len.length = N at *
        have HRN := Lib.hid HV.out.ht.n
        have hrn1 : r.len.length ≤ p.len.length := by have := HRN.out; omega
        have hrn2 : p.len.length ≤ r.len.length := by have := HRN.out; omega
        have hckn : p.len.length ≤ p.ck.length := by have := HE.out; omega
        go_upto_region 28 with (first | (go_at_call 29; refine (sets_any (S := fun _ => False) p.len.length _ (by omega)).mono ?_; rintro e w3 ⟨LB, cB, rfl, hcB, hcB', hrr, hx1⟩; obtain ⟨T3, hS3, hi1, hi0⟩ := hS.grow hx1; have HW := Lib.hid (And.intro (HV.out.into hi0) (hrr.into (Into.then (fun k hk _ => ⟨.inr (hk.resolve_left id), rfl⟩) hi1))); clear hi1 hi0 hS hx1 hrr HV; replace hS := hS3; clear hS3; rw [HSL.out]) | (refine oL ?_; (first | refine sL1 hS rfl rfl rfl ?_ | refine sL2 hS rfl rfl rfl ?_ | refine sL3 hS rfl rfl ?_ | refine sL4 hS rfl rfl ?_ | refine sL5 hS rfl rfl ?_ | refine sL6 hS rfl rfl ?_ | refine sL7 hS rfl rfl ?_)) | (refine oS ?_; ((first | refine sS1 hS rfl rfl rfl ?_ | refine sS2 hS rfl rfl rfl ?_ | refine sS3 hS rfl rfl rfl ?_ | refine sS4 hS rfl rfl rfl ?_ | refine sS5 hS rfl rfl rfl ?_); clear hS; intro w hS)) | ((first | refine sN1 hS rfl ?_); clear hS; first | ((fail_if_success guard_hyp g1); intro g1 w hS) | ((fail_if_success guard_hyp g2); intro g2 w hS) | ((fail_if_success guard_hyp g3); intro g3 w hS) | ((fail_if_success guard_hyp g4); intro g4 w hS) | ((fail_if_success guard_hyp g5); intro g5 w hS) | fail) | fail)
        go_wp2_with (first | (refine oL ?_; (first | refine sL1 hS rfl rfl rfl ?_ | refine sL2 hS rfl rfl rfl ?_ | refine sL3 hS rfl rfl ?_ | refine sL4 hS rfl rfl ?_ | refine sL5 hS rfl rfl ?_ | refine sL6 hS rfl rfl ?_ | refine sL7 hS rfl rfl ?_)) | (refine oS ?_; ((first | refine sS1 hS rfl rfl rfl ?_ | refine sS2 hS rfl rfl rfl ?_ | refine sS3 hS rfl rfl rfl ?_ | refine sS4 hS rfl rfl rfl ?_ | refine sS5 hS rfl rfl rfl ?_); clear hS; intro w hS)) | ((first | refine sN1 hS rfl ?_); clear hS; first | ((fail_if_success guard_hyp g1); intro g1 w hS) | ((fail_if_success guard_hyp g2); intro g2 w hS) | ((fail_if_success guard_hyp g3); intro g3 w hS) | ((fail_if_success guard_hyp g4); intro g4 w hS) | ((fail_if_success guard_hyp g5); intro g5 w hS) | fail) | fail)
        go_loopw [19] (fun s19 wr => ∃ (j : Nat) (T : Nat → Prop) (u : World), j ≤ N ∧ s19 = .int .i64 j ∧ Hid (LatP T u p r ⟨A1, c1, A2, c2, A3, c3⟩ ⟨B1, d1, B2, d2, B3, d3⟩ LA (35 + i) ∧ RR T u LB ((setsOf p.len.length).map natL)) ∧ St w0 NoM [froz T u, blk g1 [.slice A1 p.len.length c1, .slice A2 p.ck.length c2, .slice A3 p.arcs.length c3] 28, blk g2 [.slice B1 r.len.length d1, .slice B2 r.ck.length d2, .slice B3 r.arcs.length d3] 28] wr) (fun s19 _ => N - (intOf s19).toNat)
        case atStart => exact ⟨0, _, _, by omega, rfl, HW, hS.re⟩
        case round =>
          clear hS HW
          obtain ⟨j, T, u, hj, rfl, HV, hS⟩ := hrel
          by_cases hjl : j < N
          · have hjl' : (j : Int) < N := by omega
            obtain ⟨bS, ofS, BS, cS, rfl, hfS, hBS, hcS, hcS'⟩ := HV.out.2.fc (k := j) (by rw [HSL.out]; exact hjl)
            rw [HSR.out j hjl] at hfS hBS hcS
            rw [List.length_map] at hfS hcS
            have hbl := bitsOf_len p.len.length j
            have HLL := Lib.hid (lineOf_len HV.out.1.hs.good (bitsOf p.len.length j))
            have HIN := Lib.hid (fun q hq h => later_in (q := q) (F := bitsOf p.len.length j) HG.out HV.out.1.hs.good HV.out.1.ht (fun f hf => bitsOf_lt hf) hq h)
            generalize bitsOf p.len.length j = F at *
            go_wp2_with (first | (refine oL ?_; (first | refine sL1 hS rfl rfl rfl ?_ | refine sL2 hS rfl rfl rfl ?_ | refine sL3 hS rfl rfl ?_ | refine sL4 hS rfl rfl ?_ | refine sL5 hS rfl rfl ?_ | refine sL6 hS rfl rfl ?_ | refine sL7 hS rfl rfl ?_)) | (refine oS ?_; ((first | refine sS1 hS rfl rfl rfl ?_ | refine sS2 hS rfl rfl rfl ?_ | refine sS3 hS rfl rfl rfl ?_ | refine sS4 hS rfl rfl rfl ?_ | refine sS5 hS rfl rfl rfl ?_); clear hS; intro w hS)) | ((first | refine sN1 hS rfl ?_); clear hS; first | ((fail_if_success guard_hyp g1); intro g1 w hS) | ((fail_if_success guard_hyp g2); intro g2 w hS) | ((fail_if_success guard_hyp g3); intro g3 w hS) | ((fail_if_success guard_hyp g4); intro g4 w hS) | ((fail_if_success guard_hyp g5); intro g5 w hS) | fail) | fail)
            refine dr_start1 [] 0 hS (by kernel_rfl) rfl ?_; clear hS; intro w hS
            first | refine dL1 hS 0 rfl rfl rfl rfl ?_ | refine dL2 hS 0 rfl rfl rfl rfl ?_ | refine dL3 hS 0 rfl rfl rfl ?_ | refine dL4 hS 0 rfl rfl rfl ?_ | refine dL5 hS 0 rfl rfl rfl ?_ | refine dL6 hS 0 rfl rfl rfl ?_ | refine dL7 hS 0 rfl rfl rfl ?_
            (try simp only [Act.put, nA, nB, nC])
            refine dM hS 1 rfl rfl rfl ?_
            (try simp only [Act.put, nA, nB, nC])
            refine dM hS 2 rfl rfl rfl ?_
            (try simp only [Act.put, nA, nB, nC])
            refine dP hS 3 rfl rfl ?_
            (try simp only [Act.put, nA, nB, nC])
            refine dr_one 4 (by kernel_rfl) rfl ?_
            (first | refine sL1 hS rfl rfl rfl ?_ | refine sL2 hS rfl rfl rfl ?_ | refine sL3 hS rfl rfl ?_ | refine sL4 hS rfl rfl ?_ | refine sL5 hS rfl rfl ?_ | refine sL6 hS rfl rfl ?_ | refine sL7 hS rfl rfl ?_)
            (try simp only [Act.put, nA, nB, nC])
            refine dr_end hS ?_
            refine dr_one 5 (by kernel_rfl) rfl ?_
            (refine st_call rfl (by kernel_rfl) rfl ?_; go_at_call 19; refine (failure_any ⟨B1, d1, B2, d2, B3, d3⟩ _ _ F.length r F _ (HV.out.1.hr.into hS.frozInto) HV.out.1.hs.good (RI.into hBS hS.frozInto) rfl (by omega)).mono ?_; rintro e w2 ⟨LG, cG, rfl, hcG, hcG', hri, hx1⟩; obtain ⟨T2, hS2, hi1, hi0⟩ := hS.grow hx1; replace hri := hri.into hi1; have HV2 := Lib.hid (And.intro (HV.out.1.into hi0) (HV.out.2.into hi0)); clear hi1 hi0 hS hx1; replace hS := hS2; clear hS2)
            (try simp only [Act.put, nA, nB, nC])
            refine dr_end hS ?_
            refine dA hS 6 rfl rfl rfl ?_
            (try simp only [Act.put, nA, nB, nC])
            refine dr_done (by kernel_rfl) ?_
            have en : ((r.len.length : Int) != (p.len.length : Int)) = false := by have := HRN.out; simp [this]
            go_wp2_with (first | (refine oL ?_; (first | refine sL1 hS rfl rfl rfl ?_ | refine sL2 hS rfl rfl rfl ?_ | refine sL3 hS rfl rfl ?_ | refine sL4 hS rfl rfl ?_ | refine sL5 hS rfl rfl ?_ | refine sL6 hS rfl rfl ?_ | refine sL7 hS rfl rfl ?_)) | (refine oS ?_; ((first | refine sS1 hS rfl rfl rfl ?_ | refine sS2 hS rfl rfl rfl ?_ | refine sS3 hS rfl rfl rfl ?_ | refine sS4 hS rfl rfl rfl ?_ | refine sS5 hS rfl rfl rfl ?_); clear hS; intro w hS)) | ((first | refine sN1 hS rfl ?_); clear hS; first | ((fail_if_success guard_hyp g1); intro g1 w hS) | ((fail_if_success guard_hyp g2); intro g2 w hS) | ((fail_if_success guard_hyp g3); intro g3 w hS) | ((fail_if_success guard_hyp g4); intro g4 w hS) | ((fail_if_success guard_hyp g5); intro g5 w hS) | fail) | fail)
            clear en
            go_loopw [21] (fun s21 wr => ∃ (q : Nat), q ≤ p.len.length ∧ s21 = .int .i64 q ∧ St w0 NoM [froz T2 w2, blk g1 [.slice A1 p.len.length c1, .slice A2 p.ck.length c2, .slice A3 p.arcs.length c3] 28, blk g2 [.slice B1 r.len.length d1, .slice B2 r.ck.length d2, .slice B3 r.arcs.length d3] 28] wr) (fun s21 _ => p.len.length - (intOf s21).toNat)
            case atStart => exact ⟨0, by omega, rfl, hS.re⟩
            case round =>
              clear hS
              obtain ⟨q, hq, rfl, hS⟩ := hrel
              by_cases hql : q < p.len.length
              · have hql' : (q : Int) < p.len.length := by omega
                have hqr : q < r.len.length := by omega
                have hqr' : (q : Int) < r.len.length := by omega
                have hqc : q < p.ck.length := by omega
                have hqc' : (q : Int) < p.ck.length := by omega
                obtain ⟨bL, ofL, rfl, hfL⟩ := hri.fc (k := q) (by rw [HLL.out]; exact hqr)
                obtain ⟨bC, ofC, BC, cC, hA2, hfC, hBC, hcC, hcC'⟩ := HV2.out.1.hp.ck.fc (k := q) hqc
                simp only at hA2
                subst hA2
                obtain ⟨bR, ofR, BR, cR, hLA, hfR, hBR, hcR, hcR'⟩ := HV2.out.1.hl.fc (k := q) (by rw [HNL.out.1]; exact hql)
                subst hLA
                have HRW := Lib.hid (needL_row (p := p) hql)
                rw [HRW.out] at hfR hBR hcR
                have hrl : (needRow p q).length ≤ 65 := HNL.out.2 _ (by rw [← HRW.out, rowOf_eq (by rw [HNL.out.1]; exact hql)]; exact List.getElem_mem _)
                have hcl := HG.out.rowLen hql
                have HIQ := Lib.hid (HIN.out q hql)
                generalize nth (lineOf r F) q = y at *
                generalize rowOf p.ck q = lc at *
                by_cases hx : y ∈ lc
                · have d1 : decide (y ∈ lc) = true := decide_eq_true hx
                  have d2 : decide (y ∈ needRow p q) = true := decide_eq_true (HIQ.out hx)
                  clear hx
                  go_upto_region 37 with (first | (refine oL ?_; (first | refine sL1 hS rfl rfl rfl ?_ | refine sL2 hS rfl rfl rfl ?_ | refine sL3 hS rfl rfl ?_ | refine sL4 hS rfl rfl ?_ | refine sL5 hS rfl rfl ?_ | refine sL6 hS rfl rfl ?_ | refine sL7 hS rfl rfl ?_)) | (refine oS ?_; ((first | refine sS1 hS rfl rfl rfl ?_ | refine sS2 hS rfl rfl rfl ?_ | refine sS3 hS rfl rfl rfl ?_ | refine sS4 hS rfl rfl rfl ?_ | refine sS5 hS rfl rfl rfl ?_); clear hS; intro w hS)) | ((first | refine sN1 hS rfl ?_); clear hS; first | ((fail_if_success guard_hyp g1); intro g1 w hS) | ((fail_if_success guard_hyp g2); intro g2 w hS) | ((fail_if_success guard_hyp g3); intro g3 w hS) | ((fail_if_success guard_hyp g4); intro g4 w hS) | ((fail_if_success guard_hyp g5); intro g5 w hS) | fail) | fail)
                  refine dr_start0 []  hS (by kernel_rfl) rfl ?_; clear hS; intro w hS
                  refine dP hS 0 rfl rfl ?_
                  (try simp only [Act.put, nA, nB, nC])
                  first | refine dL1 hS 1 rfl rfl rfl rfl ?_ | refine dL2 hS 1 rfl rfl rfl rfl ?_ | refine dL3 hS 1 rfl rfl rfl ?_ | refine dL4 hS 1 rfl rfl rfl ?_ | refine dL5 hS 1 rfl rfl rfl ?_ | refine dL6 hS 1 rfl rfl rfl ?_ | refine dL7 hS 1 rfl rfl rfl ?_
                  (try simp only [Act.put, nA, nB, nC])
                  refine dM hS 2 rfl rfl rfl ?_
                  (try simp only [Act.put, nA, nB, nC])
                  refine dP hS 3 rfl rfl ?_
                  (try simp only [Act.put, nA, nB, nC])
                  first | refine dL1 hS 4 rfl rfl rfl rfl ?_ | refine dL2 hS 4 rfl rfl rfl rfl ?_ | refine dL3 hS 4 rfl rfl rfl ?_ | refine dL4 hS 4 rfl rfl rfl ?_ | refine dL5 hS 4 rfl rfl rfl ?_ | refine dL6 hS 4 rfl rfl rfl ?_ | refine dL7 hS 4 rfl rfl rfl ?_
                  (try simp only [Act.put, nA, nB, nC])
                  refine dM hS 5 rfl rfl rfl ?_
                  (try simp only [Act.put, nA, nB, nC])
                  refine dM hS 6 rfl rfl rfl ?_
                  (try simp only [Act.put, nA, nB, nC])
                  refine dP hS 7 rfl rfl ?_
                  (try simp only [Act.put, nA, nB, nC])
                  first | refine dL1 hS 8 rfl rfl rfl rfl ?_ | refine dL2 hS 8 rfl rfl rfl rfl ?_ | refine dL3 hS 8 rfl rfl rfl ?_ | refine dL4 hS 8 rfl rfl rfl ?_ | refine dL5 hS 8 rfl rfl rfl ?_ | refine dL6 hS 8 rfl rfl rfl ?_ | refine dL7 hS 8 rfl rfl rfl ?_
                  (try simp only [Act.put, nA, nB, nC])
                  refine dr_one 9 (by kernel_rfl) rfl ?_
                  (refine st_call rfl (by kernel_rfl) rfl ?_; go_at_call 20; refine (lin_any BC cC lc.length lc y _ (hBC.into hS.frozInto) rfl (by omega)).mono ?_; rintro e w ⟨rfl, hx1⟩; replace hS := hS.ext hx1; rw [d1])
                  (try simp only [Act.put, nA, nB, nC])
                  refine dr_end hS ?_
                  refine dM hS 10 rfl rfl rfl ?_
                  (try simp only [Act.put, nA, nB, nC])
                  first | refine dM hS 11 rfl rfl rfl ?_ | refine dQ hS 11 rfl rfl ?_
                  (try simp only [Act.put, nA, nB, nC])
                  first | refine dM hS 12 rfl rfl rfl ?_ | refine dQ hS 12 rfl rfl ?_
                  (try simp only [Act.put, nA, nB, nC])
                  first | refine dP hS 13 rfl rfl ?_ | refine dQ hS 13 rfl rfl ?_
                  (try simp only [Act.put, nA, nB, nC])
                  first | refine dL1 hS 14 rfl rfl rfl rfl ?_ | refine dL2 hS 14 rfl rfl rfl rfl ?_ | refine dL3 hS 14 rfl rfl rfl ?_ | refine dL4 hS 14 rfl rfl rfl ?_ | refine dL5 hS 14 rfl rfl rfl ?_ | refine dL6 hS 14 rfl rfl rfl ?_ | refine dL7 hS 14 rfl rfl rfl ?_ | refine dQ hS 14 rfl rfl ?_
                  (try simp only [Act.put, nA, nB, nC])
                  first | refine dM hS 15 rfl rfl rfl ?_ | refine dQ hS 15 rfl rfl ?_
                  (try simp only [Act.put, nA, nB, nC])
                  first | refine dM hS 16 rfl rfl rfl ?_ | refine dQ hS 16 rfl rfl ?_
                  (try simp only [Act.put, nA, nB, nC])
                  first | refine dP hS 17 rfl rfl ?_ | refine dQ hS 17 rfl rfl ?_
                  (try simp only [Act.put, nA, nB, nC])
                  first | refine dL1 hS 18 rfl rfl rfl rfl ?_ | refine dL2 hS 18 rfl rfl rfl rfl ?_ | refine dL3 hS 18 rfl rfl rfl ?_ | refine dL4 hS 18 rfl rfl rfl ?_ | refine dL5 hS 18 rfl rfl rfl ?_ | refine dL6 hS 18 rfl rfl rfl ?_ | refine dL7 hS 18 rfl rfl rfl ?_ | refine dQ hS 18 rfl rfl ?_
                  (try simp only [Act.put, nA, nB, nC])
                  refine dr_one 19 (by kernel_rfl) rfl ?_
                  (refine st_call rfl (by kernel_rfl) rfl ?_; go_at_call 20; refine (lin_any BR cR (needRow p q).length (needRow p q) y _ (hBR.into hS.frozInto) rfl (by omega)).mono ?_; rintro e w ⟨rfl, hx1⟩; replace hS := hS.ext hx1; rw [d2])
                  (try simp only [Act.put, nA, nB, nC])
                  refine dr_end hS ?_
                  first | refine dP hS 20 rfl rfl ?_ | refine dQ hS 20 rfl rfl ?_
                  (try simp only [Act.put, nA, nB, nC])
                  refine dP hS 21 rfl rfl ?_
                  (try simp only [Act.put, nA, nB, nC])
                  refine dr_done (by kernel_rfl) ?_
                  go_wp2_with (first | (refine oL ?_; (first | refine sL1 hS rfl rfl rfl ?_ | refine sL2 hS rfl rfl rfl ?_ | refine sL3 hS rfl rfl ?_ | refine sL4 hS rfl rfl ?_ | refine sL5 hS rfl rfl ?_ | refine sL6 hS rfl rfl ?_ | refine sL7 hS rfl rfl ?_)) | (refine oS ?_; ((first | refine sS1 hS rfl rfl rfl ?_ | refine sS2 hS rfl rfl rfl ?_ | refine sS3 hS rfl rfl rfl ?_ | refine sS4 hS rfl rfl rfl ?_ | refine sS5 hS rfl rfl rfl ?_); clear hS; intro w hS)) | ((first | refine sN1 hS rfl ?_); clear hS; first | ((fail_if_success guard_hyp g1); intro g1 w hS) | ((fail_if_success guard_hyp g2); intro g2 w hS) | ((fail_if_success guard_hyp g3); intro g3 w hS) | ((fail_if_success guard_hyp g4); intro g4 w hS) | ((fail_if_success guard_hyp g5); intro g5 w hS) | fail) | fail)
                  go_roundw
                  case measure => simp [intOf]; omega
                  exact ⟨q + 1, by omega, by go_num, hS.re⟩
                · have d1 : decide (y ∈ lc) = false := decide_eq_false hx
                  clear hx
                  go_upto_region 37 with (first | (refine oL ?_; (first | refine sL1 hS rfl rfl rfl ?_ | refine sL2 hS rfl rfl rfl ?_ | refine sL3 hS rfl rfl ?_ | refine sL4 hS rfl rfl ?_ | refine sL5 hS rfl rfl ?_ | refine sL6 hS rfl rfl ?_ | refine sL7 hS rfl rfl ?_)) | (refine oS ?_; ((first | refine sS1 hS rfl rfl rfl ?_ | refine sS2 hS rfl rfl rfl ?_ | refine sS3 hS rfl rfl rfl ?_ | refine sS4 hS rfl rfl rfl ?_ | refine sS5 hS rfl rfl rfl ?_); clear hS; intro w hS)) | ((first | refine sN1 hS rfl ?_); clear hS; first | ((fail_if_success guard_hyp g1); intro g1 w hS) | ((fail_if_success guard_hyp g2); intro g2 w hS) | ((fail_if_success guard_hyp g3); intro g3 w hS) | ((fail_if_success guard_hyp g4); intro g4 w hS) | ((fail_if_success guard_hyp g5); intro g5 w hS) | fail) | fail)
                  refine dr_start0 []  hS (by kernel_rfl) rfl ?_; clear hS; intro w hS
                  refine dP hS 0 rfl rfl ?_
                  (try simp only [Act.put, nA, nB, nC])
                  first | refine dL1 hS 1 rfl rfl rfl rfl ?_ | refine dL2 hS 1 rfl rfl rfl rfl ?_ | refine dL3 hS 1 rfl rfl rfl ?_ | refine dL4 hS 1 rfl rfl rfl ?_ | refine dL5 hS 1 rfl rfl rfl ?_ | refine dL6 hS 1 rfl rfl rfl ?_ | refine dL7 hS 1 rfl rfl rfl ?_
                  (try simp only [Act.put, nA, nB, nC])
                  refine dM hS 2 rfl rfl rfl ?_
                  (try simp only [Act.put, nA, nB, nC])
                  refine dP hS 3 rfl rfl ?_
                  (try simp only [Act.put, nA, nB, nC])
                  first | refine dL1 hS 4 rfl rfl rfl rfl ?_ | refine dL2 hS 4 rfl rfl rfl rfl ?_ | refine dL3 hS 4 rfl rfl rfl ?_ | refine dL4 hS 4 rfl rfl rfl ?_ | refine dL5 hS 4 rfl rfl rfl ?_ | refine dL6 hS 4 rfl rfl rfl ?_ | refine dL7 hS 4 rfl rfl rfl ?_
                  (try simp only [Act.put, nA, nB, nC])
                  refine dM hS 5 rfl rfl rfl ?_
                  (try simp only [Act.put, nA, nB, nC])
                  refine dM hS 6 rfl rfl rfl ?_
                  (try simp only [Act.put, nA, nB, nC])
                  refine dP hS 7 rfl rfl ?_
                  (try simp only [Act.put, nA, nB, nC])
                  first | refine dL1 hS 8 rfl rfl rfl rfl ?_ | refine dL2 hS 8 rfl rfl rfl rfl ?_ | refine dL3 hS 8 rfl rfl rfl ?_ | refine dL4 hS 8 rfl rfl rfl ?_ | refine dL5 hS 8 rfl rfl rfl ?_ | refine dL6 hS 8 rfl rfl rfl ?_ | refine dL7 hS 8 rfl rfl rfl ?_
                  (try simp only [Act.put, nA, nB, nC])
                  refine dr_one 9 (by kernel_rfl) rfl ?_
                  (refine st_call rfl (by kernel_rfl) rfl ?_; go_at_call 20; refine (lin_any BC cC lc.length lc y _ (hBC.into hS.frozInto) rfl (by omega)).mono ?_; rintro e w ⟨rfl, hx1⟩; replace hS := hS.ext hx1; rw [d1])
                  (try simp only [Act.put, nA, nB, nC])
                  refine dr_end hS ?_
                  refine dM hS 10 rfl rfl rfl ?_
                  (try simp only [Act.put, nA, nB, nC])
                  first | refine dM hS 11 rfl rfl rfl ?_ | refine dQ hS 11 rfl rfl ?_
                  (try simp only [Act.put, nA, nB, nC])
                  first | refine dM hS 12 rfl rfl rfl ?_ | refine dQ hS 12 rfl rfl ?_
                  (try simp only [Act.put, nA, nB, nC])
                  first | refine dP hS 13 rfl rfl ?_ | refine dQ hS 13 rfl rfl ?_
                  (try simp only [Act.put, nA, nB, nC])
                  first | refine dL1 hS 14 rfl rfl rfl rfl ?_ | refine dL2 hS 14 rfl rfl rfl rfl ?_ | refine dL3 hS 14 rfl rfl rfl ?_ | refine dL4 hS 14 rfl rfl rfl ?_ | refine dL5 hS 14 rfl rfl rfl ?_ | refine dL6 hS 14 rfl rfl rfl ?_ | refine dL7 hS 14 rfl rfl rfl ?_ | refine dQ hS 14 rfl rfl ?_
                  (try simp only [Act.put, nA, nB, nC])
                  first | refine dM hS 15 rfl rfl rfl ?_ | refine dQ hS 15 rfl rfl ?_
                  (try simp only [Act.put, nA, nB, nC])
                  first | refine dM hS 16 rfl rfl rfl ?_ | refine dQ hS 16 rfl rfl ?_
                  (try simp only [Act.put, nA, nB, nC])
                  first | refine dP hS 17 rfl rfl ?_ | refine dQ hS 17 rfl rfl ?_
                  (try simp only [Act.put, nA, nB, nC])
                  first | refine dL1 hS 18 rfl rfl rfl rfl ?_ | refine dL2 hS 18 rfl rfl rfl rfl ?_ | refine dL3 hS 18 rfl rfl rfl ?_ | refine dL4 hS 18 rfl rfl rfl ?_ | refine dL5 hS 18 rfl rfl rfl ?_ | refine dL6 hS 18 rfl rfl rfl ?_ | refine dL7 hS 18 rfl rfl rfl ?_ | refine dQ hS 18 rfl rfl ?_
                  (try simp only [Act.put, nA, nB, nC])
                  refine dr_one 19 (by kernel_rfl) rfl ?_
                  refine wpList_skip rfl ?_
                  (try simp only [Act.put, nA, nB, nC])
                  refine dr_end hS ?_
                  first | refine dP hS 20 rfl rfl ?_ | refine dQ hS 20 rfl rfl ?_
                  (try simp only [Act.put, nA, nB, nC])
                  refine dP hS 21 rfl rfl ?_
                  (try simp only [Act.put, nA, nB, nC])
                  refine dr_done (by kernel_rfl) ?_
                  go_wp2_with (first | (refine oL ?_; (first | refine sL1 hS rfl rfl rfl ?_ | refine sL2 hS rfl rfl rfl ?_ | refine sL3 hS rfl rfl ?_ | refine sL4 hS rfl rfl ?_ | refine sL5 hS rfl rfl ?_ | refine sL6 hS rfl rfl ?_ | refine sL7 hS rfl rfl ?_)) | (refine oS ?_; ((first | refine sS1 hS rfl rfl rfl ?_ | refine sS2 hS rfl rfl rfl ?_ | refine sS3 hS rfl rfl rfl ?_ | refine sS4 hS rfl rfl rfl ?_ | refine sS5 hS rfl rfl rfl ?_); clear hS; intro w hS)) | ((first | refine sN1 hS rfl ?_); clear hS; first | ((fail_if_success guard_hyp g1); intro g1 w hS) | ((fail_if_success guard_hyp g2); intro g2 w hS) | ((fail_if_success guard_hyp g3); intro g3 w hS) | ((fail_if_success guard_hyp g4); intro g4 w hS) | ((fail_if_success guard_hyp g5); intro g5 w hS) | fail) | fail)
                  go_roundw
                  case measure => simp [intOf]; omega
                  exact ⟨q + 1, by omega, by go_num, hS.re⟩
              · have hql' : ¬ (q : Int) < p.len.length := by omega
                go_wp2_with (first | (refine oL ?_; (first | refine sL1 hS rfl rfl rfl ?_ | refine sL2 hS rfl rfl rfl ?_ | refine sL3 hS rfl rfl ?_ | refine sL4 hS rfl rfl ?_ | refine sL5 hS rfl rfl ?_ | refine sL6 hS rfl rfl ?_ | refine sL7 hS rfl rfl ?_)) | (refine oS ?_; ((first | refine sS1 hS rfl rfl rfl ?_ | refine sS2 hS rfl rfl rfl ?_ | refine sS3 hS rfl rfl rfl ?_ | refine sS4 hS rfl rfl rfl ?_ | refine sS5 hS rfl rfl rfl ?_); clear hS; intro w hS)) | ((first | refine sN1 hS rfl ?_); clear hS; first | ((fail_if_success guard_hyp g1); intro g1 w hS) | ((fail_if_success guard_hyp g2); intro g2 w hS) | ((fail_if_success guard_hyp g3); intro g3 w hS) | ((fail_if_success guard_hyp g4); intro g4 w hS) | ((fail_if_success guard_hyp g5); intro g5 w hS) | fail) | fail)
                go_roundw
                case measure => simp [intOf]; omega
                exact ⟨j + 1, T2, w2, by omega, by go_num, HV2, hS⟩
          · have hjl' : ¬ (j : Int) < N := by omega
            go_wp2_with (first | (refine oL ?_; (first | refine sL1 hS rfl rfl rfl ?_ | refine sL2 hS rfl rfl rfl ?_ | refine sL3 hS rfl rfl ?_ | refine sL4 hS rfl rfl ?_ | refine sL5 hS rfl rfl ?_ | refine sL6 hS rfl rfl ?_ | refine sL7 hS rfl rfl ?_)) | (refine oS ?_; ((first | refine sS1 hS rfl rfl rfl ?_ | refine sS2 hS rfl rfl rfl ?_ | refine sS3 hS rfl rfl rfl ?_ | refine sS4 hS rfl rfl rfl ?_ | refine sS5 hS rfl rfl rfl ?_); clear hS; intro w hS)) | ((first | refine sN1 hS rfl ?_); clear hS; first | ((fail_if_success guard_hyp g1); intro g1 w hS) | ((fail_if_success guard_hyp g2); intro g2 w hS) | ((fail_if_success guard_hyp g3); intro g3 w hS) | ((fail_if_success guard_hyp g4); intro g4 w hS) | ((fail_if_success guard_hyp g5); intro g5 w hS) | fail) | fail)
            go_ret
            exact ⟨rfl, hS.toExt⟩
open Go.ChangeShapes Go.WideShapes Go.ChangeAt
set_option maxRecDepth 100000 in
theorem lifted_CollectForever (os : Os) (started : os.Started) (H : Type) (enc : TypeId × Value → H) :
    ReturnsInHanded {} Try.checked os 9 .any (Rows.collectForeverSpec.pre6 enc Try.prog Try.f9 Rows.collectForeverRow.domain false) (Rows.collectForeverSpec.post enc Try.prog Try.f9 false true false false) := by
  refine law_lifted (C := Try.checked) (s := Rows.collectForeverSpec) (tb := 4) (by kernel_rfl) started (by kernel_rfl) Try.func9
      (ChangeSpec.witness6 (enc := enc) (C := Try.checked) false ⟨#[], #[.slice none 0 0, .slice none 0 0], []⟩ 8 (by kernel_rfl) (by kernel_rfl) (by kernel_rfl) (by kernel_rfl))
      (by kernel_rfl) rfl rfl Try.underlying4 (read_of (by kernel_rfl)) ?_ ?_
  · intro ds hl
    match ds, hl with
    | [d0, d1], _ => exact ⟨rfl, rfl, rfl⟩
  · intro W base args ds p hval0 hA0
    have hval : ∀ (j : Nat) t v, Try.f9.params[j]? = some t → args[j]? = some v → Value.okWide Try.prog W .any base t v := hval0
    have hA : DataW.TrodAll enc Try.prog W 0 (fun _ => true) true Try.f9.params.toList args.toList ds p := hA0
    clear hA0 hval0
    rw [Try.params9] at hA hval
    obtain ⟨v0, v1, d0, d1, p0, p1, rfl, rfl, rfl, h0, h1⟩ := trodAll_two hA
    obtain ⟨A0, c0, xs0, rfl, hri0, hc0, hd0, hwf0⟩ := open_nums Try.underlying22 Try.underlying5 (by kernel_rfl) (hval 0 _ v0 rfl rfl) h0
    obtain ⟨A1, c1, xs1, rfl, hri1, hc1, hd1, hwf1⟩ := open_nums Try.underlying22 Try.underlying5 (by kernel_rfl) (hval 1 _ v1 rfl rfl) h1
    exact collectForever_any A0 c0 xs0 A1 c1 xs1 W hri0 hc0 hd0 (fun b hb => u8_bd (hwf0 b hb)) hri1 hc1 hd1 (fun b hb => u8_bd (hwf1 b hb))
/-- CollectForever returns true for every input, and leaves its arguments as they were. -/
theorem proved_CollectForever : Rows.CollectForeverSaid :=
  OpenClaim.holds_of_wide 9 Try.f9 rfl rfl rfl rfl rfl rfl rfl ⟨rfl, rfl, rfl, rfl, rfl⟩ rfl rfl rfl rfl rfl (by kernel_rfl) Try.func9 (by kernel_rfl)
    (of_decide_eq_true (by kernel_rfl)) (by unfold Func.isWrapper; rw [if_neg (by decide +kernel)]; exact ⟨rfl, rfl⟩)
    (fun os started H enc _ => lifted_CollectForever os started H enc)
end Go.Proofs.Ytombhhhaidmpeaa
