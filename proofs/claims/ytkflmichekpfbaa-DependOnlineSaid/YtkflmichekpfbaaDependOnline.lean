/- DependOnline returns true for every input. No condition. -/
import Derived.Test.YtkflmichekpfbaaDepOnl
import Derived.Test.YtkflmichekpfbaaGg
namespace Go.Proofs.Ytkflmichekpfbaa
open Go.RowKit
set_option linter.unusedVariables false
set_option linter.unusedSimpArgs false

section
variable {S : Nat → Prop} {A1 A2 A3 : Option Addr} {c1 c2 c3 n1 n2 n3 : Nat} {p : Pat} {q fr se : Int} {w : World}
theorem rappend_nn (e1 : p.len.length = n1) (e2 : p.ck.length = n2) (e3 : p.arcs.length = n3) (hp : PatAt S w ⟨A1, c1, A2, c2, A3, c3⟩ p) (hg : Good p) :
    Calls Try.prog 32 #[.agg #[.slice A1 n1 c1, .slice A2 n2 c2, .slice A3 n3 c3], .int .i64 q, .int .i64 fr, .int .i64 se] w (RetPB S w (appRes p q fr se).1 (appRes p q fr se).2) := by
  subst e1 e2 e3; exact rappend_any ⟨A1, c1, A2, c2, A3, c3⟩ p q fr se w hp hg
theorem rmark_nn (e1 : p.len.length = n1) (e2 : p.ck.length = n2) (e3 : p.arcs.length = n3) (hp : PatAt S w ⟨A1, c1, A2, c2, A3, c3⟩ p) (hg : Good p) :
    Calls Try.prog 33 #[.agg #[.slice A1 n1 c1, .slice A2 n2 c2, .slice A3 n3 c3], .int .i64 q] w (RetP S w (markI p q)) := by
  subst e1 e2 e3; exact rmark_any ⟨A1, c1, A2, c2, A3, c3⟩ p q w hp hg
end
set_option maxRecDepth 100000 in
set_option maxHeartbeats 6400000 in
theorem dependOnline_any (C : Option Addr) (f : Nat) (bs : List Int) (a1 : Nat) (a2 : Nat) (a3 : Nat) (w0 : World) (hbs : RV (fun b => b < w0.heap.size) w0 C (bytes bs)) (hf : bs.length ≤ f) (hf' : f ≤ 9223372036854775807) (hby : ∀ b ∈ bs, 0 ≤ b ∧ b ≤ 255) (ha1 : a1 ≤ 255) (ha2 : a2 ≤ 255) (ha3 : a3 ≤ 255) :
    Calls Try.prog 7 #[.slice C bs.length f, .int .u8 (a1 : Int), .int .u8 (a2 : Int), .int .u8 (a3 : Int)] w0 fun e w' => e = .returned (.bool true) ∧ Ext w0 w' := by
  have hS := St.start w0 NoM
  have HB := Lib.hid (And.intro hby (RV.sub (S' := Froz w0 NoM) hbs (fun k hk => ⟨hk, id⟩)))
  clear hby hbs
  go_enter Try.func7, Try.ntmps7
  go_wp2_with (first | (go_at_call 31; refine (awake19_any _).mono ?_; rintro e w ⟨rfl, hx1⟩; replace hS := hS.ext hx1) | (refine oL ?_; (first | refine sL1 hS rfl rfl rfl ?_ | refine sL2 hS rfl rfl rfl ?_ | refine sL3 hS rfl rfl ?_ | refine sL4 hS rfl rfl ?_ | refine sL5 hS rfl rfl ?_ | refine sL6 hS rfl rfl ?_ | refine sL7 hS rfl rfl ?_)) | (refine oS ?_; ((first | refine sS1 hS rfl rfl rfl ?_ | refine sS2 hS rfl rfl rfl ?_ | refine sS3 hS rfl rfl rfl ?_ | refine sS4 hS rfl rfl rfl ?_ | refine sS5 hS rfl rfl rfl ?_); clear hS; intro w hS)) | ((first | refine sN1 hS rfl ?_); clear hS; first | ((fail_if_success guard_hyp g1); intro g1 w hS) | ((fail_if_success guard_hyp g2); intro g2 w hS) | ((fail_if_success guard_hyp g3); intro g3 w hS) | fail) | fail)
  refine (new_st (m := 240) hS (by omega) HB.out.2 hf hf' HB.out.1).mono ?_
  rintro e w ⟨gc, κ, rfl, hS⟩
  clear HB
  generalize bs.take 240 = r at *
  go_wp2_with (first | (refine oL ?_; (first | refine sL1 hS rfl rfl rfl ?_ | refine sL2 hS rfl rfl rfl ?_ | refine sL3 hS rfl rfl ?_ | refine sL4 hS rfl rfl ?_ | refine sL5 hS rfl rfl ?_ | refine sL6 hS rfl rfl ?_ | refine sL7 hS rfl rfl ?_)) | (refine oS ?_; ((first | refine sS1 hS rfl rfl rfl ?_ | refine sS2 hS rfl rfl rfl ?_ | refine sS3 hS rfl rfl rfl ?_ | refine sS4 hS rfl rfl rfl ?_ | refine sS5 hS rfl rfl rfl ?_); clear hS; intro w hS)) | ((first | refine sN1 hS rfl ?_); clear hS; first | ((fail_if_success guard_hyp g1); intro g1 w hS) | ((fail_if_success guard_hyp g2); intro g2 w hS) | ((fail_if_success guard_hyp g3); intro g3 w hS) | fail) | fail)
  refine (pattern_st (m := 14) hS rfl (by omega)).mono ?_
  rintro e w ⟨v, p, r1, T, rfl, hsm, hpa, hS⟩
  have HP := Lib.hid (And.intro hsm hpa)
  have e1 := hsm.good.ckl
  have hn5 := hsm.good.n5
  obtain ⟨A1, c1, A2, c2, A3, c3⟩ := v
  simp only [PV.val]
  have HE := Lib.hid e1
  have hn2 := hsm.good.n2
  have hfew := hsm.few
  clear hsm hpa e1
  generalize hu : w = u at *
  have HPp := Lib.hid HP.out.2
  have HG := Lib.hid HP.out.1
  clear HP
  have hne : ¬ p.len = [] := by intro h; rw [h] at hn2; simp at hn2
  go_wp2_with (first | (refine oL ?_; (first | refine sL1 hS rfl rfl rfl ?_ | refine sL2 hS rfl rfl rfl ?_ | refine sL3 hS rfl rfl ?_ | refine sL4 hS rfl rfl ?_ | refine sL5 hS rfl rfl ?_ | refine sL6 hS rfl rfl ?_ | refine sL7 hS rfl rfl ?_)) | (refine oS ?_; ((first | refine sS1 hS rfl rfl rfl ?_ | refine sS2 hS rfl rfl rfl ?_ | refine sS3 hS rfl rfl rfl ?_ | refine sS4 hS rfl rfl rfl ?_ | refine sS5 hS rfl rfl rfl ?_); clear hS; intro w hS)) | ((first | refine sN1 hS rfl ?_); clear hS; first | ((fail_if_success guard_hyp g1); intro g1 w hS) | ((fail_if_success guard_hyp g2); intro g2 w hS) | ((fail_if_success guard_hyp g3); intro g3 w hS) | fail) | fail)
  refine dr_start0 []  hS (by kernel_rfl) rfl ?_; clear hS; intro w hS
  refine dM hS 0 rfl rfl rfl ?_
  (try simp only [Act.put, nA, nB, nC])
  refine dP hS 1 rfl rfl ?_
  (try simp only [Act.put, nA, nB, nC])
  refine dM hS 2 rfl rfl rfl ?_
  (try simp only [Act.put, nA, nB, nC])
  refine dP hS 3 rfl rfl ?_
  (try simp only [Act.put, nA, nB, nC])
  refine dM hS 4 rfl rfl rfl ?_
  (try simp only [Act.put, nA, nB, nC])
  refine dP hS 5 rfl rfl ?_
  (try simp only [Act.put, nA, nB, nC])
  refine dM hS 6 rfl rfl rfl ?_
  (try simp only [Act.put, nA, nB, nC])
  refine dP hS 7 rfl rfl ?_
  (try simp only [Act.put, nA, nB, nC])
  refine dA hS 8 rfl rfl rfl ?_
  (try simp only [Act.put, nA, nB, nC])
  refine dA hS 9 rfl rfl rfl ?_
  (try simp only [Act.put, nA, nB, nC])
  refine dr_done (by kernel_rfl) ?_
  obtain ⟨q, hqz⟩ : ∃ q : Nat, ((a1 : Int) % (p.len.length : Int)) = q := ⟨a1 % p.len.length, by omega⟩
  obtain ⟨s, hsz⟩ : ∃ s : Nat, ((a2 : Int) % (p.len.length : Int)) = s := ⟨a2 % p.len.length, by omega⟩
  have hql : q < p.len.length := by
    have := Int.emod_lt_of_pos (a1 : Int) (show (0 : Int) < p.len.length by omega)
    omega
  have hsl : s < p.len.length := by
    have := Int.emod_lt_of_pos (a2 : Int) (show (0 : Int) < p.len.length by omega)
    omega
  rw [hqz, hsz]
  clear hqz hsz
  have hql' : (q : Int) < p.len.length := by omega
  have hsl' : (s : Int) < p.len.length := by omega
  have hlo := HG.out.good.lo s hsl
  have hhi := HG.out.good.hi s hsl
  obtain ⟨b1, o1, e1, hfs⟩ := HPp.out.len.fc hsl
  simp only at e1
  subst e1
  obtain ⟨k, hkz⟩ : ∃ k : Nat, ((a3 : Int) % (nth p.len s + 1)) = k := ⟨((a3 : Int) % (nth p.len s + 1)).toNat, by have := Int.emod_nonneg (a3 : Int) (show nth p.len s + 1 ≠ 0 by omega); omega⟩
  have hk : (k : Int) ≤ nth p.len s := by
    have := Int.emod_lt_of_pos (a3 : Int) (show (0 : Int) < nth p.len s + 1 by omega)
    omega
  have HAP := Lib.hid (app_cases HG.out (by omega) hql hsl (by omega) hk)
  have HK := Lib.hid hk
  generalize hm : nth p.len s = m at *
  have hm1 : ¬ (m + 1 = 0) := by omega
  go_wp2_with fail
  go_cut [13, 14] (fun s13 s14 wx => ∃ (g3 : Nat) (B1 : Option Addr) (d1 : Nat) (B2 : Option Addr) (d2 : Nat) (B3 : Option Addr) (d3 : Nat) (T1 : Nat → Prop) (u1 : World), s13 = .pointer (some ⟨g3, 0, none⟩) ∧ s14 = .bool (appRes p q s k).2 ∧ Hid (PatAt T1 u1 ⟨some ⟨b1, o1, none⟩, c1, A2, c2, A3, c3⟩ p ∧ PatAt T1 u1 ⟨B1, d1, B2, d2, B3, d3⟩ (appRes p q s k).1) ∧ St w0 NoM [blk g3 [.slice B1 (appRes p q s k).1.len.length d1, .slice B2 (appRes p q s k).1.ck.length d2, .slice B3 (appRes p q s k).1.arcs.length d3] 28, blk g1 [.slice (some ⟨b1, o1, none⟩) p.len.length c1, .slice A2 p.ck.length c2, .slice A3 p.arcs.length c3] 28, froz T1 u1] wx)
  case first =>
    refine dr_start0 []  hS (by kernel_rfl) rfl ?_; clear hS; intro w hS
    first | refine dL1 hS 0 rfl rfl rfl rfl ?_ | refine dL2 hS 0 rfl rfl rfl rfl ?_ | refine dL3 hS 0 rfl rfl rfl ?_ | refine dL4 hS 0 rfl rfl rfl ?_ | refine dL5 hS 0 rfl rfl rfl ?_ | refine dL6 hS 0 rfl rfl rfl ?_ | refine dL7 hS 0 rfl rfl rfl ?_
    (try simp only [Act.put, nA, nB, nC])
    refine dM hS 1 rfl rfl rfl ?_
    (try simp only [Act.put, nA, nB, nC])
    refine dM hS 2 rfl rfl rfl ?_
    (try simp only [Act.put, nA, nB, nC])
    refine dM hS 3 rfl rfl rfl ?_
    (try simp only [Act.put, nA, nB, nC])
    refine dP hS 4 rfl rfl ?_
    (try simp only [Act.put, nA, nB, nC])
    refine dP hS 5 rfl rfl ?_
    (try simp only [Act.put, nA, nB, nC])
    first | refine dL1 hS 6 rfl rfl rfl rfl ?_ | refine dL2 hS 6 rfl rfl rfl rfl ?_ | refine dL3 hS 6 rfl rfl rfl ?_ | refine dL4 hS 6 rfl rfl rfl ?_ | refine dL5 hS 6 rfl rfl rfl ?_ | refine dL6 hS 6 rfl rfl rfl ?_ | refine dL7 hS 6 rfl rfl rfl ?_
    (try simp only [Act.put, nA, nB, nC])
    refine dM hS 7 rfl rfl rfl ?_
    (try simp only [Act.put, nA, nB, nC])
    refine dP hS 8 rfl rfl ?_
    (try simp only [Act.put, nA, nB, nC])
    first | refine dL1 hS 9 rfl rfl rfl rfl ?_ | refine dL2 hS 9 rfl rfl rfl rfl ?_ | refine dL3 hS 9 rfl rfl rfl ?_ | refine dL4 hS 9 rfl rfl rfl ?_ | refine dL5 hS 9 rfl rfl rfl ?_ | refine dL6 hS 9 rfl rfl rfl ?_ | refine dL7 hS 9 rfl rfl rfl ?_
    (try simp only [Act.put, nA, nB, nC])
    refine dP hS 10 rfl rfl ?_
    (try simp only [Act.put, nA, nB, nC])
    refine dP hS 11 rfl rfl ?_
    (try simp only [Act.put, nA, nB, nC])
    refine dr_two 12 16 (by kernel_rfl) rfl rfl ?_ ?_
    (refine st_call rfl (by kernel_rfl) rfl ?_; go_at_call 32; have hcall := rappend_nn (q := (q : Int)) (fr := (s : Int)) (se := (k : Int)) rfl rfl rfl (HPp.out.into hS.frozInto) HG.out.good; rw [hkz]; refine hcall.mono ?_; clear hcall; rintro e w ⟨⟨B1, d1, B2, d2, B3, d3⟩, rfl, hp1, hx1⟩; simp only [PV.val]; obtain ⟨N1, hS1, hi1, hi0⟩ := hS.grow2 hx1; clear hS; have hS := hS1; clear hS1; have HPx := Lib.hid (hp1.into hi1); generalize hu1 : w = u1 at *)
    (try simp only [Act.put, nA, nB, nC])
    refine dr_end hS ?_
    refine dM hS 13 rfl rfl rfl ?_
    (try simp only [Act.put, nA, nB, nC])
    refine dP hS 14 rfl rfl ?_
    (try simp only [Act.put, nA, nB, nC])
    refine dP hS 15 rfl rfl ?_
    (try simp only [Act.put, nA, nB, nC])
    refine dr_one 16 (by kernel_rfl) rfl ?_
    (refine sN1 hS rfl ?_; clear hS; first | ((fail_if_success guard_hyp g1); intro g1 w hS) | ((fail_if_success guard_hyp g2); intro g2 w hS) | ((fail_if_success guard_hyp g3); intro g3 w hS) | fail)
    (try simp only [Act.put, nA, nB, nC])
    refine dr_end hS ?_
    refine dr_one 17 (by kernel_rfl) rfl ?_
    ((first | refine sS1 hS rfl rfl rfl ?_ | refine sS2 hS rfl rfl rfl ?_ | refine sS3 hS rfl rfl rfl ?_ | refine sS4 hS rfl rfl rfl ?_ | refine sS5 hS rfl rfl rfl ?_); clear hS; intro w hS)
    (try simp only [Act.put, nA, nB, nC])
    refine dr_end hS ?_
    refine dA hS 18 rfl rfl rfl ?_
    (try simp only [Act.put, nA, nB, nC])
    refine dr_done (by kernel_rfl) ?_
    rotate_left
    (refine sN1 hS rfl ?_; clear hS; first | ((fail_if_success guard_hyp g1); intro g1 w hS) | ((fail_if_success guard_hyp g2); intro g2 w hS) | ((fail_if_success guard_hyp g3); intro g3 w hS) | fail)
    (try simp only [Act.put, nA, nB, nC])
    refine dr_end hS ?_
    refine dr_one 12 (by kernel_rfl) rfl ?_
    (refine st_call rfl (by kernel_rfl) rfl ?_; go_at_call 32; have hcall := rappend_nn (q := (q : Int)) (fr := (s : Int)) (se := (k : Int)) rfl rfl rfl (HPp.out.into hS.frozInto) HG.out.good; rw [hkz]; refine hcall.mono ?_; clear hcall; rintro e w ⟨⟨B1, d1, B2, d2, B3, d3⟩, rfl, hp1, hx1⟩; simp only [PV.val]; obtain ⟨N1, hS1, hi1, hi0⟩ := hS.grow2 hx1; clear hS; have hS := hS1; clear hS1; have HPx := Lib.hid (hp1.into hi1); generalize hu1 : w = u1 at *)
    (try simp only [Act.put, nA, nB, nC])
    refine dr_end hS ?_
    refine dM hS 13 rfl rfl rfl ?_
    (try simp only [Act.put, nA, nB, nC])
    refine dP hS 14 rfl rfl ?_
    (try simp only [Act.put, nA, nB, nC])
    refine dP hS 15 rfl rfl ?_
    (try simp only [Act.put, nA, nB, nC])
    refine dr_one 17 (by kernel_rfl) rfl ?_
    ((first | refine sS1 hS rfl rfl rfl ?_ | refine sS2 hS rfl rfl rfl ?_ | refine sS3 hS rfl rfl rfl ?_ | refine sS4 hS rfl rfl rfl ?_ | refine sS5 hS rfl rfl rfl ?_); clear hS; intro w hS)
    (try simp only [Act.put, nA, nB, nC])
    refine dr_end hS ?_
    refine dA hS 18 rfl rfl rfl ?_
    (try simp only [Act.put, nA, nB, nC])
    refine dr_done (by kernel_rfl) ?_
    rotate_left
    all_goals
      go_wp2_with fail
      obtain ⟨T1, hS1, hm0, hm1⟩ := hS.merge N1 u1 hi0
      go_meet
      exact ⟨_, B1, d1, B2, d2, B3, d3, T1, _, rfl, rfl, Lib.hid ⟨HPp.out.into hm0, HPx.out.into hm1⟩, hS1.re⟩
  case rest =>
    clear HPp hS hkz hfs
    obtain ⟨g3, B1, d1, B2, d2, B3, d3, T1, u1, rfl, rfl, HPX, hS⟩ := hcut
    rw [HAP.out] at HPX hS ⊢
    have HPp := Lib.hid HPX.out.1
    have HGD := Lib.hid HG.out.good
    by_cases hqs : q = s
    · subst hqs
      have HMK := Lib.hid (show markI p (q : Int) = p.mark q by rw [markI, if_pos ⟨by omega, hql'⟩, Int.toNat_natCast])
      have HGX := Lib.hid (And.intro (HGD.out.mark hql) (longer_mark HGD.out hql))
      rw [if_pos rfl] at HPX hS ⊢
      clear HPX HAP HK
      generalize hpm : p.mark q = x at *
      clear hpm
      go_upto_region 9 with (first | (go_at_call 33; refine (rmark_nn (q := (q : Int)) rfl rfl rfl (HPp.out.into hS.frozInto) HGD.out).mono ?_; rw [HMK.out]; rintro e w ⟨⟨X1, x1, X2, x2, X3, x3⟩, rfl, hp1, hx1⟩; simp only [PV.val]; obtain ⟨T1, hS1, hi1, hi0⟩ := hS.grow hx1; clear hS; have hS := hS1; clear hS1; replace HPp := Lib.hid (HPp.out.into hi0); have HXL := Lib.hid (And.intro HGX.out.1 (And.intro HGX.out.2 (hp1.into hi1))); generalize w = u1 at *) | (refine oL ?_; (first | refine sL1 hS rfl rfl rfl ?_ | refine sL2 hS rfl rfl rfl ?_ | refine sL3 hS rfl rfl ?_ | refine sL4 hS rfl rfl ?_ | refine sL5 hS rfl rfl ?_ | refine sL6 hS rfl rfl ?_ | refine sL7 hS rfl rfl ?_)) | (refine oS ?_; ((first | refine sS1 hS rfl rfl rfl ?_ | refine sS2 hS rfl rfl rfl ?_ | refine sS3 hS rfl rfl rfl ?_ | refine sS4 hS rfl rfl rfl ?_ | refine sS5 hS rfl rfl rfl ?_); clear hS; intro w hS)) | ((first | refine sN1 hS rfl ?_); clear hS; first | ((fail_if_success guard_hyp g1); intro g1 w hS) | ((fail_if_success guard_hyp g2); intro g2 w hS) | ((fail_if_success guard_hyp g3); intro g3 w hS) | fail) | fail)
      have hlox := fun r (hr : r < p.len.length) => HGD.out.lo r hr
      have hhix := fun r (hr : r < p.len.length) => HGD.out.hi r hr
      have HLH := Lib.hid (And.intro hlox hhix)
      clear hlox hhix
      go_wp2_with (first | (refine oL ?_; (first | refine sL1 hS rfl rfl rfl ?_ | refine sL2 hS rfl rfl rfl ?_ | refine sL3 hS rfl rfl ?_ | refine sL4 hS rfl rfl ?_ | refine sL5 hS rfl rfl ?_ | refine sL6 hS rfl rfl ?_ | refine sL7 hS rfl rfl ?_)) | (refine oS ?_; ((first | refine sS1 hS rfl rfl rfl ?_ | refine sS2 hS rfl rfl rfl ?_ | refine sS3 hS rfl rfl rfl ?_ | refine sS4 hS rfl rfl rfl ?_ | refine sS5 hS rfl rfl rfl ?_); clear hS; intro w hS)) | ((first | refine sN1 hS rfl ?_); clear hS; first | ((fail_if_success guard_hyp g1); intro g1 w hS) | ((fail_if_success guard_hyp g2); intro g2 w hS) | ((fail_if_success guard_hyp g3); intro g3 w hS) | fail) | fail)
      go_loopw [57] (fun s57 wr => ∃ (r : Nat), r ≤ p.len.length ∧ s57 = .int .i64 r ∧ St w0 NoM [blk g3 [.slice X1 x.len.length x1, .slice X2 x.ck.length x2, .slice X3 x.arcs.length x3] 28, blk g1 [.slice (some ⟨b1, o1, none⟩) p.len.length c1, .slice A2 p.ck.length c2, .slice A3 p.arcs.length c3] 28, froz T1 u1] wr) (fun s57 _ => p.len.length - (intOf s57).toNat)
      case atStart => exact ⟨0, by omega, rfl, hS.re⟩
      case round =>
        obtain ⟨r, hr, rfl, hS⟩ := hrel
        by_cases hrl : r < p.len.length
        · obtain ⟨b2, o2, e2, hfr⟩ := HPp.out.len.fc hrl
          simp only at e2
          injection e2 with e2; injection e2 with e2 e3; subst e2; subst e3
          obtain ⟨hl0, hl1⟩ := And.intro (HLH.out.1 r hrl) (HLH.out.2 r hrl)
          have hrl' : (r : Int) < p.len.length := by omega
          have hxl : r < x.len.length := by rw [HXL.out.2.1.n]; exact hrl
          have HXX := Lib.hid (HXL.out.2.1.len r hrl)
          generalize hmr : nth p.len r = mr at *
          go_wp2_with (first | (refine oL ?_; (first | refine sL1 hS rfl rfl rfl ?_ | refine sL2 hS rfl rfl rfl ?_ | refine sL3 hS rfl rfl ?_ | refine sL4 hS rfl rfl ?_ | refine sL5 hS rfl rfl ?_ | refine sL6 hS rfl rfl ?_ | refine sL7 hS rfl rfl ?_)) | (refine oS ?_; ((first | refine sS1 hS rfl rfl rfl ?_ | refine sS2 hS rfl rfl rfl ?_ | refine sS3 hS rfl rfl rfl ?_ | refine sS4 hS rfl rfl rfl ?_ | refine sS5 hS rfl rfl rfl ?_); clear hS; intro w hS)) | ((first | refine sN1 hS rfl ?_); clear hS; first | ((fail_if_success guard_hyp g1); intro g1 w hS) | ((fail_if_success guard_hyp g2); intro g2 w hS) | ((fail_if_success guard_hyp g3); intro g3 w hS) | fail) | fail)
          go_loopw [16] (fun s16 wr => ∃ (j : Nat), (j : Int) ≤ mr + 1 ∧ s16 = .int .i64 j ∧ St w0 NoM [blk g3 [.slice X1 x.len.length x1, .slice X2 x.ck.length x2, .slice X3 x.arcs.length x3] 28, blk g1 [.slice (some ⟨b1, o1, none⟩) p.len.length c1, .slice A2 p.ck.length c2, .slice A3 p.arcs.length c3] 28, froz T1 u1] wr) (fun s16 _ => (mr + 1).toNat - (intOf s16).toNat)
          case atStart => exact ⟨0, by omega, rfl, hS.re⟩
          case round =>
            obtain ⟨j, hj, rfl, hS⟩ := hrel
            by_cases hjl : (j : Int) ≤ mr
            · have d1 : decide ((j : Int) ≤ mr) = true := decide_eq_true hjl
              have HPT := Lib.hid (And.intro (show PtOk p (r, (j : Int)) from ⟨hrl, by simp only; omega, by simp only; omega⟩) (show PtOk x (r, (j : Int)) from ⟨hxl, by simp only; omega, by have := HXX.out; simp only; omega⟩))
              have HEQ : Hid (∀ {c d : List Int}, Hid (IsClk p r (j : Int) c) → Hid (IsClk x r (j : Int) d) → decide (vecN p c = vecN x d) = true) := Lib.hid (fun h1 h2 => decide_eq_true (vec_longer HGD.out HXL.out.1 HXL.out.2.1 hrl (by omega) h1.out h2.out))
              go_wp2_with (first | (refine oL ?_; (first | refine sL1 hS rfl rfl rfl ?_ | refine sL2 hS rfl rfl rfl ?_ | refine sL3 hS rfl rfl ?_ | refine sL4 hS rfl rfl ?_ | refine sL5 hS rfl rfl ?_ | refine sL6 hS rfl rfl ?_ | refine sL7 hS rfl rfl ?_)) | (refine oS ?_; ((first | refine sS1 hS rfl rfl rfl ?_ | refine sS2 hS rfl rfl rfl ?_ | refine sS3 hS rfl rfl rfl ?_ | refine sS4 hS rfl rfl rfl ?_ | refine sS5 hS rfl rfl rfl ?_); clear hS; intro w hS)) | ((first | refine sN1 hS rfl ?_); clear hS; first | ((fail_if_success guard_hyp g1); intro g1 w hS) | ((fail_if_success guard_hyp g2); intro g2 w hS) | ((fail_if_success guard_hyp g3); intro g3 w hS) | fail) | fail)
              refine dr_start0 []  hS (by kernel_rfl) rfl ?_; clear hS; intro w hS
              first | refine dL1 hS 0 rfl rfl rfl rfl ?_ | refine dL2 hS 0 rfl rfl rfl rfl ?_ | refine dL3 hS 0 rfl rfl rfl ?_ | refine dL4 hS 0 rfl rfl rfl ?_ | refine dL5 hS 0 rfl rfl rfl ?_ | refine dL6 hS 0 rfl rfl rfl ?_ | refine dL7 hS 0 rfl rfl rfl ?_
              (try simp only [Act.put, nA, nB, nC])
              refine dM hS 1 rfl rfl rfl ?_
              (try simp only [Act.put, nA, nB, nC])
              refine dM hS 2 rfl rfl rfl ?_
              (try simp only [Act.put, nA, nB, nC])
              first | refine dL1 hS 4 rfl rfl rfl rfl ?_ | refine dL2 hS 4 rfl rfl rfl rfl ?_ | refine dL3 hS 4 rfl rfl rfl ?_ | refine dL4 hS 4 rfl rfl rfl ?_ | refine dL5 hS 4 rfl rfl rfl ?_ | refine dL6 hS 4 rfl rfl rfl ?_ | refine dL7 hS 4 rfl rfl rfl ?_
              (try simp only [Act.put, nA, nB, nC])
              refine dM hS 5 rfl rfl rfl ?_
              (try simp only [Act.put, nA, nB, nC])
              refine dM hS 6 rfl rfl rfl ?_
              (try simp only [Act.put, nA, nB, nC])
              refine dr_one 3 (by kernel_rfl) rfl ?_
              (refine st_call rfl (by kernel_rfl) rfl ?_; go_at_call 34; refine (vector_n rfl rfl rfl rfl (HPp.out.into hS.frozInto) HGD.out HPT.out.1).mono ?_; rintro e w ⟨c, hc, hvc, L4, cl4, rfl, ho, hx1⟩; replace hS := hS.addRow ho hx1; have HC := Lib.hid hc; have HVC := Lib.hid hvc; clear ho hc hvc)
              (try simp only [Act.put, nA, nB, nC])
              refine dr_end hS ?_
              refine dr_one 7 (by kernel_rfl) rfl ?_
              (refine st_call rfl (by kernel_rfl) rfl ?_; go_at_call 34; refine (vector_n rfl rfl rfl rfl (HXL.out.2.2.into hS.frozInto) HXL.out.1 HPT.out.2).mono ?_; rintro e w ⟨d, hd, hvd, L5, cl5, rfl, ho, hx1⟩; replace hS := hS.addRow ho hx1; have HD := Lib.hid hd; have HVD := Lib.hid hvd; clear ho hd hvd)
              (try simp only [Act.put, nA, nB, nC])
              refine dr_end hS ?_
              refine dr_one 8 (by kernel_rfl) rfl ?_
              (refine st_call rfl (by kernel_rfl) rfl ?_; go_at_call 19; refine (sameInts_z HVC.out HVD.out hS.ri hS.ri (by omega) (by rw [HXL.out.2.1.n]; omega)).mono ?_; rintro e w ⟨rfl, hx1⟩; replace hS := hS.ext hx1; rw [HEQ.out HC HD])
              (try simp only [Act.put, nA, nB, nC])
              refine dr_end hS ?_
              refine dP hS 9 rfl rfl ?_
              (try simp only [Act.put, nA, nB, nC])
              refine dr_done (by kernel_rfl) ?_
              all_goals
                go_wp2_with (first | (refine oL ?_; (first | refine sL1 hS rfl rfl rfl ?_ | refine sL2 hS rfl rfl rfl ?_ | refine sL3 hS rfl rfl ?_ | refine sL4 hS rfl rfl ?_ | refine sL5 hS rfl rfl ?_ | refine sL6 hS rfl rfl ?_ | refine sL7 hS rfl rfl ?_)) | (refine oS ?_; ((first | refine sS1 hS rfl rfl rfl ?_ | refine sS2 hS rfl rfl rfl ?_ | refine sS3 hS rfl rfl rfl ?_ | refine sS4 hS rfl rfl rfl ?_ | refine sS5 hS rfl rfl rfl ?_); clear hS; intro w hS)) | ((first | refine sN1 hS rfl ?_); clear hS; first | ((fail_if_success guard_hyp g1); intro g1 w hS) | ((fail_if_success guard_hyp g2); intro g2 w hS) | ((fail_if_success guard_hyp g3); intro g3 w hS) | fail) | fail)
                go_roundw
                case measure => simp [intOf]; omega
                exact ⟨j + 1, by omega, by go_num, hS.re⟩
            · have d1 : decide ((j : Int) ≤ mr) = false := decide_eq_false hjl
              go_wp2_with (first | (refine oL ?_; (first | refine sL1 hS rfl rfl rfl ?_ | refine sL2 hS rfl rfl rfl ?_ | refine sL3 hS rfl rfl ?_ | refine sL4 hS rfl rfl ?_ | refine sL5 hS rfl rfl ?_ | refine sL6 hS rfl rfl ?_ | refine sL7 hS rfl rfl ?_)) | (refine oS ?_; ((first | refine sS1 hS rfl rfl rfl ?_ | refine sS2 hS rfl rfl rfl ?_ | refine sS3 hS rfl rfl rfl ?_ | refine sS4 hS rfl rfl rfl ?_ | refine sS5 hS rfl rfl rfl ?_); clear hS; intro w hS)) | ((first | refine sN1 hS rfl ?_); clear hS; first | ((fail_if_success guard_hyp g1); intro g1 w hS) | ((fail_if_success guard_hyp g2); intro g2 w hS) | ((fail_if_success guard_hyp g3); intro g3 w hS) | fail) | fail)
              go_roundw
              case measure => simp [intOf]; omega
              exact ⟨r + 1, by omega, by go_num, hS.re⟩
        · go_wp2_with (first | (refine oL ?_; (first | refine sL1 hS rfl rfl rfl ?_ | refine sL2 hS rfl rfl rfl ?_ | refine sL3 hS rfl rfl ?_ | refine sL4 hS rfl rfl ?_ | refine sL5 hS rfl rfl ?_ | refine sL6 hS rfl rfl ?_ | refine sL7 hS rfl rfl ?_)) | (refine oS ?_; ((first | refine sS1 hS rfl rfl rfl ?_ | refine sS2 hS rfl rfl rfl ?_ | refine sS3 hS rfl rfl rfl ?_ | refine sS4 hS rfl rfl rfl ?_ | refine sS5 hS rfl rfl rfl ?_); clear hS; intro w hS)) | ((first | refine sN1 hS rfl ?_); clear hS; first | ((fail_if_success guard_hyp g1); intro g1 w hS) | ((fail_if_success guard_hyp g2); intro g2 w hS) | ((fail_if_success guard_hyp g3); intro g3 w hS) | fail) | fail)
          go_ret
          exact ⟨rfl, hS.toExt⟩
    · rw [if_neg hqs] at HPX hS ⊢
      have HXL := Lib.hid (And.intro (HGD.out.recv (k := (k : Int)) hsl hql (Ne.symm hqs) (by omega) (by rw [hm]; exact hk) (by have := HG.out.ev q hql; omega) (by have := HG.out.few; omega)) (And.intro (longer_app (s := s) (k := (k : Int)) HGD.out hql) HPX.out.2))
      clear HPX HAP HK
      simp only at HXL hS ⊢
      generalize hpx : (p.more q).send ⟨s, (k : Int), q, nth p.len q + 1⟩ = x at *
      clear hpx
      obtain ⟨X1, hX1⟩ : ∃ X, X = B1 := ⟨_, rfl⟩
      obtain ⟨X2, hX2⟩ : ∃ X, X = B2 := ⟨_, rfl⟩
      obtain ⟨X3, hX3⟩ : ∃ X, X = B3 := ⟨_, rfl⟩
      obtain ⟨x1, hx1⟩ : ∃ X, X = d1 := ⟨_, rfl⟩
      obtain ⟨x2, hx2⟩ : ∃ X, X = d2 := ⟨_, rfl⟩
      obtain ⟨x3, hx3⟩ : ∃ X, X = d3 := ⟨_, rfl⟩
      subst hX1 hX2 hX3 hx1 hx2 hx3
      have hlox := fun r (hr : r < p.len.length) => HGD.out.lo r hr
      have hhix := fun r (hr : r < p.len.length) => HGD.out.hi r hr
      have HLH := Lib.hid (And.intro hlox hhix)
      clear hlox hhix
      go_wp2_with (first | (refine oL ?_; (first | refine sL1 hS rfl rfl rfl ?_ | refine sL2 hS rfl rfl rfl ?_ | refine sL3 hS rfl rfl ?_ | refine sL4 hS rfl rfl ?_ | refine sL5 hS rfl rfl ?_ | refine sL6 hS rfl rfl ?_ | refine sL7 hS rfl rfl ?_)) | (refine oS ?_; ((first | refine sS1 hS rfl rfl rfl ?_ | refine sS2 hS rfl rfl rfl ?_ | refine sS3 hS rfl rfl rfl ?_ | refine sS4 hS rfl rfl rfl ?_ | refine sS5 hS rfl rfl rfl ?_); clear hS; intro w hS)) | ((first | refine sN1 hS rfl ?_); clear hS; first | ((fail_if_success guard_hyp g1); intro g1 w hS) | ((fail_if_success guard_hyp g2); intro g2 w hS) | ((fail_if_success guard_hyp g3); intro g3 w hS) | fail) | fail)
      go_loopw [57] (fun s57 wr => ∃ (r : Nat), r ≤ p.len.length ∧ s57 = .int .i64 r ∧ St w0 NoM [blk g3 [.slice X1 x.len.length x1, .slice X2 x.ck.length x2, .slice X3 x.arcs.length x3] 28, blk g1 [.slice (some ⟨b1, o1, none⟩) p.len.length c1, .slice A2 p.ck.length c2, .slice A3 p.arcs.length c3] 28, froz T1 u1] wr) (fun s57 _ => p.len.length - (intOf s57).toNat)
      case atStart => exact ⟨0, by omega, rfl, hS.re⟩
      case round =>
        obtain ⟨r, hr, rfl, hS⟩ := hrel
        by_cases hrl : r < p.len.length
        · obtain ⟨b2, o2, e2, hfr⟩ := HPp.out.len.fc hrl
          simp only at e2
          injection e2 with e2; injection e2 with e2 e3; subst e2; subst e3
          obtain ⟨hl0, hl1⟩ := And.intro (HLH.out.1 r hrl) (HLH.out.2 r hrl)
          have hrl' : (r : Int) < p.len.length := by omega
          have hxl : r < x.len.length := by rw [HXL.out.2.1.n]; exact hrl
          have HXX := Lib.hid (HXL.out.2.1.len r hrl)
          generalize hmr : nth p.len r = mr at *
          go_wp2_with (first | (refine oL ?_; (first | refine sL1 hS rfl rfl rfl ?_ | refine sL2 hS rfl rfl rfl ?_ | refine sL3 hS rfl rfl ?_ | refine sL4 hS rfl rfl ?_ | refine sL5 hS rfl rfl ?_ | refine sL6 hS rfl rfl ?_ | refine sL7 hS rfl rfl ?_)) | (refine oS ?_; ((first | refine sS1 hS rfl rfl rfl ?_ | refine sS2 hS rfl rfl rfl ?_ | refine sS3 hS rfl rfl rfl ?_ | refine sS4 hS rfl rfl rfl ?_ | refine sS5 hS rfl rfl rfl ?_); clear hS; intro w hS)) | ((first | refine sN1 hS rfl ?_); clear hS; first | ((fail_if_success guard_hyp g1); intro g1 w hS) | ((fail_if_success guard_hyp g2); intro g2 w hS) | ((fail_if_success guard_hyp g3); intro g3 w hS) | fail) | fail)
          go_loopw [16] (fun s16 wr => ∃ (j : Nat), (j : Int) ≤ mr + 1 ∧ s16 = .int .i64 j ∧ St w0 NoM [blk g3 [.slice X1 x.len.length x1, .slice X2 x.ck.length x2, .slice X3 x.arcs.length x3] 28, blk g1 [.slice (some ⟨b1, o1, none⟩) p.len.length c1, .slice A2 p.ck.length c2, .slice A3 p.arcs.length c3] 28, froz T1 u1] wr) (fun s16 _ => (mr + 1).toNat - (intOf s16).toNat)
          case atStart => exact ⟨0, by omega, rfl, hS.re⟩
          case round =>
            obtain ⟨j, hj, rfl, hS⟩ := hrel
            by_cases hjl : (j : Int) ≤ mr
            · have d1 : decide ((j : Int) ≤ mr) = true := decide_eq_true hjl
              have HPT := Lib.hid (And.intro (show PtOk p (r, (j : Int)) from ⟨hrl, by simp only; omega, by simp only; omega⟩) (show PtOk x (r, (j : Int)) from ⟨hxl, by simp only; omega, by have := HXX.out; simp only; omega⟩))
              have HEQ : Hid (∀ {c d : List Int}, Hid (IsClk p r (j : Int) c) → Hid (IsClk x r (j : Int) d) → decide (vecN p c = vecN x d) = true) := Lib.hid (fun h1 h2 => decide_eq_true (vec_longer HGD.out HXL.out.1 HXL.out.2.1 hrl (by omega) h1.out h2.out))
              go_wp2_with (first | (refine oL ?_; (first | refine sL1 hS rfl rfl rfl ?_ | refine sL2 hS rfl rfl rfl ?_ | refine sL3 hS rfl rfl ?_ | refine sL4 hS rfl rfl ?_ | refine sL5 hS rfl rfl ?_ | refine sL6 hS rfl rfl ?_ | refine sL7 hS rfl rfl ?_)) | (refine oS ?_; ((first | refine sS1 hS rfl rfl rfl ?_ | refine sS2 hS rfl rfl rfl ?_ | refine sS3 hS rfl rfl rfl ?_ | refine sS4 hS rfl rfl rfl ?_ | refine sS5 hS rfl rfl rfl ?_); clear hS; intro w hS)) | ((first | refine sN1 hS rfl ?_); clear hS; first | ((fail_if_success guard_hyp g1); intro g1 w hS) | ((fail_if_success guard_hyp g2); intro g2 w hS) | ((fail_if_success guard_hyp g3); intro g3 w hS) | fail) | fail)
              refine dr_start0 []  hS (by kernel_rfl) rfl ?_; clear hS; intro w hS
              first | refine dL1 hS 0 rfl rfl rfl rfl ?_ | refine dL2 hS 0 rfl rfl rfl rfl ?_ | refine dL3 hS 0 rfl rfl rfl ?_ | refine dL4 hS 0 rfl rfl rfl ?_ | refine dL5 hS 0 rfl rfl rfl ?_ | refine dL6 hS 0 rfl rfl rfl ?_ | refine dL7 hS 0 rfl rfl rfl ?_
              (try simp only [Act.put, nA, nB, nC])
              refine dM hS 1 rfl rfl rfl ?_
              (try simp only [Act.put, nA, nB, nC])
              refine dM hS 2 rfl rfl rfl ?_
              (try simp only [Act.put, nA, nB, nC])
              first | refine dL1 hS 4 rfl rfl rfl rfl ?_ | refine dL2 hS 4 rfl rfl rfl rfl ?_ | refine dL3 hS 4 rfl rfl rfl ?_ | refine dL4 hS 4 rfl rfl rfl ?_ | refine dL5 hS 4 rfl rfl rfl ?_ | refine dL6 hS 4 rfl rfl rfl ?_ | refine dL7 hS 4 rfl rfl rfl ?_
              (try simp only [Act.put, nA, nB, nC])
              refine dM hS 5 rfl rfl rfl ?_
              (try simp only [Act.put, nA, nB, nC])
              refine dM hS 6 rfl rfl rfl ?_
              (try simp only [Act.put, nA, nB, nC])
              refine dr_one 3 (by kernel_rfl) rfl ?_
              (refine st_call rfl (by kernel_rfl) rfl ?_; go_at_call 34; refine (vector_n rfl rfl rfl rfl (HPp.out.into hS.frozInto) HGD.out HPT.out.1).mono ?_; rintro e w ⟨c, hc, hvc, L4, cl4, rfl, ho, hx1⟩; replace hS := hS.addRow ho hx1; have HC := Lib.hid hc; have HVC := Lib.hid hvc; clear ho hc hvc)
              (try simp only [Act.put, nA, nB, nC])
              refine dr_end hS ?_
              refine dr_one 7 (by kernel_rfl) rfl ?_
              (refine st_call rfl (by kernel_rfl) rfl ?_; go_at_call 34; refine (vector_n rfl rfl rfl rfl (HXL.out.2.2.into hS.frozInto) HXL.out.1 HPT.out.2).mono ?_; rintro e w ⟨d, hd, hvd, L5, cl5, rfl, ho, hx1⟩; replace hS := hS.addRow ho hx1; have HD := Lib.hid hd; have HVD := Lib.hid hvd; clear ho hd hvd)
              (try simp only [Act.put, nA, nB, nC])
              refine dr_end hS ?_
              refine dr_one 8 (by kernel_rfl) rfl ?_
              (refine st_call rfl (by kernel_rfl) rfl ?_; go_at_call 19; refine (sameInts_z HVC.out HVD.out hS.ri hS.ri (by omega) (by rw [HXL.out.2.1.n]; omega)).mono ?_; rintro e w ⟨rfl, hx1⟩; replace hS := hS.ext hx1; rw [HEQ.out HC HD])
              (try simp only [Act.put, nA, nB, nC])
              refine dr_end hS ?_
              refine dP hS 9 rfl rfl ?_
              (try simp only [Act.put, nA, nB, nC])
              refine dr_done (by kernel_rfl) ?_
              all_goals
                go_wp2_with (first | (refine oL ?_; (first | refine sL1 hS rfl rfl rfl ?_ | refine sL2 hS rfl rfl rfl ?_ | refine sL3 hS rfl rfl ?_ | refine sL4 hS rfl rfl ?_ | refine sL5 hS rfl rfl ?_ | refine sL6 hS rfl rfl ?_ | refine sL7 hS rfl rfl ?_)) | (refine oS ?_; ((first | refine sS1 hS rfl rfl rfl ?_ | refine sS2 hS rfl rfl rfl ?_ | refine sS3 hS rfl rfl rfl ?_ | refine sS4 hS rfl rfl rfl ?_ | refine sS5 hS rfl rfl rfl ?_); clear hS; intro w hS)) | ((first | refine sN1 hS rfl ?_); clear hS; first | ((fail_if_success guard_hyp g1); intro g1 w hS) | ((fail_if_success guard_hyp g2); intro g2 w hS) | ((fail_if_success guard_hyp g3); intro g3 w hS) | fail) | fail)
                go_roundw
                case measure => simp [intOf]; omega
                exact ⟨j + 1, by omega, by go_num, hS.re⟩
            · have d1 : decide ((j : Int) ≤ mr) = false := decide_eq_false hjl
              go_wp2_with (first | (refine oL ?_; (first | refine sL1 hS rfl rfl rfl ?_ | refine sL2 hS rfl rfl rfl ?_ | refine sL3 hS rfl rfl ?_ | refine sL4 hS rfl rfl ?_ | refine sL5 hS rfl rfl ?_ | refine sL6 hS rfl rfl ?_ | refine sL7 hS rfl rfl ?_)) | (refine oS ?_; ((first | refine sS1 hS rfl rfl rfl ?_ | refine sS2 hS rfl rfl rfl ?_ | refine sS3 hS rfl rfl rfl ?_ | refine sS4 hS rfl rfl rfl ?_ | refine sS5 hS rfl rfl rfl ?_); clear hS; intro w hS)) | ((first | refine sN1 hS rfl ?_); clear hS; first | ((fail_if_success guard_hyp g1); intro g1 w hS) | ((fail_if_success guard_hyp g2); intro g2 w hS) | ((fail_if_success guard_hyp g3); intro g3 w hS) | fail) | fail)
              go_roundw
              case measure => simp [intOf]; omega
              exact ⟨r + 1, by omega, by go_num, hS.re⟩
        · go_wp2_with (first | (refine oL ?_; (first | refine sL1 hS rfl rfl rfl ?_ | refine sL2 hS rfl rfl rfl ?_ | refine sL3 hS rfl rfl ?_ | refine sL4 hS rfl rfl ?_ | refine sL5 hS rfl rfl ?_ | refine sL6 hS rfl rfl ?_ | refine sL7 hS rfl rfl ?_)) | (refine oS ?_; ((first | refine sS1 hS rfl rfl rfl ?_ | refine sS2 hS rfl rfl rfl ?_ | refine sS3 hS rfl rfl rfl ?_ | refine sS4 hS rfl rfl rfl ?_ | refine sS5 hS rfl rfl rfl ?_); clear hS; intro w hS)) | ((first | refine sN1 hS rfl ?_); clear hS; first | ((fail_if_success guard_hyp g1); intro g1 w hS) | ((fail_if_success guard_hyp g2); intro g2 w hS) | ((fail_if_success guard_hyp g3); intro g3 w hS) | fail) | fail)
          go_ret
          exact ⟨rfl, hS.toExt⟩
open Go.ChangeShapes Go.WideShapes Go.ChangeAt
set_option maxRecDepth 100000 in
theorem lifted_DependOnline (os : Os) (started : os.Started) (H : Type) (enc : TypeId × Value → H) :
    ReturnsInHanded {} Try.checked os 7 .any (Rows.dependOnlineSpec.pre6 enc Try.prog Try.f7 Rows.dependOnlineRow.domain false) (Rows.dependOnlineSpec.post enc Try.prog Try.f7 false true false false) := by
  refine law_lifted (C := Try.checked) (s := Rows.dependOnlineSpec) (tb := 4) (by kernel_rfl) started (by kernel_rfl) Try.func7
      (ChangeSpec.witness6 (enc := enc) (C := Try.checked) false ⟨#[], #[.slice none 0 0, .int .u8 0, .int .u8 0, .int .u8 0], []⟩ 8 (by kernel_rfl) (by kernel_rfl) (by kernel_rfl) (by kernel_rfl))
      (by kernel_rfl) rfl rfl Try.underlying4 (read_of (by kernel_rfl)) ?_ ?_
  · intro ds hl
    match ds, hl with
    | [d0, d1, d2, d3], _ => exact ⟨rfl, rfl, rfl⟩
  · intro W base args ds p hval0 hA0
    have hval : ∀ (j : Nat) t v, Try.f7.params[j]? = some t → args[j]? = some v → Value.okWide Try.prog W .any base t v := hval0
    have hA : DataW.TrodAll enc Try.prog W 0 (fun _ => true) true Try.f7.params.toList args.toList ds p := hA0
    clear hA0 hval0
    rw [Try.params7] at hA hval
    obtain ⟨v0, v1, v2, v3, d0, d1, d2, d3, p0, p1, p2, p3, rfl, rfl, rfl, h0, h1, h2, h3⟩ := trodAll_four hA
    obtain ⟨A0, c0, xs0, rfl, hri0, hc0, hd0, hwf0⟩ := open_nums Try.underlying22 Try.underlying5 (by kernel_rfl) (hval 0 _ v0 rfl rfl) h0
    obtain ⟨x1, rfl, _, _, hz1⟩ := open_int Try.underlying5 (hval 1 _ v1 rfl rfl) h1
    have hb1 := u8_bd hz1
    obtain ⟨z1, rfl⟩ : ∃ zn : Nat, x1 = zn := ⟨x1.toNat, by omega⟩
    obtain ⟨x2, rfl, _, _, hz2⟩ := open_int Try.underlying5 (hval 2 _ v2 rfl rfl) h2
    have hb2 := u8_bd hz2
    obtain ⟨z2, rfl⟩ : ∃ zn : Nat, x2 = zn := ⟨x2.toNat, by omega⟩
    obtain ⟨x3, rfl, _, _, hz3⟩ := open_int Try.underlying5 (hval 3 _ v3 rfl rfl) h3
    have hb3 := u8_bd hz3
    obtain ⟨z3, rfl⟩ : ∃ zn : Nat, x3 = zn := ⟨x3.toNat, by omega⟩
    exact dependOnline_any A0 c0 xs0 z1 z2 z3 W hri0 hc0 hd0 (fun b hb => u8_bd (hwf0 b hb)) (by omega) (by omega) (by omega)
/-- DependOnline returns true for every input, and leaves its arguments as they were. -/
theorem proved_DependOnline : Rows.DependOnlineSaid :=
  OpenClaim.holds_of_wide 7 Try.f7 rfl rfl rfl rfl rfl rfl rfl ⟨rfl, rfl, rfl, rfl, rfl⟩ rfl rfl rfl rfl rfl (by kernel_rfl) Try.func7 (by kernel_rfl)
    (of_decide_eq_true (by kernel_rfl)) (by unfold Func.isWrapper; rw [if_neg (by decide +kernel)]; exact ⟨rfl, rfl⟩)
    (fun os started H enc _ => lifted_DependOnline os started H enc)
end Go.Proofs.Ytkflmichekpfbaa
