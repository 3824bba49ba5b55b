/- depend: Depends, Global. Conditions: the pattern is good and lies in memory, the numbers are in range. -/
import Derived.Test.YtkflmichekpfbaaDepC
namespace Go.Proofs.Ytkflmichekpfbaa
open Go.RowKit
set_option linter.unusedVariables false
set_option linter.unusedSimpArgs false
set_option linter.unusedSectionVars false

theorem cell5 {x0 x1 x2 x3 x4 : Int} {zs : List Int} (h : [x0, x1, x2, x3, x4] = zs) {q : Nat} (hq : q < 5) : ([.int .i64 x0, .int .i64 x1, .int .i64 x2, .int .i64 x3, .int .i64 x4] : List Value)[q]? = some (.int .i64 (nth zs q)) := by
  rw [← h]
  match q, hq with
  | 0, _ | 1, _ | 2, _ | 3, _ | 4, _ => rfl
section
variable {S : Nat → Prop} {A1 A2 A3 : Option Addr} {c1 c2 c3 n1 n2 n3 : Nat} {p : Pat} {q : Nat} {z k : Int} {w : World}
theorem extended_n (e1 : p.len.length = n1) (e2 : p.ck.length = n2) (e3 : p.arcs.length = n3) (hz : z = q) (hp : PatAt S w ⟨A1, c1, A2, c2, A3, c3⟩ p) (hg : Good p) (ha : CkOk p (q, k)) :
    Calls Try.prog 79 #[.agg #[.slice A1 n1 c1, .slice A2 n2 c2, .slice A3 n3 c3], .agg #[.int .i64 z, .int .i64 k]] w fun e w' => ∃ c x0 x1 x2 x3 x4, Hid (IsClk p q (ckIx p q k) c ∧ [x0, x1, x2, x3, x4] = vec5 p c) ∧ e = .returned (.agg #[.int .i64 x0, .int .i64 x1, .int .i64 x2, .int .i64 x3, .int .i64 x4]) ∧ Ext w w' := by
  subst e1 e2 e3 hz; exact extended_any ⟨A1, c1, A2, c2, A3, c3⟩ p q k w hp hg ha
theorem vector_n (e1 : p.len.length = n1) (e2 : p.ck.length = n2) (e3 : p.arcs.length = n3) (hz : z = q) (hp : PatAt S w ⟨A1, c1, A2, c2, A3, c3⟩ p) (hg : Good p) (hpt : PtOk p (q, k)) :
    Calls Try.prog 34 #[.agg #[.slice A1 n1 c1, .slice A2 n2 c2, .slice A3 n3 c3], .int .i64 z, .int .i64 k] w fun e w' => ∃ c, IsClk p q k c ∧ (vecN p c).length = n1 ∧ RetRow w 3 1 n1 (ints (vecN p c)) e w' := by
  subst e1 e2 e3 hz
  refine (vector_any ⟨A1, c1, A2, c2, A3, c3⟩ p q k w hp hg hpt).mono ?_
  rintro e w' ⟨c, h1, h2⟩
  exact ⟨c, h1, vecN_length p c, h2⟩
end
set_option maxRecDepth 100000 in
set_option maxHeartbeats 3200000 in
theorem depends_any {S : Nat → Prop} (v : PV) (p : Pat) (q r : Nat) (n m : Int) (w0 : World) (hp : PatAt S w0 v p) (hg : Good p) (hb : CkOk p (q, n)) (ha : CkOk p (r, m)) :
    Calls Try.prog 46 #[v.val p, .agg #[.int .i64 (q : Int), .int .i64 n], .agg #[.int .i64 (r : Int), .int .i64 m]] w0 fun e w' => ∃ c, IsClk p q (ckIx p q n) c ∧ e = .returned (.bool (decide (m < nth (vecN p c) r))) ∧ Ext w0 w' := by
  have hS := St.start w0 NoM
  have hn5 := hg.n5
  have hr := ha.1
  simp only at hr
  have HP := Lib.hid (And.intro hp (And.intro hg (And.intro hb ha)))
  clear hp hg hb ha
  obtain ⟨A1, c1, A2, c2, A3, c3⟩ := v
  simp only [PV.val] at *
  have hr5 : (r : Int) < 5 := by omega
  go_enter Try.func46, Try.ntmps46
  go_wp2_with (first | (go_at_call 71; (first | ((fail_if_success guard_hyp M1); refine (exists_n rfl rfl rfl rfl (HP.out.1.ext hS.toExt) HP.out.2.1 HP.out.2.2.2).mono ?_; have M1 := True.intro) | refine (exists_n rfl rfl rfl rfl (HP.out.1.ext hS.toExt) HP.out.2.1 HP.out.2.2.1).mono ?_); rintro e w ⟨rfl, hx1⟩; replace hS := hS.ext hx1) | (go_at_call 79; refine (extended_n rfl rfl rfl rfl (HP.out.1.ext hS.toExt) HP.out.2.1 HP.out.2.2.1).mono ?_; rintro e w ⟨c, x0, x1, x2, x3, x4, HC, rfl, hx1⟩; replace hS := hS.ext hx1) | (refine oL ?_; (first | refine sL1 hS rfl rfl rfl ?_ | refine sL2 hS rfl rfl rfl ?_ | refine sL3 hS rfl rfl ?_ | refine sL4 hS rfl rfl ?_ | refine sL5 hS rfl rfl ?_ | refine sL6 hS rfl rfl ?_ | refine sL7 hS rfl rfl ?_)) | (refine oS ?_; ((first | refine sS1 hS rfl rfl rfl ?_ | refine sS2 hS rfl rfl rfl ?_ | refine sS3 hS rfl rfl rfl ?_ | refine sS4 hS rfl rfl rfl ?_ | refine sS5 hS rfl rfl rfl ?_); clear hS; intro w hS)) | ((first | (refine oB ?_; first | refine sB1 hS rfl rfl ?_ | refine sB2 hS rfl rfl ?_) | refine sN1 hS rfl ?_); clear hS; first | ((fail_if_success guard_hyp g1); intro g1 w hS) | ((fail_if_success guard_hyp g2); intro g2 w hS) | ((fail_if_success guard_hyp g3); intro g3 w hS) | ((fail_if_success guard_hyp g4); intro g4 w hS) | ((fail_if_success guard_hyp g5); intro g5 w hS) | fail) | fail)
  have hcell := cell5 (q := r) HC.out.2 (by omega)
  rw [nth_vec5 hr hn5, ← nth_vecN hr] at hcell
  have HX := Lib.hid (Eq.refl (nth (vecN p c) r))
  generalize hy : nth (vecN p c) r = y at *
  refine dr_start0 []  hS (by kernel_rfl) rfl ?_; clear hS; intro w hS
  refine dP hS 0 rfl rfl ?_
  (try simp only [Act.put, nA, nB, nC])
  first | refine dL1 hS 1 rfl rfl rfl rfl ?_ | refine dL2 hS 1 rfl rfl rfl rfl ?_ | refine dL3 hS 1 rfl rfl rfl ?_ | refine dL4 hS 1 rfl rfl rfl ?_ | refine dL5 hS 1 rfl rfl rfl ?_ | refine dL6 hS 1 rfl rfl rfl ?_ | refine dL7 hS 1 rfl rfl rfl ?_
  (try simp only [Act.put, nA, nB, nC])
  refine dP hS 2 rfl rfl ?_
  (try simp only [Act.put, nA, nB, nC])
  first | refine dL1 hS 3 rfl rfl rfl hcell ?_ | refine dL1 hS 3 rfl rfl rfl rfl ?_ | refine dL2 hS 3 rfl rfl rfl rfl ?_ | refine dL3 hS 3 rfl rfl rfl ?_ | refine dL4 hS 3 rfl rfl rfl ?_ | refine dL5 hS 3 rfl rfl rfl ?_ | refine dL6 hS 3 rfl rfl rfl ?_ | refine dL7 hS 3 rfl rfl rfl ?_
  (try simp only [Act.put, nA, nB, nC])
  refine dP hS 4 rfl rfl ?_
  (try simp only [Act.put, nA, nB, nC])
  first | refine dL1 hS 5 rfl rfl rfl rfl ?_ | refine dL2 hS 5 rfl rfl rfl rfl ?_ | refine dL3 hS 5 rfl rfl rfl ?_ | refine dL4 hS 5 rfl rfl rfl ?_ | refine dL5 hS 5 rfl rfl rfl ?_ | refine dL6 hS 5 rfl rfl rfl ?_ | refine dL7 hS 5 rfl rfl rfl ?_
  (try simp only [Act.put, nA, nB, nC])
  refine dP hS 6 rfl rfl ?_
  (try simp only [Act.put, nA, nB, nC])
  refine dA hS 7 rfl rfl rfl ?_
  (try simp only [Act.put, nA, nB, nC])
  refine dr_done (by kernel_rfl) ?_
  go_wp2_with (first | (refine oL ?_; (first | refine sL1 hS rfl rfl rfl ?_ | refine sL2 hS rfl rfl rfl ?_ | refine sL3 hS rfl rfl ?_ | refine sL4 hS rfl rfl ?_ | refine sL5 hS rfl rfl ?_ | refine sL6 hS rfl rfl ?_ | refine sL7 hS rfl rfl ?_)) | (refine oS ?_; ((first | refine sS1 hS rfl rfl rfl ?_ | refine sS2 hS rfl rfl rfl ?_ | refine sS3 hS rfl rfl rfl ?_ | refine sS4 hS rfl rfl rfl ?_ | refine sS5 hS rfl rfl rfl ?_); clear hS; intro w hS)) | ((first | (refine oB ?_; first | refine sB1 hS rfl rfl ?_ | refine sB2 hS rfl rfl ?_) | refine sN1 hS rfl ?_); clear hS; first | ((fail_if_success guard_hyp g1); intro g1 w hS) | ((fail_if_success guard_hyp g2); intro g2 w hS) | ((fail_if_success guard_hyp g3); intro g3 w hS) | ((fail_if_success guard_hyp g4); intro g4 w hS) | ((fail_if_success guard_hyp g5); intro g5 w hS) | fail) | fail)
  go_ret
  refine ⟨c, HC.out.1, ?_, hS.toExt⟩
  rw [hy]; rfl
/-- extended checkpoints, one of each process, are a consistent global checkpoint -/
def IsGlobal (p : Pat) (xs : List Int) : Prop := ∀ q, q < p.len.length → ∀ c, IsClk p q (ckIx p q (nth xs q)) c → ∀ s, s < p.len.length → s ≠ q → nth (vecN p c) s ≤ nth xs s
def GlobRes (p : Pat) (xs : List Int) (w0 : World) (e : Ending) (w' : World) : Prop := ∃ b : Bool, (b = true ↔ IsGlobal p xs) ∧ e = .returned (.bool b) ∧ Ext w0 w'
/-- of one process -/
def GlobQ (p : Pat) (xs : List Int) (q : Nat) : Prop := ∀ c, IsClk p q (ckIx p q (nth xs q)) c → ∀ s, s < p.len.length → s ≠ q → nth (vecN p c) s ≤ nth xs s
set_option maxRecDepth 100000 in
set_option maxHeartbeats 3200000 in
theorem global_any {S T : Nat → Prop} (v : PV) (p : Pat) (X : Option Addr) (cx : Nat) (xs : List Int) (w0 : World) (hp : PatAt S w0 v p) (hg : Good p) (hx : RI T w0 X xs) (hl : xs.length = p.len.length) (ha : ∀ q, q < p.len.length → CkOk p (q, nth xs q)) :
    Calls Try.prog 49 #[v.val p, .slice X p.len.length cx] w0 (GlobRes p xs w0) := by
  have hS := St.start w0 NoM
  have hn5 := hg.n5
  have hck := hg.ckl
  have HP := Lib.hid (And.intro hp (And.intro hg ha))
  have HL := Lib.hid hl
  have hck5 : p.ck.length ≤ 5 := by rw [hck]; exact hn5
  have HK := Lib.hid hck
  have h2 := hp.ck
  clear hp hg hl ha hck
  obtain ⟨A1, c1, A2, c2, A3, c3⟩ := v
  simp only [PV.val] at *
  have e0 : ((p.len.length : Int) != (p.len.length : Int)) = false := by simp
  go_enter Try.func49, Try.ntmps49
  go_wp2_with (first | (go_at_call 80; refine (check_good ⟨A1, c1, A2, c2, A3, c3⟩ p _ (HP.out.1.ext hS.toExt) HP.out.2.1).mono ?_; rintro e w ⟨rfl, hx1⟩; replace hS := hS.ext hx1) | (refine oL ?_; (first | refine sL1 hS rfl rfl rfl ?_ | refine sL2 hS rfl rfl rfl ?_ | refine sL3 hS rfl rfl ?_ | refine sL4 hS rfl rfl ?_ | refine sL5 hS rfl rfl ?_ | refine sL6 hS rfl rfl ?_ | refine sL7 hS rfl rfl ?_)) | (refine oS ?_; ((first | refine sS1 hS rfl rfl rfl ?_ | refine sS2 hS rfl rfl rfl ?_ | refine sS3 hS rfl rfl rfl ?_ | refine sS4 hS rfl rfl rfl ?_ | refine sS5 hS rfl rfl rfl ?_); clear hS; intro w hS)) | ((first | (refine oB ?_; first | refine sB1 hS rfl rfl ?_ | refine sB2 hS rfl rfl ?_) | refine sN1 hS rfl ?_); clear hS; first | ((fail_if_success guard_hyp g1); intro g1 w hS) | ((fail_if_success guard_hyp g2); intro g2 w hS) | ((fail_if_success guard_hyp g3); intro g3 w hS) | fail) | fail)
  clear e0
  go_loopw [25] (fun s25 wr => ∃ (k : Nat), k ≤ p.len.length ∧ s25 = .int .i64 k ∧ St w0 NoM [blk g1 [.slice A1 p.len.length c1, .slice A2 p.ck.length c2, .slice A3 p.arcs.length c3] 28] wr) (fun s25 _ => p.len.length - (intOf s25).toNat)
  case atStart => exact ⟨0, by omega, rfl, hS⟩
  case round =>
    obtain ⟨k, hk, rfl, hS⟩ := hrel
    by_cases hlt : k < p.len.length
    · obtain ⟨b1, o1, rfl, _, hca⟩ := hx.atNS (k := k) (by rw [HL.out]; exact hlt)
      have hckk : k < p.ck.length := by rw [HK.out]; exact hlt
      obtain ⟨b2, o2, B, cB, rfl, _, hcb, _, _, hrb⟩ := h2.atS hckk
      rw [← rowOf_eq hckk] at hcb hrb
      obtain ⟨_, ha0, ha1⟩ := HP.out.2.2 k hlt
      simp only at ha0 ha1
      generalize rowOf p.ck k = l at *
      generalize nth xs k = m at *
      have d1 : decide (m < 0) = false := decide_eq_false (by omega)
      have d2 : decide ((l.length : Int) < m) = false := decide_eq_false (by omega)
      have hk' : (k : Int) < p.ck.length := by omega
      go_wp2_with (first | (refine oL ?_; (first | refine sL1 hS rfl rfl rfl ?_ | refine sL2 hS rfl rfl rfl ?_ | refine sL3 hS rfl rfl ?_ | refine sL4 hS rfl rfl ?_ | refine sL5 hS rfl rfl ?_ | refine sL6 hS rfl rfl ?_ | refine sL7 hS rfl rfl ?_)) | (refine oS ?_; ((first | refine sS1 hS rfl rfl rfl ?_ | refine sS2 hS rfl rfl rfl ?_ | refine sS3 hS rfl rfl rfl ?_ | refine sS4 hS rfl rfl rfl ?_ | refine sS5 hS rfl rfl rfl ?_); clear hS; intro w hS)) | ((first | (refine oB ?_; first | refine sB1 hS rfl rfl ?_ | refine sB2 hS rfl rfl ?_) | refine sN1 hS rfl ?_); clear hS; first | ((fail_if_success guard_hyp g1); intro g1 w hS) | ((fail_if_success guard_hyp g2); intro g2 w hS) | ((fail_if_success guard_hyp g3); intro g3 w hS) | fail) | fail)
      go_roundw
      case measure => simp [intOf]; omega
      exact ⟨k + 1, by omega, by go_num, hS⟩
    · go_wp2_with (first | (refine oL ?_; (first | refine sL1 hS rfl rfl rfl ?_ | refine sL2 hS rfl rfl rfl ?_ | refine sL3 hS rfl rfl ?_ | refine sL4 hS rfl rfl ?_ | refine sL5 hS rfl rfl ?_ | refine sL6 hS rfl rfl ?_ | refine sL7 hS rfl rfl ?_)) | (refine oS ?_; ((first | refine sS1 hS rfl rfl rfl ?_ | refine sS2 hS rfl rfl rfl ?_ | refine sS3 hS rfl rfl rfl ?_ | refine sS4 hS rfl rfl rfl ?_ | refine sS5 hS rfl rfl rfl ?_); clear hS; intro w hS)) | ((first | (refine oB ?_; first | refine sB1 hS rfl rfl ?_ | refine sB2 hS rfl rfl ?_) | refine sN1 hS rfl ?_); clear hS; first | ((fail_if_success guard_hyp g1); intro g1 w hS) | ((fail_if_success guard_hyp g2); intro g2 w hS) | ((fail_if_success guard_hyp g3); intro g3 w hS) | fail) | fail)
      go_loopw [45] (fun s45 wr => ∃ (k : Nat), k ≤ p.len.length ∧ s45 = .int .i64 k ∧ Hid (∀ q, q < k → GlobQ p xs q) ∧ St w0 NoM [blk g1 [.slice A1 p.len.length c1, .slice A2 p.ck.length c2, .slice A3 p.arcs.length c3] 28] wr) (fun s45 _ => p.len.length - (intOf s45).toNat)
      case atStart => exact ⟨0, by omega, rfl, Lib.hid (fun q hq => absurd hq (by omega)), hS⟩
      case round =>
        clear hlt hk
        obtain ⟨k, hk, rfl, HQ, hS⟩ := hrel
        by_cases hlt : k < p.len.length
        · obtain ⟨b1, o1, hX, _, hca⟩ := hx.atNS (k := k) (by rw [HL.out]; exact hlt)
          subst hX
          have HA := Lib.hid (HP.out.2.2 k hlt)
          generalize hm : nth xs k = m at *
          go_wp2_with (first | (go_at_call 79; refine (extended_n rfl rfl rfl rfl (HP.out.1.ext hS.toExt) HP.out.2.1 HA.out).mono ?_; rintro e w ⟨c, x0, x1, x2, x3, x4, HC, rfl, hx1⟩; replace hS := hS.ext hx1) | (refine oL ?_; (first | refine sL1 hS rfl rfl rfl ?_ | refine sL2 hS rfl rfl rfl ?_ | refine sL3 hS rfl rfl ?_ | refine sL4 hS rfl rfl ?_ | refine sL5 hS rfl rfl ?_ | refine sL6 hS rfl rfl ?_ | refine sL7 hS rfl rfl ?_)) | (refine oS ?_; ((first | refine sS1 hS rfl rfl rfl ?_ | refine sS2 hS rfl rfl rfl ?_ | refine sS3 hS rfl rfl rfl ?_ | refine sS4 hS rfl rfl rfl ?_ | refine sS5 hS rfl rfl rfl ?_); clear hS; intro w hS)) | ((first | (refine oB ?_; first | refine sB1 hS rfl rfl ?_ | refine sB2 hS rfl rfl ?_) | refine sN1 hS rfl ?_); clear hS; first | ((fail_if_success guard_hyp g1); intro g1 w hS) | ((fail_if_success guard_hyp g2); intro g2 w hS) | ((fail_if_success guard_hyp g3); intro g3 w hS) | fail) | fail)
          go_loopw [57] (fun s57 wr => ∃ (j : Nat), j ≤ p.len.length ∧ s57 = .int .i64 j ∧ Hid (∀ s, s < j → s ≠ k → nth (vecN p c) s ≤ nth xs s) ∧ St w0 NoM [blk g2 [.int .i64 x0, .int .i64 x1, .int .i64 x2, .int .i64 x3, .int .i64 x4] 81, blk g1 [.slice A1 p.len.length c1, .slice A2 p.ck.length c2, .slice A3 p.arcs.length c3] 28] wr) (fun s57 _ => p.len.length - (intOf s57).toNat)
          case atStart => exact ⟨0, by omega, rfl, Lib.hid (fun q hq => absurd hq (by omega)), hS⟩
          case round =>
            obtain ⟨j, hj, rfl, HJ, hS⟩ := hrel
            by_cases hjl : j < p.len.length
            · obtain ⟨b3, o3, hX3, _, hcj⟩ := hx.atNS (k := j) (by rw [HL.out]; exact hjl)
              injection hX3 with hX3
              injection hX3 with e1 e2
              subst e1 e2
              have hcell := cell5 (q := j) HC.out.2 (by omega)
              rw [nth_vec5 hjl hn5, ← nth_vecN hjl] at hcell
              have hj5 : (j : Int) < 5 := by omega
              have hxj : Hid (nth xs j = nth xs j) := Lib.hid rfl
              generalize hy : nth (vecN p c) j = y at *
              generalize hz : nth xs j = z at *
              by_cases hjk : j = k
              · subst hjk
                have e1 : ((j : Int) != (j : Int)) = false := by simp
                go_wp2_with (first | (refine oL ?_; (first | refine sL1 hS rfl rfl rfl ?_ | refine sL2 hS rfl rfl rfl ?_ | refine sL3 hS rfl rfl ?_ | refine sL4 hS rfl rfl ?_ | refine sL5 hS rfl rfl ?_ | refine sL6 hS rfl rfl ?_ | refine sL7 hS rfl rfl ?_)) | (refine oS ?_; ((first | refine sS1 hS rfl rfl rfl ?_ | refine sS2 hS rfl rfl rfl ?_ | refine sS3 hS rfl rfl rfl ?_ | refine sS4 hS rfl rfl rfl ?_ | refine sS5 hS rfl rfl rfl ?_); clear hS; intro w hS)) | ((first | (refine oB ?_; first | refine sB1 hS rfl rfl ?_ | refine sB2 hS rfl rfl ?_) | refine sN1 hS rfl ?_); clear hS; first | ((fail_if_success guard_hyp g1); intro g1 w hS) | ((fail_if_success guard_hyp g2); intro g2 w hS) | ((fail_if_success guard_hyp g3); intro g3 w hS) | fail) | fail)
                go_roundw
                case measure => simp [intOf]; omega
                refine ⟨j + 1, by omega, by go_num, Lib.hid (fun s hs hne => HJ.out s (by omega) hne), hS⟩
              · have e1 : ((j : Int) != (k : Int)) = true := by simp; omega
                by_cases hyz : z < y
                · go_wp2_with (first | (refine oL ?_; refine sL1 hS rfl rfl hcell ?_) | (refine oL ?_; (first | refine sL1 hS rfl rfl rfl ?_ | refine sL2 hS rfl rfl rfl ?_ | refine sL3 hS rfl rfl ?_ | refine sL4 hS rfl rfl ?_ | refine sL5 hS rfl rfl ?_ | refine sL6 hS rfl rfl ?_ | refine sL7 hS rfl rfl ?_)) | (refine oS ?_; ((first | refine sS1 hS rfl rfl rfl ?_ | refine sS2 hS rfl rfl rfl ?_ | refine sS3 hS rfl rfl rfl ?_ | refine sS4 hS rfl rfl rfl ?_ | refine sS5 hS rfl rfl rfl ?_); clear hS; intro w hS)) | ((first | (refine oB ?_; first | refine sB1 hS rfl rfl ?_ | refine sB2 hS rfl rfl ?_) | refine sN1 hS rfl ?_); clear hS; first | ((fail_if_success guard_hyp g1); intro g1 w hS) | ((fail_if_success guard_hyp g2); intro g2 w hS) | ((fail_if_success guard_hyp g3); intro g3 w hS) | fail) | fail)
                  go_ret
                  refine ⟨false, ⟨fun h => (by cases h), fun h => ?_⟩, rfl, hS.toExt⟩
                  have := h k hlt c (by rw [hm]; exact HC.out.1) j hjl hjk
                  rw [hy, hz] at this
                  omega
                · go_wp2_with (first | (refine oL ?_; refine sL1 hS rfl rfl hcell ?_) | (refine oL ?_; (first | refine sL1 hS rfl rfl rfl ?_ | refine sL2 hS rfl rfl rfl ?_ | refine sL3 hS rfl rfl ?_ | refine sL4 hS rfl rfl ?_ | refine sL5 hS rfl rfl ?_ | refine sL6 hS rfl rfl ?_ | refine sL7 hS rfl rfl ?_)) | (refine oS ?_; ((first | refine sS1 hS rfl rfl rfl ?_ | refine sS2 hS rfl rfl rfl ?_ | refine sS3 hS rfl rfl rfl ?_ | refine sS4 hS rfl rfl rfl ?_ | refine sS5 hS rfl rfl rfl ?_); clear hS; intro w hS)) | ((first | (refine oB ?_; first | refine sB1 hS rfl rfl ?_ | refine sB2 hS rfl rfl ?_) | refine sN1 hS rfl ?_); clear hS; first | ((fail_if_success guard_hyp g1); intro g1 w hS) | ((fail_if_success guard_hyp g2); intro g2 w hS) | ((fail_if_success guard_hyp g3); intro g3 w hS) | fail) | fail)
                  go_roundw
                  case measure => simp [intOf]; omega
                  refine ⟨j + 1, by omega, by go_num, Lib.hid (fun s hs hne => ?_), hS⟩
                  by_cases hsj : s = j
                  · subst hsj; rw [hy, hz]; omega
                  · exact HJ.out s (by omega) hne
            · have hje : j = p.len.length := by omega
              subst hje
              go_wp2_with (first | (refine oL ?_; (first | refine sL1 hS rfl rfl rfl ?_ | refine sL2 hS rfl rfl rfl ?_ | refine sL3 hS rfl rfl ?_ | refine sL4 hS rfl rfl ?_ | refine sL5 hS rfl rfl ?_ | refine sL6 hS rfl rfl ?_ | refine sL7 hS rfl rfl ?_)) | (refine oS ?_; ((first | refine sS1 hS rfl rfl rfl ?_ | refine sS2 hS rfl rfl rfl ?_ | refine sS3 hS rfl rfl rfl ?_ | refine sS4 hS rfl rfl rfl ?_ | refine sS5 hS rfl rfl rfl ?_); clear hS; intro w hS)) | ((first | (refine oB ?_; first | refine sB1 hS rfl rfl ?_ | refine sB2 hS rfl rfl ?_) | refine sN1 hS rfl ?_); clear hS; first | ((fail_if_success guard_hyp g1); intro g1 w hS) | ((fail_if_success guard_hyp g2); intro g2 w hS) | ((fail_if_success guard_hyp g3); intro g3 w hS) | fail) | fail)
              go_roundw
              case measure => simp [intOf]; omega
              refine ⟨k + 1, by omega, by go_num, Lib.hid (fun q hq => ?_), hS.re⟩
              by_cases hqk : q = k
              · subst hqk
                intro c' hc' s hs hne
                rw [hm] at hc'
                rw [hc'.unique HC.out.1]
                exact HJ.out s hs hne
              · exact HQ.out q (by omega)
        · have hke : k = p.len.length := by omega
          subst hke
          go_wp2_with (first | (refine oL ?_; (first | refine sL1 hS rfl rfl rfl ?_ | refine sL2 hS rfl rfl rfl ?_ | refine sL3 hS rfl rfl ?_ | refine sL4 hS rfl rfl ?_ | refine sL5 hS rfl rfl ?_ | refine sL6 hS rfl rfl ?_ | refine sL7 hS rfl rfl ?_)) | (refine oS ?_; ((first | refine sS1 hS rfl rfl rfl ?_ | refine sS2 hS rfl rfl rfl ?_ | refine sS3 hS rfl rfl rfl ?_ | refine sS4 hS rfl rfl rfl ?_ | refine sS5 hS rfl rfl rfl ?_); clear hS; intro w hS)) | ((first | (refine oB ?_; first | refine sB1 hS rfl rfl ?_ | refine sB2 hS rfl rfl ?_) | refine sN1 hS rfl ?_); clear hS; first | ((fail_if_success guard_hyp g1); intro g1 w hS) | ((fail_if_success guard_hyp g2); intro g2 w hS) | ((fail_if_success guard_hyp g3); intro g3 w hS) | fail) | fail)
          go_ret
          exact ⟨true, ⟨fun _ => HQ.out, fun _ => rfl⟩, rfl, hS.toExt⟩
end Go.Proofs.Ytkflmichekpfbaa
