/- causal.Past. Conditions: the pattern is good and lies in memory, the points are points of it. -/
import Derived.Test.YtkflmichekpfbaaGf
namespace Go.Proofs.Ytkflmichekpfbaa
open Go.RowKit
set_option linter.unusedVariables false
set_option linter.unusedSimpArgs false
set_option linter.unusedSectionVars false

set_option maxRecDepth 100000 in
set_option maxHeartbeats 3200000 in
theorem past_any {S T : Nat → Prop} (v : PV) (p : Pat) (X : Option Addr) (cx : Nat) (l : List (Nat × Int)) (w0 : World) (hp : PatAt S w0 v p) (hg : Good p) (hx : RPt T w0 X l) (hl : ∀ a ∈ l, PtOk p a) (hll : l.length ≤ 1000000) :
    Calls Try.prog 25 #[v.val p, .slice X l.length cx] w0 fun e w' => ∃ zs, IsPast p l zs ∧ RetRow w0 3 1 p.len.length (ints zs) e w' := by
  have hS := St.start w0 NoM
  obtain ⟨rk, _, hr, _⟩ := hg.rank
  have hn5 := hg.n5
  have hfew := hg.few
  have HP := Lib.hid (And.intro hp (And.intro hg (And.intro hl hr)))
  clear hp hg hl hr
  obtain ⟨A1, c1, A2, c2, A3, c3⟩ := v
  simp only [PV.val] at *
  go_enter Try.func25, Try.ntmps25
  go_wp2_with (first | (go_at_call 62; refine (cfits_any ⟨A1, c1, A2, c2, A3, c3⟩ _ _ p l _ (HP.out.1.ext hS.toExt) HP.out.2.1 (hx.into (Into.ofExt hS.toExt)) HP.out.2.2.1 hll).mono ?_; rintro e w ⟨rfl, hx1⟩; replace hS := hS.ext hx1) | (go_at_call 63; refine (newHist_any A1 A2 A3 c1 c2 c3 p.len.length p.ck.length p.arcs _ (HP.out.1.ext hS.toExt).arcs (by omega)).mono ?_; rintro e w ⟨gh, gs, gc, rfl, hH, z1, z2, z3, hx1⟩; replace hS := hS.addHist hx1 hH z1 z2 z3; have HD := Lib.hid (And.intro hH.d1 (And.intro hH.d2 hH.d3)); clear hH z1 z2 z3 hx1) | (refine oL ?_; (first | refine sL1 hS rfl rfl rfl ?_ | refine sL2 hS rfl rfl rfl ?_ | refine sL3 hS rfl rfl ?_ | refine sL4 hS rfl rfl ?_ | refine sL5 hS rfl rfl ?_ | refine sL6 hS rfl rfl ?_ | refine sL7 hS rfl rfl ?_)) | (refine oS ?_; ((first | refine sS1 hS rfl rfl rfl ?_ | refine sS2 hS rfl rfl rfl ?_ | refine sS3 hS rfl rfl rfl ?_ | refine sS4 hS rfl rfl rfl ?_ | refine sS5 hS rfl rfl rfl ?_); clear hS; intro w hS)) | ((first | (refine oB ?_; first | refine sB1 hS rfl rfl ?_ | refine sB2 hS rfl rfl ?_) | refine sN1 hS rfl ?_ | refine sM1 hS rfl rfl rfl ?_); clear hS; first | ((fail_if_success guard_hyp g1); intro g1 w hS) | ((fail_if_success guard_hyp g2); intro g2 w hS) | ((fail_if_success guard_hyp g3); intro g3 w hS) | ((fail_if_success guard_hyp g4); intro g4 w hS) | fail) | fail)
  replace hS := hS.frozNil
  go_loopw [21] (fun s21 wr => ∃ (j : Nat) (zs : List Int) (cm : Int × Int → Option Value) (T : Nat → Prop) (u : World), j ≤ l.length ∧ zs.length = p.len.length ∧ s21 = .int .i64 j ∧ Hid (IsPast p (l.take j) zs ∧ Memo p T u cm) ∧ St w0 NoM [froz T u, mpc gc cm, mpc gs (srcM p.arcs), row (.slice (some ⟨g2, 0, none⟩) p.len.length p.len.length) 3 1 p.len.length (ints zs), blk gh [.slice A1 p.len.length c1, .map (some gs), .map (some gc)] 75, blk g1 [.slice A1 p.len.length c1, .slice A2 p.ck.length c2, .slice A3 p.arcs.length c3] 28] wr) (fun s21 _ => l.length - (intOf s21).toNat)
  case atStart => exact ⟨0, List.replicate p.len.length 0, fun _ => none, fun _ => False, w, by omega, by simp, rfl, Lib.hid ⟨by rw [List.take_zero]; exact past_nil HP.out.2.1, Memo.none _ _ _⟩, hS.re⟩
  case round =>
    obtain ⟨j, zs, cm, T1, u, hj, hzl, rfl, HI, hS⟩ := hrel
    have HZ := Lib.hid hzl
    clear hzl
    by_cases hlt : j < l.length
    · obtain ⟨b2, o2, rfl, _, hcs⟩ := hx.fcs hlt
      have ho := HP.out.2.2.1 _ (List.getElem_mem hlt)
      have HT := Lib.hid (List.take_succ_eq_append_getElem hlt)
      have HL := Lib.hid (fun a (ha : a ∈ l.take j) => (HP.out.2.2.1 a (List.mem_of_mem_take ha)).1)
      generalize l[j] = a at *
      obtain ⟨q, k⟩ := a
      simp only [ptCells] at *
      go_wp2_with (first | (refine oL ?_; (first | refine sL1 hS rfl rfl rfl ?_ | refine sL2 hS rfl rfl rfl ?_ | refine sL3 hS rfl rfl ?_ | refine sL4 hS rfl rfl ?_ | refine sL5 hS rfl rfl ?_ | refine sL6 hS rfl rfl ?_ | refine sL7 hS rfl rfl ?_)) | (refine oS ?_; ((first | refine sS1 hS rfl rfl rfl ?_ | refine sS2 hS rfl rfl rfl ?_ | refine sS3 hS rfl rfl rfl ?_ | refine sS4 hS rfl rfl rfl ?_ | refine sS5 hS rfl rfl rfl ?_); clear hS; intro w hS)) | ((first | (refine oB ?_; first | refine sB1 hS rfl rfl ?_ | refine sB2 hS rfl rfl ?_) | refine sN1 hS rfl ?_ | refine sM1 hS rfl rfl rfl ?_); clear hS; first | ((fail_if_success guard_hyp g1); intro g1 w hS) | ((fail_if_success guard_hyp g2); intro g2 w hS) | ((fail_if_success guard_hyp g3); intro g3 w hS) | ((fail_if_success guard_hyp g4); intro g4 w hS) | fail) | fail)
      go_at_call 64
      refine (clock_rec p HP.out.2.1 rk HP.out.2.2.2 gh gs gc A1 c1 _ q k T1 cm w (Nat.lt_succ_self _) ho (hS.hist HD.out.1 HD.out.2.1 HD.out.2.2) (hS.frozOff (T := T1) (u := u)) (HI.out.2.into hS.frozInto)).mono ?_
      rintro e u1 ⟨L1, cap1, cl, cm1, rfl, hclk, hri, hcap, hm1, hm2, hmm, hkeep⟩
      replace hS := hS.usedH hkeep hm1 hm2
      have hin : Into (Orn T1 w) (fun b => (w.heap.size ≤ b ∧ b < u1.heap.size) ∨ T1 b) u1 u1 := fun b hb hl => ⟨by rcases hb with hb | hb; exact .inr hb; exact .inl ⟨hb, hl⟩, rfl⟩
      obtain ⟨T2, hS', _, hi2⟩ := hS.merge (T := T1) (u := u) (fun b => w.heap.size ≤ b ∧ b < u1.heap.size) u1 (hS.intoK (T := T1) (u := u))
      replace hS := hS'
      clear hS'
      replace hri := (hri.into hin).into hi2
      replace hmm := (hmm.into hin).into hi2
      have HC := Lib.hid hclk
      have HCL := Lib.hid hclk.len
      have hoff : ∀ b, T2 b → b ≠ g2 := hS.offRow (c := froz T2 u1)
      go_wp2_with (first | (go_at_call 67; refine (raise_st hS HZ.out hri hoff HCL.out (by omega)).mono ?_; rintro e w ⟨rfl, hS⟩) | (refine oL ?_; (first | refine sL1 hS rfl rfl rfl ?_ | refine sL2 hS rfl rfl rfl ?_ | refine sL3 hS rfl rfl ?_ | refine sL4 hS rfl rfl ?_ | refine sL5 hS rfl rfl ?_ | refine sL6 hS rfl rfl ?_ | refine sL7 hS rfl rfl ?_)) | (refine oS ?_; ((first | refine sS1 hS rfl rfl rfl ?_ | refine sS2 hS rfl rfl rfl ?_ | refine sS3 hS rfl rfl rfl ?_ | refine sS4 hS rfl rfl rfl ?_ | refine sS5 hS rfl rfl rfl ?_); clear hS; intro w hS)) | ((first | (refine oB ?_; first | refine sB1 hS rfl rfl ?_ | refine sB2 hS rfl rfl ?_) | refine sN1 hS rfl ?_ | refine sM1 hS rfl rfl rfl ?_); clear hS; first | ((fail_if_success guard_hyp g1); intro g1 w hS) | ((fail_if_success guard_hyp g2); intro g2 w hS) | ((fail_if_success guard_hyp g3); intro g3 w hS) | ((fail_if_success guard_hyp g4); intro g4 w hS) | fail) | fail)
      go_roundw
      case measure => simp [intOf]; omega
      exact ⟨j + 1, List.zipWith max zs cl, cm1, T2, u1, by omega, by simp [HZ.out, HCL.out], by go_num, Lib.hid ⟨by rw [HT.out]; exact past_snoc HP.out.2.1 HL.out ho.1 HI.out.1 hclk, hmm⟩, hS.re⟩
    · go_wp2_with (first | (refine oL ?_; (first | refine sL1 hS rfl rfl rfl ?_ | refine sL2 hS rfl rfl rfl ?_ | refine sL3 hS rfl rfl ?_ | refine sL4 hS rfl rfl ?_ | refine sL5 hS rfl rfl ?_ | refine sL6 hS rfl rfl ?_ | refine sL7 hS rfl rfl ?_)) | (refine oS ?_; ((first | refine sS1 hS rfl rfl rfl ?_ | refine sS2 hS rfl rfl rfl ?_ | refine sS3 hS rfl rfl rfl ?_ | refine sS4 hS rfl rfl rfl ?_ | refine sS5 hS rfl rfl rfl ?_); clear hS; intro w hS)) | ((first | (refine oB ?_; first | refine sB1 hS rfl rfl ?_ | refine sB2 hS rfl rfl ?_) | refine sN1 hS rfl ?_ | refine sM1 hS rfl rfl rfl ?_); clear hS; first | ((fail_if_success guard_hyp g1); intro g1 w hS) | ((fail_if_success guard_hyp g2); intro g2 w hS) | ((fail_if_success guard_hyp g3); intro g3 w hS) | ((fail_if_success guard_hyp g4); intro g4 w hS) | fail) | fail)
      go_ret
      have hi := HI.out.1
      rw [List.take_of_length_le (by omega)] at hi
      exact ⟨zs, hi, hS.ret rfl⟩
theorem past_n {S T : Nat → Prop} {A1 A2 A3 X : Option Addr} {c1 c2 c3 n1 n2 n3 n cx : Nat} {p : Pat} {l : List (Nat × Int)} {w : World} (e1 : p.len.length = n1) (e2 : p.ck.length = n2) (e3 : p.arcs.length = n3) (hn : l.length = n) (hp : PatAt S w ⟨A1, c1, A2, c2, A3, c3⟩ p) (hg : Good p) (hx : RPt T w X l) (hl : ∀ a ∈ l, PtOk p a) (hll : n ≤ 1000000) :
    Calls Try.prog 25 #[.agg #[.slice A1 n1 c1, .slice A2 n2 c2, .slice A3 n3 c3], .slice X n cx] w fun e w' => ∃ zs, IsPast p l zs ∧ zs.length = n1 ∧ RetRow w 3 1 n1 (ints zs) e w' := by
  subst e1 e2 e3 hn
  refine (past_any ⟨A1, c1, A2, c2, A3, c3⟩ p X cx l w hp hg hx hl hll).mono ?_
  rintro e w' ⟨zs, h1, h2⟩
  exact ⟨zs, h1, h1.len, h2⟩
end Go.Proofs.Ytkflmichekpfbaa
