/- TwophaseMutual returns true for every input. No condition. -/
import Derived.Test.YtmjmdncdmmcmaaaTwE
namespace Go.Proofs.Ytmjmdncdmmcmaaa
open Go.RowKit
set_option linter.unusedVariables false
set_option linter.unusedSimpArgs false
set_option linter.unusedSectionVars false

theorem rch_mutual {p : Pat} (hg : Good p) {a b : Nat} (ha : a < p.len.length) : Rch (srcL p) a b → Rch (undL p) b a := by
  intro h
  induction h with
  | here => exact .here
  | @step x y h1 hy ih =>
    have hx : x < p.len.length := by
      refine h1.closed (P := fun z => z < p.len.length) ha (fun z hz y hy => ?_)
      exact (srcL_mem.1 hy).1
    exact (Rch.step .here (undL_mem.2 ⟨hx, hy⟩)).trans ih
theorem rch_mutual' {p : Pat} (hg : Good p) {a b : Nat} (hb : b < p.len.length) : Rch (undL p) b a → Rch (srcL p) a b := by
  intro h
  induction h with
  | here => exact .here
  | @step x y h1 hy ih => exact (Rch.step .here (undL_mem.1 hy).2).trans ih
theorem mutual_iff {p : Pat} (hg : Good p) {a b : Nat} (ha : a < p.len.length) (hb : b < p.len.length) {l m : List Nat} (hl : IsRch (srcL p) a l) (hm : IsRch (undL p) b m) : decide ((a : Int) ∈ nats m) = decide ((b : Int) ∈ nats l) := by
  have h1 : (a : Int) ∈ nats m ↔ a ∈ m := by
    rw [nats_mem]; constructor
    · rintro ⟨k, hk, e⟩; rw [← (show k = a by omega)]; exact hk
    · intro h; exact ⟨a, h, rfl⟩
  have h2 : (b : Int) ∈ nats l ↔ b ∈ l := by
    rw [nats_mem]; constructor
    · rintro ⟨k, hk, e⟩; rw [← (show k = b by omega)]; exact hk
    · intro h; exact ⟨b, h, rfl⟩
  have : (a : Int) ∈ nats m ↔ (b : Int) ∈ nats l := by
    rw [h1, h2, hl.mem, hm.mem]
    exact ⟨rch_mutual' hg hb, rch_mutual hg ha⟩
  simp only [this]
/-- those of l have gone back -/
def BackTo (p : Pat) (l : List Nat) (xs : List Int) : Prop := xs.length = p.len.length ∧ ∀ q, q < p.len.length → nth xs q = if q ∈ l then lastC p q else nth p.len q
theorem BackTo.start (p : Pat) : BackTo p [] p.len := ⟨rfl, fun q hq => by simp⟩
theorem BackTo.step {p : Pat} {l : List Nat} {xs : List Int} (h : BackTo p l xs) {q : Nat} (hq : q < p.len.length) : BackTo p (l ++ [q]) (xs.set q (lastC p q)) := by
  refine ⟨by rw [List.length_set]; exact h.1, fun r hr => ?_⟩
  rw [nth_set (by rw [h.1]; exact hq)]
  by_cases e : q = r
  · subst e; simp
  · rw [if_neg e, h.2 r hr]
    have : r ∈ l ++ [q] ↔ r ∈ l := by simp; intro h; exact absurd h.symm e
    simp only [this]
theorem BackTo.valid {p : Pat} (hg : Good p) {l : List Nat} {xs : List Int} (h : BackTo p l xs) : validB p.len xs = true := valid_iff.2 ⟨h.1, fun k hk => by
  rw [h.2 k hk]
  have := lastC_bd hg hk
  split
  · exact this
  · exact ⟨hg.lo k hk, Int.le_refl _⟩⟩
theorem BackTo.cons {p : Pat} (hg : Good p) {b : Nat} {l : List Nat} {xs : List Int} (h : BackTo p l xs) (hl : IsRch (undL p) b l) (hc : consB p.arcs (lastsL p) = true) : consB p.arcs xs = true := by
  refine cons_iff.2 (fun a ha h0 h1 => ?_)
  have hk := hg.arc a ha
  rw [h.2 _ hk.to] at h1
  rw [h.2 _ hk.fr]
  by_cases hf : a.fr ∈ l
  · rw [if_pos hf]
    refine Classical.byContradiction (fun hn => ?_)
    have hs : isSrc p a.fr a.to = true := isSrc_iff.2 ⟨a, ha, rfl, by simp [srcB]; omega⟩
    have ht : a.to ∈ l := (hl.mem _).2 (((hl.mem _).1 hf).step (undL_mem.2 ⟨hk.to, srcL_mem.2 ⟨hk.fr, hs⟩⟩))
    rw [if_pos ht, ← lastsL_at hk.to] at h1
    have := cons_iff.1 hc a ha h0 h1
    rw [lastsL_at hk.fr] at this
    exact hn this
  · rw [if_neg hf]; exact hk.ix1
set_option maxRecDepth 100000 in
set_option maxHeartbeats 6400000 in
theorem twophaseMutual_any (C : Option Addr) (f : Nat) (bs : List Int) (z0 : Int) (w0 : World) (hbs : RV (fun b => b < w0.heap.size) w0 C (bytes bs)) (hf : bs.length ≤ f) (hf' : f ≤ 9223372036854775807) (hby : ∀ b ∈ bs, 0 ≤ b ∧ b ≤ 255) (hz0 : -9223372036854775808 ≤ z0 ∧ z0 ≤ 9223372036854775807) :
    Calls Try.prog 6 #[.slice C bs.length f, .int .i64 z0] w0 fun e w' => e = .returned (.bool true) ∧ Ext w0 w' := by
  have hS := St.start w0 NoM
  have HBY := Lib.hid (And.intro hby hbs)
  clear hby hbs
  go_enter Try.func6, Try.ntmps6
  go_wp2_with (first | (go_at_call 21; refine (awake24_any _).mono ?_; rintro e w ⟨rfl, hx1⟩; replace hS := hS.ext hx1; clear hx1) | (go_at_call 22; refine (draw24_any C f bs _ ((HBY.out.2.below hS.toExt).sub (fun b hb => Nat.lt_of_lt_of_le hb hS.le)) hf hf' HBY.out.1).mono ?_; rintro e w2 ⟨⟨A1, c1, A2, c2, A3, c3⟩, p, rfl, hsm, hpa, hx1⟩; simp only [PV.val]; obtain ⟨T, hS2, hpa2⟩ := frozOf hS hx1 hpa; clear hS hx1 hpa; have hS := hS2; clear hS2; have HG := Lib.hid hsm.good; have HPA := Lib.hid hpa2; have hn2 := hsm.good.n2; have hn5 := hsm.good.n5; have hfew := hsm.good.few; clear hsm hpa2) | (refine oL ?_; (first | refine sL1 hS rfl rfl rfl ?_ | refine sL2 hS rfl rfl rfl ?_ | refine sL3 hS rfl rfl ?_ | refine sL4 hS rfl rfl ?_ | refine sL5 hS rfl rfl ?_ | refine sL6 hS rfl rfl ?_ | refine sL7 hS rfl rfl ?_)) | (refine oS ?_; ((first | refine sS1 hS rfl rfl rfl ?_ | refine sS2 hS rfl rfl rfl ?_ | refine sS3 hS rfl rfl rfl ?_ | refine sS4 hS rfl rfl rfl ?_ | refine sS5 hS rfl rfl rfl ?_); clear hS; intro w hS)) | (refine oP ?_; ((first | refine sP1 hS rfl rfl rfl ?_ | refine sP2 hS rfl rfl rfl ?_ | refine sP3 hS rfl rfl rfl ?_); clear hS; first | ((fail_if_success guard_hyp L1); intro L1 cl1 w hL1 hM1 hS) | ((fail_if_success guard_hyp L2); intro L2 cl2 w hL2 hM2 hS) | fail)) | ((first | refine sN1 hS rfl ?_); clear hS; first | ((fail_if_success guard_hyp g1); intro g1 w hS) | ((fail_if_success guard_hyp g2); intro g2 w hS) | fail) | fail)
  clear HBY
  go_loopw [7, 8, 9] (fun s7 s8 s9 wr => ∃ (a : Nat), a ≤ p.len.length ∧ s7 = .int .i64 a ∧ St w0 NoM [froz T w2, blk g1 [.slice A1 p.len.length c1, .slice A2 p.ck.length c2, .slice A3 p.arcs.length c3] 44] wr) (fun s7 _ _ _ => p.len.length - (intOf s7).toNat)
  case atStart => exact ⟨0, by omega, rfl, hS.re⟩
  case round =>
    clear hS
    obtain ⟨a, ha, rfl, hS⟩ := hrel
    by_cases hal : a < p.len.length
    · have hal' : (a : Int) < p.len.length := by omega
      go_wp2_with (first | (go_at_call 23; refine (least_any ⟨A1, c1, A2, c2, A3, c3⟩ p a _ (HPA.out.into hS.frozInto) HG.out hal).mono ?_; rintro e w ⟨m, hm, L, cL, rfl, ho, hx1⟩; replace hS := hS.addRow ho hx1; clear ho hx1; have HM := Lib.hid hm; clear hm) | (refine oL ?_; (first | refine sL1 hS rfl rfl rfl ?_ | refine sL2 hS rfl rfl rfl ?_ | refine sL3 hS rfl rfl ?_ | refine sL4 hS rfl rfl ?_ | refine sL5 hS rfl rfl ?_ | refine sL6 hS rfl rfl ?_ | refine sL7 hS rfl rfl ?_)) | (refine oS ?_; ((first | refine sS1 hS rfl rfl rfl ?_ | refine sS2 hS rfl rfl rfl ?_ | refine sS3 hS rfl rfl rfl ?_ | refine sS4 hS rfl rfl rfl ?_ | refine sS5 hS rfl rfl rfl ?_); clear hS; intro w hS)) | (refine oP ?_; ((first | refine sP1 hS rfl rfl rfl ?_ | refine sP2 hS rfl rfl rfl ?_ | refine sP3 hS rfl rfl rfl ?_); clear hS; first | ((fail_if_success guard_hyp L1); intro L1 cl1 w hL1 hM1 hS) | ((fail_if_success guard_hyp L2); intro L2 cl2 w hL2 hM2 hS) | fail)) | ((first | refine sN1 hS rfl ?_); clear hS; first | ((fail_if_success guard_hyp g1); intro g1 w hS) | ((fail_if_success guard_hyp g2); intro g2 w hS) | fail) | fail)
      have hml : m.length ≤ 5 := by
        have := nodup_lt_len p.len.length m (HM.out.asc.imp (fun h => by omega)) (fun x hx => ((HM.out.mem x).1 hx).closed (P := fun z => z < p.len.length) hal (fun z _ y hy => (srcL_mem.1 hy).1))
        omega
      go_loopw [9] (fun s9 wr => ∃ (b : Nat), b ≤ p.len.length ∧ s9 = .int .i64 b ∧ St w0 NoM [row (.slice L m.length cL) 3 1 m.length (ints (nats m)), froz T w2, blk g1 [.slice A1 p.len.length c1, .slice A2 p.ck.length c2, .slice A3 p.arcs.length c3] 44] wr) (fun s9 _ => p.len.length - (intOf s9).toNat)
      case atStart => exact ⟨0, by omega, rfl, hS.re⟩
      case round =>
        clear hS
        obtain ⟨b, hb, rfl, hS⟩ := hrel
        by_cases hbl : b < p.len.length
        · have hbl' : (b : Int) < p.len.length := by omega
          have HMU := Lib.hid (fun m2 (h : IsRch (undL p) b m2) => mutual_iff HG.out hal hbl HM.out h)
          have HNL := Lib.hid (show (nats m).length = m.length by simp)
          generalize hd1 : decide ((b : Int) ∈ nats m) = d1 at *
          have HD1 := Lib.hid hd1
          clear hd1
          go_upto_region 12 with (first | (refine oL ?_; (first | refine sL1 hS rfl rfl rfl ?_ | refine sL2 hS rfl rfl rfl ?_ | refine sL3 hS rfl rfl ?_ | refine sL4 hS rfl rfl ?_ | refine sL5 hS rfl rfl ?_ | refine sL6 hS rfl rfl ?_ | refine sL7 hS rfl rfl ?_)) | (refine oS ?_; ((first | refine sS1 hS rfl rfl rfl ?_ | refine sS2 hS rfl rfl rfl ?_ | refine sS3 hS rfl rfl rfl ?_ | refine sS4 hS rfl rfl rfl ?_ | refine sS5 hS rfl rfl rfl ?_); clear hS; intro w hS)) | (refine oP ?_; ((first | refine sP1 hS rfl rfl rfl ?_ | refine sP2 hS rfl rfl rfl ?_ | refine sP3 hS rfl rfl rfl ?_); clear hS; first | ((fail_if_success guard_hyp L1); intro L1 cl1 w hL1 hM1 hS) | ((fail_if_success guard_hyp L2); intro L2 cl2 w hL2 hM2 hS) | fail)) | ((first | refine sN1 hS rfl ?_); clear hS; first | ((fail_if_success guard_hyp g1); intro g1 w hS) | ((fail_if_success guard_hyp g2); intro g2 w hS) | fail) | fail)
          refine dr_start0 []  hS (by kernel_rfl) rfl ?_; clear hS; intro w hS
          refine dM hS 0 rfl rfl rfl ?_
          (try simp only [Act.put, nA, nB, nC])
          refine dM hS 1 rfl rfl rfl ?_
          (try simp only [Act.put, nA, nB, nC])
          first | refine dL1 hS 3 rfl rfl rfl rfl ?_ | refine dL2 hS 3 rfl rfl rfl rfl ?_ | refine dL3 hS 3 rfl rfl rfl ?_ | refine dL4 hS 3 rfl rfl rfl ?_ | refine dL5 hS 3 rfl rfl rfl ?_ | refine dL6 hS 3 rfl rfl rfl ?_ | refine dL7 hS 3 rfl rfl rfl ?_
          (try simp only [Act.put, nA, nB, nC])
          refine dM hS 4 rfl rfl rfl ?_
          (try simp only [Act.put, nA, nB, nC])
          refine dM hS 6 rfl rfl rfl ?_
          (try simp only [Act.put, nA, nB, nC])
          refine dr_one 2 (by kernel_rfl) rfl ?_
          (refine st_call rfl (by kernel_rfl) rfl ?_; go_at_call 25; refine (in24_any (S := All) L cL m.length (nats m) (b : Int) _ hS.ri HNL.out (by omega)).mono ?_; rintro e w ⟨rfl, hx1⟩; replace hS := hS.ext hx1; clear hx1; rw [HD1.out])
          (try simp only [Act.put, nA, nB, nC])
          refine dr_end hS ?_
          refine dr_one 5 (by kernel_rfl) rfl ?_
          (refine st_call rfl (by kernel_rfl) rfl ?_; go_at_call 26; refine (undo_any ⟨A1, c1, A2, c2, A3, c3⟩ p b _ (HPA.out.into hS.frozInto) HG.out hbl).mono ?_; rintro e w ⟨m2, hm2, L2, cL2, rfl, ho, hx1⟩; replace hS := hS.addRow ho hx1; clear ho hx1; have HM2 := Lib.hid hm2; clear hm2)
          (try simp only [Act.put, nA, nB, nC])
          refine dr_end hS ?_
          refine dr_one 7 (by kernel_rfl) rfl ?_
          (refine st_call rfl (by kernel_rfl) rfl ?_; go_at_call 25; refine (in24_any (S := All) L2 cL2 m2.length (nats m2) (a : Int) _ hS.ri (by simp) (by have := nodup_lt_len p.len.length m2 (HM2.out.asc.imp (fun h => by omega)) (fun x hx => ((HM2.out.mem x).1 hx).closed (P := fun z => z < p.len.length) hbl (fun z _ y hy => (undL_mem.1 hy).1)); omega)).mono ?_; rintro e w ⟨rfl, hx1⟩; replace hS := hS.ext hx1; clear hx1; rw [HMU.out m2 HM2.out])
          (try simp only [Act.put, nA, nB, nC])
          refine dr_end hS ?_
          refine dP hS 8 rfl rfl ?_
          (try simp only [Act.put, nA, nB, nC])
          refine dr_done (by kernel_rfl) ?_
          all_goals
            go_wp2_with (first | (refine oL ?_; (first | refine sL1 hS rfl rfl rfl ?_ | refine sL2 hS rfl rfl rfl ?_ | refine sL3 hS rfl rfl ?_ | refine sL4 hS rfl rfl ?_ | refine sL5 hS rfl rfl ?_ | refine sL6 hS rfl rfl ?_ | refine sL7 hS rfl rfl ?_)) | (refine oS ?_; ((first | refine sS1 hS rfl rfl rfl ?_ | refine sS2 hS rfl rfl rfl ?_ | refine sS3 hS rfl rfl rfl ?_ | refine sS4 hS rfl rfl rfl ?_ | refine sS5 hS rfl rfl rfl ?_); clear hS; intro w hS)) | (refine oP ?_; ((first | refine sP1 hS rfl rfl rfl ?_ | refine sP2 hS rfl rfl rfl ?_ | refine sP3 hS rfl rfl rfl ?_); clear hS; first | ((fail_if_success guard_hyp L1); intro L1 cl1 w hL1 hM1 hS) | ((fail_if_success guard_hyp L2); intro L2 cl2 w hL2 hM2 hS) | fail)) | ((first | refine sN1 hS rfl ?_); clear hS; first | ((fail_if_success guard_hyp g1); intro g1 w hS) | ((fail_if_success guard_hyp g2); intro g2 w hS) | fail) | fail)
            go_roundw
            case measure => simp [intOf]; try omega
            exact ⟨b + 1, by omega, by go_num, hS.re⟩
        · have hbl' : ¬ (b : Int) < p.len.length := by omega
          go_wp2_with (first | (refine oL ?_; (first | refine sL1 hS rfl rfl rfl ?_ | refine sL2 hS rfl rfl rfl ?_ | refine sL3 hS rfl rfl ?_ | refine sL4 hS rfl rfl ?_ | refine sL5 hS rfl rfl ?_ | refine sL6 hS rfl rfl ?_ | refine sL7 hS rfl rfl ?_)) | (refine oS ?_; ((first | refine sS1 hS rfl rfl rfl ?_ | refine sS2 hS rfl rfl rfl ?_ | refine sS3 hS rfl rfl rfl ?_ | refine sS4 hS rfl rfl rfl ?_ | refine sS5 hS rfl rfl rfl ?_); clear hS; intro w hS)) | (refine oP ?_; ((first | refine sP1 hS rfl rfl rfl ?_ | refine sP2 hS rfl rfl rfl ?_ | refine sP3 hS rfl rfl rfl ?_); clear hS; first | ((fail_if_success guard_hyp L1); intro L1 cl1 w hL1 hM1 hS) | ((fail_if_success guard_hyp L2); intro L2 cl2 w hL2 hM2 hS) | fail)) | ((first | refine sN1 hS rfl ?_); clear hS; first | ((fail_if_success guard_hyp g1); intro g1 w hS) | ((fail_if_success guard_hyp g2); intro g2 w hS) | fail) | fail)
          go_roundw
          case measure => simp [intOf]; try omega
          exact ⟨a + 1, by omega, by go_num, hS.re⟩
    · have hal' : ¬ (a : Int) < p.len.length := by omega
      go_wp2_with (first | (refine oP ?_; refine st_appON hS rfl rfl rfl (HPA.out.len.into hS.frozInto) rfl (by omega) ?_; clear hS; intro LX kX w hLX hMX hS) | (go_at_call 27; refine (lasts_any ⟨A1, c1, A2, c2, A3, c3⟩ p _ (HPA.out.into hS.frozInto) HG.out).mono ?_; rintro e w ⟨LB, kB, rfl, ho, hx1⟩; replace hS := hS.addRow ho hx1; clear ho hx1) | (refine oL ?_; (first | refine sL1 hS rfl rfl rfl ?_ | refine sL2 hS rfl rfl rfl ?_ | refine sL3 hS rfl rfl ?_ | refine sL4 hS rfl rfl ?_ | refine sL5 hS rfl rfl ?_ | refine sL6 hS rfl rfl ?_ | refine sL7 hS rfl rfl ?_)) | (refine oS ?_; ((first | refine sS1 hS rfl rfl rfl ?_ | refine sS2 hS rfl rfl rfl ?_ | refine sS3 hS rfl rfl rfl ?_ | refine sS4 hS rfl rfl rfl ?_ | refine sS5 hS rfl rfl rfl ?_); clear hS; intro w hS)) | (refine oP ?_; ((first | refine sP1 hS rfl rfl rfl ?_ | refine sP2 hS rfl rfl rfl ?_ | refine sP3 hS rfl rfl rfl ?_); clear hS; first | ((fail_if_success guard_hyp L1); intro L1 cl1 w hL1 hM1 hS) | ((fail_if_success guard_hyp L2); intro L2 cl2 w hL2 hM2 hS) | fail)) | ((first | refine sN1 hS rfl ?_); clear hS; first | ((fail_if_success guard_hyp g1); intro g1 w hS) | ((fail_if_success guard_hyp g2); intro g2 w hS) | fail) | fail)
      refine dr_start0 []  hS (by kernel_rfl) rfl ?_; clear hS; intro w hS
      first | refine dL1 hS 0 rfl rfl rfl rfl ?_ | refine dL2 hS 0 rfl rfl rfl rfl ?_ | refine dL3 hS 0 rfl rfl rfl ?_ | refine dL4 hS 0 rfl rfl rfl ?_ | refine dL5 hS 0 rfl rfl rfl ?_ | refine dL6 hS 0 rfl rfl rfl ?_ | refine dL7 hS 0 rfl rfl rfl ?_
      (try simp only [Act.put, nA, nB, nC])
      refine dM hS 1 rfl rfl rfl ?_
      (try simp only [Act.put, nA, nB, nC])
      refine dM hS 2 rfl rfl rfl ?_
      (try simp only [Act.put, nA, nB, nC])
      refine dr_one 3 (by kernel_rfl) rfl ?_
      (refine st_call rfl (by kernel_rfl) rfl ?_; go_at_call 12; refine (mod24_any z0 p.len.length _ _ rfl (by omega) (by omega)).mono ?_; rintro e w ⟨⟨rm, rfl, hrm⟩, hx1⟩; replace hS := hS.ext hx1; clear hx1)
      (try simp only [Act.put, nA, nB, nC])
      refine dr_end hS ?_
      refine dr_one 4 (by kernel_rfl) rfl ?_
      (refine st_call rfl (by kernel_rfl) rfl ?_; go_at_call 26; refine (undo_any ⟨A1, c1, A2, c2, A3, c3⟩ p rm _ (HPA.out.into hS.frozInto) HG.out hrm).mono ?_; rintro e w ⟨m, hm, L, cL, rfl, ho, hx1⟩; replace hS := hS.addRow ho hx1; clear ho hx1; have HM := Lib.hid hm; clear hm)
      (try simp only [Act.put, nA, nB, nC])
      refine dr_end hS ?_
      refine dA hS 5 rfl rfl rfl ?_
      (try simp only [Act.put, nA, nB, nC])
      refine dr_done (by kernel_rfl) ?_
      have hml : m.length ≤ 5 := by
        have := nodup_lt_len p.len.length m (HM.out.asc.imp (fun h => by omega)) (fun x hx => ((HM.out.mem x).1 hx).closed (P := fun z => z < p.len.length) hrm (fun z _ y hy => (undL_mem.1 hy).1))
        omega
      go_wp2_with (first | (refine oL ?_; (first | refine sL1 hS rfl rfl rfl ?_ | refine sL2 hS rfl rfl rfl ?_ | refine sL3 hS rfl rfl ?_ | refine sL4 hS rfl rfl ?_ | refine sL5 hS rfl rfl ?_ | refine sL6 hS rfl rfl ?_ | refine sL7 hS rfl rfl ?_)) | (refine oS ?_; ((first | refine sS1 hS rfl rfl rfl ?_ | refine sS2 hS rfl rfl rfl ?_ | refine sS3 hS rfl rfl rfl ?_ | refine sS4 hS rfl rfl rfl ?_ | refine sS5 hS rfl rfl rfl ?_); clear hS; intro w hS)) | (refine oP ?_; ((first | refine sP1 hS rfl rfl rfl ?_ | refine sP2 hS rfl rfl rfl ?_ | refine sP3 hS rfl rfl rfl ?_); clear hS; first | ((fail_if_success guard_hyp L1); intro L1 cl1 w hL1 hM1 hS) | ((fail_if_success guard_hyp L2); intro L2 cl2 w hL2 hM2 hS) | fail)) | ((first | refine sN1 hS rfl ?_); clear hS; first | ((fail_if_success guard_hyp g1); intro g1 w hS) | ((fail_if_success guard_hyp g2); intro g2 w hS) | fail) | fail)
      have HBL := Lib.hid (lastsL_len p)
      have HXM := Lib.hid (fun x (hx : x ∈ m) => show x < p.len.length from ((HM.out.mem x).1 hx).closed (P := fun z => z < p.len.length) hrm (fun z _ y hy => (undL_mem.1 hy).1))
      obtain ⟨gX, rfl⟩ := hS.rowSome LX (by omega)
      obtain ⟨gB, rfl⟩ := hS.rowSome LB (by omega)
      go_loopw [13] (fun s13 wr => ∃ (i : Nat) (xs : List Int), i ≤ m.length ∧ s13 = .int .i64 i ∧ Hid (BackTo p (m.take i) xs) ∧ St w0 NoM [row (.slice (some ⟨gX, 0, none⟩) p.len.length kX) 3 1 p.len.length (ints xs), row (.slice (some ⟨gB, 0, none⟩) p.len.length kB) 3 1 p.len.length (ints (lastsL p)), row (.slice L m.length cL) 3 1 m.length (ints (nats m)), froz T w2, blk g1 [.slice A1 p.len.length c1, .slice A2 p.ck.length c2, .slice A3 p.arcs.length c3] 44] wr) (fun s13 _ => m.length - (intOf s13).toNat)
      case atStart => exact ⟨0, p.len, by omega, rfl, Lib.hid (BackTo.start p), hS.re⟩
      case round =>
        clear hS
        obtain ⟨i, xs, hi, rfl, HX, hS⟩ := hrel
        by_cases hil : i < m.length
        · have hil' : (i : Int) < m.length := by omega
          obtain ⟨gM, rfl⟩ := hS.rowSome L (by omega)
          have hgm : (ints (nats m))[i]? = some (.int .i64 ((m[i] : Nat) : Int)) := by simp [ints, nats, hil]
          have hqn := HXM.out m[i] (List.getElem_mem hil)
          have HTK := Lib.hid (show m.take (i + 1) = m.take i ++ [m[i]] from List.take_succ_eq_append_getElem hil)
          generalize m[i] = q at *
          have hbq : (ints (lastsL p))[q]? = some (.int .i64 (lastC p q)) := by rw [ints_get (by rw [lastsL_len]; exact hqn), ← nth_eq, lastsL_at hqn]
          have HST := Lib.hid (HX.out.step hqn)
          have hxl : xs.length = p.len.length := HX.out.1
          have d0 : decide ((q : Int) < 0) = false := decide_eq_false (by omega)
          have d1 : decide ((p.len.length : Int) ≤ (q : Int)) = false := decide_eq_false (by omega)
          have d1n : decide (p.len.length ≤ q) = false := decide_eq_false (by omega)
          generalize lastC p q = lq at *
          generalize lastsL p = bs2 at *
          have hq' : (q : Int) < (p.len.length : Int) := by omega
          go_upto_region 20 with (first | (refine oL ?_; (first | refine sL1 hS rfl rfl rfl ?_ | refine sL2 hS rfl rfl rfl ?_ | refine sL3 hS rfl rfl ?_ | refine sL4 hS rfl rfl ?_ | refine sL5 hS rfl rfl ?_ | refine sL6 hS rfl rfl ?_ | refine sL7 hS rfl rfl ?_)) | (refine oS ?_; ((first | refine sS1 hS rfl rfl rfl ?_ | refine sS2 hS rfl rfl rfl ?_ | refine sS3 hS rfl rfl rfl ?_ | refine sS4 hS rfl rfl rfl ?_ | refine sS5 hS rfl rfl rfl ?_); clear hS; intro w hS)) | (refine oP ?_; ((first | refine sP1 hS rfl rfl rfl ?_ | refine sP2 hS rfl rfl rfl ?_ | refine sP3 hS rfl rfl rfl ?_); clear hS; first | ((fail_if_success guard_hyp L1); intro L1 cl1 w hL1 hM1 hS) | ((fail_if_success guard_hyp L2); intro L2 cl2 w hL2 hM2 hS) | fail)) | ((first | refine sN1 hS rfl ?_); clear hS; first | ((fail_if_success guard_hyp g1); intro g1 w hS) | ((fail_if_success guard_hyp g2); intro g2 w hS) | fail) | fail)
          refine lR ?_
          refine lM rfl rfl ?_
          (try simp only [Act.put, nA, nB, nC])
          refine lM rfl rfl ?_
          (try simp only [Act.put, nA, nB, nC])
          refine lP rfl ?_
          (try simp only [Act.put, nA, nB, nC])
          (refine ⟨?_⟩; ((first | refine sL1 hS rfl rfl rfl ?_ | refine sL2 hS rfl rfl rfl ?_ | refine sL3 hS rfl rfl ?_ | refine sL4 hS rfl rfl ?_ | refine sL5 hS rfl rfl ?_ | refine sL6 hS rfl rfl ?_ | refine sL7 hS rfl rfl ?_)); refine WL.h ?_)
          (try simp only [Act.put, nA, nB, nC])
          refine lP rfl ?_
          (try simp only [Act.put, nA, nB, nC])
          refine lM rfl rfl ?_
          (try simp only [Act.put, nA, nB, nC])
          first | refine lQ rfl ?_ | refine lM rfl rfl ?_ | fail
          (try simp only [Act.put, nA, nB, nC])
          first | refine lQ rfl ?_ | refine lM rfl rfl ?_ | fail
          (try simp only [Act.put, nA, nB, nC])
          first | refine lQ rfl ?_ | refine lP rfl ?_ | fail
          (try simp only [Act.put, nA, nB, nC])
          first | refine lQ rfl ?_ | (refine ⟨?_⟩; ((first | refine sL1 hS rfl rfl rfl ?_ | refine sL2 hS rfl rfl rfl ?_ | refine sL3 hS rfl rfl ?_ | refine sL4 hS rfl rfl ?_ | refine sL5 hS rfl rfl ?_ | refine sL6 hS rfl rfl ?_ | refine sL7 hS rfl rfl ?_)); refine WL.h ?_) | fail
          (try simp only [Act.put, nA, nB, nC])
          first | refine lQ rfl ?_ | refine lM rfl rfl ?_ | fail
          (try simp only [Act.put, nA, nB, nC])
          first | refine lQ rfl ?_ | refine lP rfl ?_ | fail
          (try simp only [Act.put, nA, nB, nC])
          refine lP rfl ?_
          (try simp only [Act.put, nA, nB, nC])
          refine lZ ?_
          clear d0 d1 d1n
          go_wp2_with (first | (refine oL ?_; (first | refine sL1 hS rfl rfl rfl ?_ | refine sL2 hS rfl rfl rfl ?_ | refine sL3 hS rfl rfl ?_ | refine sL4 hS rfl rfl ?_ | refine sL5 hS rfl rfl ?_ | refine sL6 hS rfl rfl ?_ | refine sL7 hS rfl rfl ?_)) | (refine oS ?_; ((first | refine sS1 hS rfl rfl rfl ?_ | refine sS2 hS rfl rfl rfl ?_ | refine sS3 hS rfl rfl rfl ?_ | refine sS4 hS rfl rfl rfl ?_ | refine sS5 hS rfl rfl rfl ?_); clear hS; intro w hS)) | (refine oP ?_; ((first | refine sP1 hS rfl rfl rfl ?_ | refine sP2 hS rfl rfl rfl ?_ | refine sP3 hS rfl rfl rfl ?_); clear hS; first | ((fail_if_success guard_hyp L1); intro L1 cl1 w hL1 hM1 hS) | ((fail_if_success guard_hyp L2); intro L2 cl2 w hL2 hM2 hS) | fail)) | ((first | refine sN1 hS rfl ?_); clear hS; first | ((fail_if_success guard_hyp g1); intro g1 w hS) | ((fail_if_success guard_hyp g2); intro g2 w hS) | fail) | fail)
          have hqx : q < xs.length := by omega
          refine dr_start1 [13] 0 hS (by kernel_rfl) rfl ?_; clear hS; intro w hS
          refine dM hS 0 rfl rfl rfl ?_
          (try simp only [Act.put, nA, nB, nC])
          refine dM hS 1 rfl rfl rfl ?_
          (try simp only [Act.put, nA, nB, nC])
          refine dM hS 2 rfl rfl rfl ?_
          (try simp only [Act.put, nA, nB, nC])
          refine dP hS 3 rfl rfl ?_
          (try simp only [Act.put, nA, nB, nC])
          first | refine dL1 hS 4 rfl rfl rfl rfl ?_ | refine dL2 hS 4 rfl rfl rfl rfl ?_ | refine dL3 hS 4 rfl rfl rfl ?_ | refine dL4 hS 4 rfl rfl rfl ?_ | refine dL5 hS 4 rfl rfl rfl ?_ | refine dL6 hS 4 rfl rfl rfl ?_ | refine dL7 hS 4 rfl rfl rfl ?_
          (try simp only [Act.put, nA, nB, nC])
          refine dM hS 5 rfl rfl rfl ?_
          (try simp only [Act.put, nA, nB, nC])
          refine dM hS 6 rfl rfl rfl ?_
          (try simp only [Act.put, nA, nB, nC])
          refine dM hS 7 rfl rfl rfl ?_
          (try simp only [Act.put, nA, nB, nC])
          refine dP hS 8 rfl rfl ?_
          (try simp only [Act.put, nA, nB, nC])
          first | refine dL1 hS 9 rfl rfl rfl rfl ?_ | refine dL2 hS 9 rfl rfl rfl rfl ?_ | refine dL3 hS 9 rfl rfl rfl ?_ | refine dL4 hS 9 rfl rfl rfl ?_ | refine dL5 hS 9 rfl rfl rfl ?_ | refine dL6 hS 9 rfl rfl rfl ?_ | refine dL7 hS 9 rfl rfl rfl ?_
          (try simp only [Act.put, nA, nB, nC])
          refine dP hS 10 rfl rfl ?_
          (try simp only [Act.put, nA, nB, nC])
          first | refine dL1 hS 11 rfl rfl rfl rfl ?_ | refine dL2 hS 11 rfl rfl rfl rfl ?_ | refine dL3 hS 11 rfl rfl rfl ?_ | refine dL4 hS 11 rfl rfl rfl ?_ | refine dL5 hS 11 rfl rfl rfl ?_ | refine dL6 hS 11 rfl rfl rfl ?_ | refine dL7 hS 11 rfl rfl rfl ?_
          (try simp only [Act.put, nA, nB, nC])
          refine dP hS 12 rfl rfl ?_
          (try simp only [Act.put, nA, nB, nC])
          refine dr_one 13 (by kernel_rfl) rfl ?_
          ((first | refine sS1 hS rfl rfl rfl ?_ | refine sS2 hS rfl rfl rfl ?_ | refine sS3 hS rfl rfl rfl ?_ | refine sS4 hS rfl rfl rfl ?_ | refine sS5 hS rfl rfl rfl ?_); clear hS; intro w hS)
          (try simp only [Act.put, nA, nB, nC])
          refine dr_late (by kernel_rfl) ?_
          refine dr_done (by kernel_rfl) ?_
          go_wp2_with (first | (refine oL ?_; (first | refine sL1 hS rfl rfl rfl ?_ | refine sL2 hS rfl rfl rfl ?_ | refine sL3 hS rfl rfl ?_ | refine sL4 hS rfl rfl ?_ | refine sL5 hS rfl rfl ?_ | refine sL6 hS rfl rfl ?_ | refine sL7 hS rfl rfl ?_)) | (refine oS ?_; ((first | refine sS1 hS rfl rfl rfl ?_ | refine sS2 hS rfl rfl rfl ?_ | refine sS3 hS rfl rfl rfl ?_ | refine sS4 hS rfl rfl rfl ?_ | refine sS5 hS rfl rfl rfl ?_); clear hS; intro w hS)) | (refine oP ?_; ((first | refine sP1 hS rfl rfl rfl ?_ | refine sP2 hS rfl rfl rfl ?_ | refine sP3 hS rfl rfl rfl ?_); clear hS; first | ((fail_if_success guard_hyp L1); intro L1 cl1 w hL1 hM1 hS) | ((fail_if_success guard_hyp L2); intro L2 cl2 w hL2 hM2 hS) | fail)) | ((first | refine sN1 hS rfl ?_); clear hS; first | ((fail_if_success guard_hyp g1); intro g1 w hS) | ((fail_if_success guard_hyp g2); intro g2 w hS) | fail) | fail)
          go_roundw
          case measure => simp [intOf]; try omega
          exact ⟨i + 1, xs.set q lq, by omega, by go_num, by rw [HTK.out]; exact HST, hS.re⟩
        · have hil' : ¬ (i : Int) < m.length := by omega
          rw [List.take_of_length_le (by omega)] at HX
          have HV := Lib.hid (HX.out.valid HG.out)
          have HC := Lib.hid (HX.out.cons HG.out HM.out)
          have HLV := Lib.hid (lastsL_valid HG.out)
          cases hd : consB p.arcs (lastsL p) with
          | true =>
            have HXC := Lib.hid (HC.out hd)
            have HD := Lib.hid hd
            clear hd
            go_upto_region 23 with (first | (refine oL ?_; (first | refine sL1 hS rfl rfl rfl ?_ | refine sL2 hS rfl rfl rfl ?_ | refine sL3 hS rfl rfl ?_ | refine sL4 hS rfl rfl ?_ | refine sL5 hS rfl rfl ?_ | refine sL6 hS rfl rfl ?_ | refine sL7 hS rfl rfl ?_)) | (refine oS ?_; ((first | refine sS1 hS rfl rfl rfl ?_ | refine sS2 hS rfl rfl rfl ?_ | refine sS3 hS rfl rfl rfl ?_ | refine sS4 hS rfl rfl rfl ?_ | refine sS5 hS rfl rfl rfl ?_); clear hS; intro w hS)) | (refine oP ?_; ((first | refine sP1 hS rfl rfl rfl ?_ | refine sP2 hS rfl rfl rfl ?_ | refine sP3 hS rfl rfl rfl ?_); clear hS; first | ((fail_if_success guard_hyp L1); intro L1 cl1 w hL1 hM1 hS) | ((fail_if_success guard_hyp L2); intro L2 cl2 w hL2 hM2 hS) | fail)) | ((first | refine sN1 hS rfl ?_); clear hS; first | ((fail_if_success guard_hyp g1); intro g1 w hS) | ((fail_if_success guard_hyp g2); intro g2 w hS) | fail) | fail)
            refine lR ?_
            (refine ⟨?_⟩; ((first | refine sL1 hS rfl rfl rfl ?_ | refine sL2 hS rfl rfl rfl ?_ | refine sL3 hS rfl rfl ?_ | refine sL4 hS rfl rfl ?_ | refine sL5 hS rfl rfl ?_ | refine sL6 hS rfl rfl ?_ | refine sL7 hS rfl rfl ?_)); refine WL.h ?_)
            (try simp only [Act.put, nA, nB, nC])
            refine lM rfl rfl ?_
            (try simp only [Act.put, nA, nB, nC])
            (refine ⟨?_⟩; (refine st_call rfl (by kernel_rfl) rfl ?_; go_at_call 28; refine (rconsistent_n rfl rfl (HPA.out.into hS.frozInto) HG.out (hS.ri (A := some ⟨gB, 0, none⟩)) HLV.out).mono ?_; rintro e w ⟨rfl, hx1⟩; replace hS := hS.ext hx1; clear hx1; rw [HD.out]); refine WL.h ?_)
            (try simp only [Act.put, nA, nB, nC])
            refine lP rfl ?_
            (try simp only [Act.put, nA, nB, nC])
            refine lM rfl rfl ?_
            (try simp only [Act.put, nA, nB, nC])
            first | refine lQ rfl ?_ | (refine ⟨?_⟩; ((first | refine sL1 hS rfl rfl rfl ?_ | refine sL2 hS rfl rfl rfl ?_ | refine sL3 hS rfl rfl ?_ | refine sL4 hS rfl rfl ?_ | refine sL5 hS rfl rfl ?_ | refine sL6 hS rfl rfl ?_ | refine sL7 hS rfl rfl ?_)); refine WL.h ?_) | fail
            (try simp only [Act.put, nA, nB, nC])
            first | refine lQ rfl ?_ | refine lM rfl rfl ?_ | fail
            (try simp only [Act.put, nA, nB, nC])
            first | refine lQ rfl ?_ | (refine ⟨?_⟩; (refine st_call rfl (by kernel_rfl) rfl ?_; go_at_call 29; refine (consistent_n rfl rfl rfl (HPA.out.into hS.frozInto) HG.out (hS.ri (A := some ⟨gX, 0, none⟩)) HV.out).mono ?_; rintro e w ⟨rfl, hx1⟩; replace hS := hS.ext hx1; clear hx1; rw [HXC.out]); refine WL.h ?_) | fail
            (try simp only [Act.put, nA, nB, nC])
            refine lP rfl ?_
            (try simp only [Act.put, nA, nB, nC])
            refine lA rfl rfl ?_
            (try simp only [Act.put, nA, nB, nC])
            refine lZ ?_
            go_wp2_with (first | (refine oL ?_; (first | refine sL1 hS rfl rfl rfl ?_ | refine sL2 hS rfl rfl rfl ?_ | refine sL3 hS rfl rfl ?_ | refine sL4 hS rfl rfl ?_ | refine sL5 hS rfl rfl ?_ | refine sL6 hS rfl rfl ?_ | refine sL7 hS rfl rfl ?_)) | (refine oS ?_; ((first | refine sS1 hS rfl rfl rfl ?_ | refine sS2 hS rfl rfl rfl ?_ | refine sS3 hS rfl rfl rfl ?_ | refine sS4 hS rfl rfl rfl ?_ | refine sS5 hS rfl rfl rfl ?_); clear hS; intro w hS)) | (refine oP ?_; ((first | refine sP1 hS rfl rfl rfl ?_ | refine sP2 hS rfl rfl rfl ?_ | refine sP3 hS rfl rfl rfl ?_); clear hS; first | ((fail_if_success guard_hyp L1); intro L1 cl1 w hL1 hM1 hS) | ((fail_if_success guard_hyp L2); intro L2 cl2 w hL2 hM2 hS) | fail)) | ((first | refine sN1 hS rfl ?_); clear hS; first | ((fail_if_success guard_hyp g1); intro g1 w hS) | ((fail_if_success guard_hyp g2); intro g2 w hS) | fail) | fail)
            go_ret
            exact ⟨rfl, hS.toExt⟩
          | false =>
            have HD := Lib.hid hd
            clear hd
            go_upto_region 23 with (first | (refine oL ?_; (first | refine sL1 hS rfl rfl rfl ?_ | refine sL2 hS rfl rfl rfl ?_ | refine sL3 hS rfl rfl ?_ | refine sL4 hS rfl rfl ?_ | refine sL5 hS rfl rfl ?_ | refine sL6 hS rfl rfl ?_ | refine sL7 hS rfl rfl ?_)) | (refine oS ?_; ((first | refine sS1 hS rfl rfl rfl ?_ | refine sS2 hS rfl rfl rfl ?_ | refine sS3 hS rfl rfl rfl ?_ | refine sS4 hS rfl rfl rfl ?_ | refine sS5 hS rfl rfl rfl ?_); clear hS; intro w hS)) | (refine oP ?_; ((first | refine sP1 hS rfl rfl rfl ?_ | refine sP2 hS rfl rfl rfl ?_ | refine sP3 hS rfl rfl rfl ?_); clear hS; first | ((fail_if_success guard_hyp L1); intro L1 cl1 w hL1 hM1 hS) | ((fail_if_success guard_hyp L2); intro L2 cl2 w hL2 hM2 hS) | fail)) | ((first | refine sN1 hS rfl ?_); clear hS; first | ((fail_if_success guard_hyp g1); intro g1 w hS) | ((fail_if_success guard_hyp g2); intro g2 w hS) | fail) | fail)
            refine lR ?_
            (refine ⟨?_⟩; ((first | refine sL1 hS rfl rfl rfl ?_ | refine sL2 hS rfl rfl rfl ?_ | refine sL3 hS rfl rfl ?_ | refine sL4 hS rfl rfl ?_ | refine sL5 hS rfl rfl ?_ | refine sL6 hS rfl rfl ?_ | refine sL7 hS rfl rfl ?_)); refine WL.h ?_)
            (try simp only [Act.put, nA, nB, nC])
            refine lM rfl rfl ?_
            (try simp only [Act.put, nA, nB, nC])
            (refine ⟨?_⟩; (refine st_call rfl (by kernel_rfl) rfl ?_; go_at_call 28; refine (rconsistent_n rfl rfl (HPA.out.into hS.frozInto) HG.out (hS.ri (A := some ⟨gB, 0, none⟩)) HLV.out).mono ?_; rintro e w ⟨rfl, hx1⟩; replace hS := hS.ext hx1; clear hx1; rw [HD.out]); refine WL.h ?_)
            (try simp only [Act.put, nA, nB, nC])
            refine lP rfl ?_
            (try simp only [Act.put, nA, nB, nC])
            refine lM rfl rfl ?_
            (try simp only [Act.put, nA, nB, nC])
            first | refine lQ rfl ?_ | (refine ⟨?_⟩; ((first | refine sL1 hS rfl rfl rfl ?_ | refine sL2 hS rfl rfl rfl ?_ | refine sL3 hS rfl rfl ?_ | refine sL4 hS rfl rfl ?_ | refine sL5 hS rfl rfl ?_ | refine sL6 hS rfl rfl ?_ | refine sL7 hS rfl rfl ?_)); refine WL.h ?_) | fail
            (try simp only [Act.put, nA, nB, nC])
            first | refine lQ rfl ?_ | refine lM rfl rfl ?_ | fail
            (try simp only [Act.put, nA, nB, nC])
            refine lQ rfl ?_
            (try simp only [Act.put, nA, nB, nC])
            refine lP rfl ?_
            (try simp only [Act.put, nA, nB, nC])
            refine lA rfl rfl ?_
            (try simp only [Act.put, nA, nB, nC])
            refine lZ ?_
            go_wp2_with (first | (refine oL ?_; (first | refine sL1 hS rfl rfl rfl ?_ | refine sL2 hS rfl rfl rfl ?_ | refine sL3 hS rfl rfl ?_ | refine sL4 hS rfl rfl ?_ | refine sL5 hS rfl rfl ?_ | refine sL6 hS rfl rfl ?_ | refine sL7 hS rfl rfl ?_)) | (refine oS ?_; ((first | refine sS1 hS rfl rfl rfl ?_ | refine sS2 hS rfl rfl rfl ?_ | refine sS3 hS rfl rfl rfl ?_ | refine sS4 hS rfl rfl rfl ?_ | refine sS5 hS rfl rfl rfl ?_); clear hS; intro w hS)) | (refine oP ?_; ((first | refine sP1 hS rfl rfl rfl ?_ | refine sP2 hS rfl rfl rfl ?_ | refine sP3 hS rfl rfl rfl ?_); clear hS; first | ((fail_if_success guard_hyp L1); intro L1 cl1 w hL1 hM1 hS) | ((fail_if_success guard_hyp L2); intro L2 cl2 w hL2 hM2 hS) | fail)) | ((first | refine sN1 hS rfl ?_); clear hS; first | ((fail_if_success guard_hyp g1); intro g1 w hS) | ((fail_if_success guard_hyp g2); intro g2 w hS) | fail) | fail)
            go_ret
            exact ⟨rfl, hS.toExt⟩
open Go.ChangeShapes Go.WideShapes Go.ChangeAt
set_option maxRecDepth 100000 in
theorem lifted_TwophaseMutual (os : Os) (started : os.Started) (H : Type) (enc : TypeId × Value → H) :
    ReturnsInHanded {} Try.checked os 6 .any (Rows.twophaseMutualSpec.pre6 enc Try.prog Try.f6 Rows.twophaseMutualRow.domain false) (Rows.twophaseMutualSpec.post enc Try.prog Try.f6 false true false false) := by
  refine law_lifted (C := Try.checked) (s := Rows.twophaseMutualSpec) (tb := 4) (by kernel_rfl) started (by kernel_rfl) Try.func6
      (ChangeSpec.witness6 (enc := enc) (C := Try.checked) false ⟨#[], #[.slice none 0 0, .int .i64 0], []⟩ 8 (by kernel_rfl) (by kernel_rfl) (by kernel_rfl) (by kernel_rfl))
      (by kernel_rfl) rfl rfl Try.underlying4 (read_of (by kernel_rfl)) ?_ ?_
  · intro ds hl
    match ds, hl with
    | [d0, d1], _ => exact ⟨rfl, rfl, rfl⟩
  · intro W base args ds p hval0 hA0
    have hval : ∀ (j : Nat) t v, Try.f6.params[j]? = some t → args[j]? = some v → Value.okWide Try.prog W .any base t v := hval0
    have hA : DataW.TrodAll enc Try.prog W 0 (fun _ => true) true Try.f6.params.toList args.toList ds p := hA0
    clear hA0 hval0
    rw [Try.params6] at hA hval
    obtain ⟨v0, v1, d0, d1, p0, p1, rfl, rfl, rfl, h0, h1⟩ := trodAll_two hA
    obtain ⟨A0, c0, xs0, rfl, hri0, hc0, hd0, hwf0⟩ := open_nums Try.underlying31 Try.underlying5 (by kernel_rfl) (hval 0 _ v0 rfl rfl) h0
    obtain ⟨x1, rfl, _, _, hz1⟩ := open_int Try.underlying3 (hval 1 _ v1 rfl rfl) h1
    exact twophaseMutual_any A0 c0 xs0 x1 W hri0 hc0 hd0 (fun b hb => u8_bd (hwf0 b hb)) (i64_bd hz1)
/-- TwophaseMutual returns true for every input, and leaves its arguments as they were. -/
theorem proved_TwophaseMutual : Rows.TwophaseMutualSaid :=
  OpenClaim.holds_of_wide 6 Try.f6 rfl rfl rfl rfl rfl rfl rfl ⟨rfl, rfl, rfl, rfl, rfl⟩ rfl rfl rfl rfl rfl (by kernel_rfl) Try.func6 (by kernel_rfl)
    (of_decide_eq_true (by kernel_rfl)) (by unfold Func.isWrapper; rw [if_neg (by decide +kernel)]; exact ⟨rfl, rfl⟩)
    (fun os started H enc _ => lifted_TwophaseMutual os started H enc)
end Go.Proofs.Ytmjmdncdmmcmaaa
