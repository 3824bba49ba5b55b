/- MarkerCuts: the recorded states are a consistent cut of what happened, with what is in transit. No condition. -/
import Derived.Test.YtombhhhaidmpeaaNoteD
import Derived.Test.YtombhhhaidmpeaaMarkP
import Derived.Test.YtombhhhaidmpeaaMarkQ
import Derived.Test.YtombhhhaidmpeaaMkZ
import Derived.Test.YtombhhhaidmpeaaGe
import Derived.Test.YtombhhhaidmpeaaTransit
import Derived.Test.YtombhhhaidmpeaaWantI
namespace Go.Proofs.Ytombhhhaidmpeaa
open Go.RowKit
set_option linter.unusedVariables false
set_option linter.unusedSimpArgs false
set_option linter.unusedSectionVars false

theorem qvals_rep (nn : Nat) : qvals (List.replicate nn ((none, 0, []) : QR)) = List.replicate nn (.slice none 0 0) := by simp [qvals]
theorem St.famQ0 {w0 w : World} {M : Nat → Prop} {cs : List (Chunk w0 M)} (h : St w0 M cs w) (nn : Nat) : St w0 M (famC (qfam (List.replicate nn ((none, 0, []) : QR))) :: cs) w := by
  have hm : ∀ c ∈ (qfam (w0 := w0) (M := M) (List.replicate nn ((none, 0, []) : QR))), c = orow 3 none 0 (ints (nats [])) := fun c hc => by
    obtain ⟨r, hr, rfl⟩ := List.mem_map.1 hc
    rw [List.eq_of_mem_replicate hr]
  refine h.add (Ext.refl' w) ⟨fun c hc => ?_, ?_⟩ (fun k hk => ?_)
  · rw [hm c hc]
    exact ⟨by simp [nats, ints], by omega, .inl ⟨rfl, rfl⟩⟩
  · rw [List.pairwise_iff_getElem]
    intro i j hi hj _ k hk
    rw [hm _ (List.getElem_mem hi)] at hk
    obtain ⟨o, h⟩ := hk
    cases h
  · obtain ⟨c, hc, hk⟩ := hk
    rw [hm c hc] at hk
    obtain ⟨o, h⟩ := hk
    cases h
set_option maxRecDepth 100000 in
set_option maxHeartbeats 6400000 in
theorem markerCuts_any (V : Option Addr) (g : Nat) (vs : List Int) (C : Option Addr) (f : Nat) (bs : List Int) (w0 : World) (hvs : RI (fun b => b < w0.heap.size) w0 V vs) (hg : vs.length ≤ g) (hg' : g ≤ 9223372036854775807) (hin : ∀ b ∈ vs, -9223372036854775808 ≤ b ∧ b ≤ 9223372036854775807) (hbs : RV (fun b => b < w0.heap.size) w0 C (bytes bs)) (hf : bs.length ≤ f) (hf' : f ≤ 9223372036854775807) (hby : ∀ b ∈ bs, 0 ≤ b ∧ b ≤ 255) :
    Calls Try.prog 8 #[.slice V vs.length g, .slice C bs.length f] w0 fun e w' => e = .returned (.bool true) ∧ Ext w0 w' := by
  have hS := St.start w0 NoM
  have HV := Lib.hid (And.intro hvs (And.intro hin (And.intro hbs hby)))
  clear hvs hin hbs hby
  go_enter Try.func8, Try.ntmps8
  go_wp2_with (first | (go_at_call 30; refine (awake23_any _).mono ?_; rintro e w ⟨rfl, hx1⟩; replace hS := hS.ext hx1) | (refine oL ?_; (first | refine sL1 hS rfl rfl rfl ?_ | refine sL2 hS rfl rfl rfl ?_ | refine sL3 hS rfl rfl ?_ | refine sL4 hS rfl rfl ?_ | refine sL5 hS rfl rfl ?_ | refine sL6 hS rfl rfl ?_ | refine sL7 hS rfl rfl ?_)) | (refine oS ?_; ((first | refine sS1 hS rfl rfl rfl ?_ | refine sS2 hS rfl rfl rfl ?_ | refine sS3 hS rfl rfl rfl ?_ | refine sS4 hS rfl rfl rfl ?_ | refine sS5 hS rfl rfl rfl ?_); clear hS; intro w hS)) | (refine oP ?_; ((first | refine sP1 hS rfl rfl rfl ?_ | refine sP2 hS rfl rfl rfl ?_ | refine sP3 hS rfl rfl rfl ?_); clear hS; first | ((fail_if_success guard_hyp L1); intro L1 cl1 w hL1 hM1 hS) | ((fail_if_success guard_hyp L2); intro L2 cl2 w hL2 hM2 hS) | ((fail_if_success guard_hyp L3); intro L3 cl3 w hL3 hM3 hS) | fail)) | ((first | refine sN1 hS rfl ?_ | (refine oC ?_; first | refine sC0 hS rfl ?_ | refine sC1 hS rfl rfl ?_ | refine sC2 hS rfl rfl ?_ | refine sC3 hS rfl rfl rfl ?_ | refine sC4 hS rfl rfl rfl ?_) | refine sM1 hS rfl rfl rfl ?_); clear hS; first | ((fail_if_success guard_hyp g1); intro g1 w hS) | ((fail_if_success guard_hyp g2); intro g2 w hS) | ((fail_if_success guard_hyp g3); intro g3 w hS) | ((fail_if_success guard_hyp g4); intro g4 w hS) | ((fail_if_success guard_hyp g5); intro g5 w hS) | ((fail_if_success guard_hyp g6); intro g6 w hS) | ((fail_if_success guard_hyp g7); intro g7 w hS) | ((fail_if_success guard_hyp g8); intro g8 w hS) | ((fail_if_success guard_hyp g9); intro g9 w hS) | ((fail_if_success guard_hyp g10); intro g10 w hS) | ((fail_if_success guard_hyp g11); intro g11 w hS) | fail) | fail)
  refine (start_n (HV.out.1.ext hS.toExt) hg hg' HV.out.2.1 (HV.out.2.2.1.ext hS.toExt) hf hf' HV.out.2.2.2).mono ?_
  rintro e u1 ⟨L1, k1, n, xs, L2, k2, m, l, rfl, hxl, hn2, hn4, hxi, hll, hm50, hr1, hr2, hx1⟩
  replace hS := hS.frozNew hx1
  obtain ⟨N1, hN1⟩ : ∃ N : Nat → Prop, N = fun k => w.heap.size ≤ k ∧ k < u1.heap.size := ⟨_, rfl⟩
  rw [← hN1] at hS hr1 hr2
  have HX := Lib.hid (And.intro hxl (And.intro hxi hr1))
  have HL := Lib.hid (And.intro hll hr2)
  clear hN1 hxl hxi hr1 hll hr2 hx1 HV
  obtain ⟨nn, hnn⟩ : ∃ nn, nn = n * n := ⟨_, rfl⟩
  have hnn25 : nn ≤ 25 := by rw [hnn]; exact Nat.le_trans (Nat.mul_le_mul hn4 hn4) (by decide)
  have HNN := Lib.hid hnn.symm
  have hnz : (n : Int) * (n : Int) = (nn : Int) := by rw [hnn]; simp
  clear hnn
  go_upto_region 5 with (first | (refine oL ?_; (first | refine sL1 hS rfl rfl rfl ?_ | refine sL2 hS rfl rfl rfl ?_ | refine sL3 hS rfl rfl ?_ | refine sL4 hS rfl rfl ?_ | refine sL5 hS rfl rfl ?_ | refine sL6 hS rfl rfl ?_ | refine sL7 hS rfl rfl ?_)) | (refine oS ?_; ((first | refine sS1 hS rfl rfl rfl ?_ | refine sS2 hS rfl rfl rfl ?_ | refine sS3 hS rfl rfl rfl ?_ | refine sS4 hS rfl rfl rfl ?_ | refine sS5 hS rfl rfl rfl ?_); clear hS; intro w hS)) | (refine oP ?_; ((first | refine sP1 hS rfl rfl rfl ?_ | refine sP2 hS rfl rfl rfl ?_ | refine sP3 hS rfl rfl rfl ?_); clear hS; first | ((fail_if_success guard_hyp L1); intro L1 cl1 w hL1 hM1 hS) | ((fail_if_success guard_hyp L2); intro L2 cl2 w hL2 hM2 hS) | ((fail_if_success guard_hyp L3); intro L3 cl3 w hL3 hM3 hS) | fail)) | ((first | refine sN1 hS rfl ?_ | (refine oC ?_; first | refine sC0 hS rfl ?_ | refine sC1 hS rfl rfl ?_ | refine sC2 hS rfl rfl ?_ | refine sC3 hS rfl rfl rfl ?_ | refine sC4 hS rfl rfl rfl ?_) | refine sM1 hS rfl rfl rfl ?_); clear hS; first | ((fail_if_success guard_hyp g1); intro g1 w hS) | ((fail_if_success guard_hyp g2); intro g2 w hS) | ((fail_if_success guard_hyp g3); intro g3 w hS) | ((fail_if_success guard_hyp g4); intro g4 w hS) | ((fail_if_success guard_hyp g5); intro g5 w hS) | ((fail_if_success guard_hyp g6); intro g6 w hS) | ((fail_if_success guard_hyp g7); intro g7 w hS) | ((fail_if_success guard_hyp g8); intro g8 w hS) | ((fail_if_success guard_hyp g9); intro g9 w hS) | ((fail_if_success guard_hyp g10); intro g10 w hS) | ((fail_if_success guard_hyp g11); intro g11 w hS) | fail) | fail)
  (try simp only [Act.put, nA, nB, nC])
  go_cut [8] (fun s8 wx => ∃ (gt gl gq : Nat), s8 = .pointer (some ⟨gt, 0, none⟩) ∧ St w0 NoM [blk gt [.slice (some ⟨gl, 0, none⟩) n n, .slice none 0 0, .slice none 0 0, .slice none 0 0, .slice (some ⟨gq, 0, none⟩) nn nn] 52, row (.slice (some ⟨gl, 0, none⟩) n n) 3 1 n (ints (List.replicate n 0)), row (.slice (some ⟨gq, 0, none⟩) nn nn) 24 1 nn (List.replicate nn (.slice none 0 0)), froz N1 u1] wx)
  case first =>
    refine dr_start0 []  hS (by kernel_rfl) rfl ?_; clear hS; intro w hS
    refine dM hS 0 rfl rfl rfl ?_
    (try simp only [Act.put, nA, nB, nC])
    refine dM hS 3 rfl rfl rfl ?_
    (try simp only [Act.put, nA, nB, nC])
    refine dM hS 4 rfl rfl rfl ?_
    (try simp only [Act.put, nA, nB, nC])
    refine dP hS 5 rfl rfl ?_
    (try simp only [Act.put, nA, nB, nC])
    refine dr_two 1 6 (by kernel_rfl) rfl rfl ?_ ?_
    (refine sM1 hS rfl rfl rfl ?_; clear hS; first | ((fail_if_success guard_hyp g1); intro g1 w hS) | ((fail_if_success guard_hyp g2); intro g2 w hS) | ((fail_if_success guard_hyp g3); intro g3 w hS) | ((fail_if_success guard_hyp g4); intro g4 w hS) | ((fail_if_success guard_hyp g5); intro g5 w hS) | ((fail_if_success guard_hyp g6); intro g6 w hS) | ((fail_if_success guard_hyp g7); intro g7 w hS) | ((fail_if_success guard_hyp g8); intro g8 w hS) | ((fail_if_success guard_hyp g9); intro g9 w hS) | ((fail_if_success guard_hyp g10); intro g10 w hS) | ((fail_if_success guard_hyp g11); intro g11 w hS) | fail)
    (try simp only [Act.put, nA, nB, nC])
    refine dr_end hS ?_
    refine dP hS 2 rfl rfl ?_
    (try simp only [Act.put, nA, nB, nC])
    refine dr_one 6 (by kernel_rfl) rfl ?_
    (refine oM ?_; refine st_mkZ (n := nn) hS rfl rfl rfl (by first | rfl | exact hnz) (by first | rfl | exact hnz) (by omega) ?_; clear hS; intro gq w hS)
    (try simp only [Act.put, nA, nB, nC])
    refine dr_end hS ?_
    refine dP hS 7 rfl rfl ?_
    (try simp only [Act.put, nA, nB, nC])
    refine dr_one 8 (by kernel_rfl) rfl ?_
    ((first | refine sB1 hS rfl rfl ?_ | refine sB2 hS rfl rfl ?_); clear hS; first | ((fail_if_success guard_hyp g1); intro g1 w hS) | ((fail_if_success guard_hyp g2); intro g2 w hS) | ((fail_if_success guard_hyp g3); intro g3 w hS) | ((fail_if_success guard_hyp g4); intro g4 w hS) | ((fail_if_success guard_hyp g5); intro g5 w hS) | ((fail_if_success guard_hyp g6); intro g6 w hS) | ((fail_if_success guard_hyp g7); intro g7 w hS) | ((fail_if_success guard_hyp g8); intro g8 w hS) | ((fail_if_success guard_hyp g9); intro g9 w hS) | ((fail_if_success guard_hyp g10); intro g10 w hS) | ((fail_if_success guard_hyp g11); intro g11 w hS) | fail)
    (try simp only [Act.put, nA, nB, nC])
    refine dr_end hS ?_
    refine dA hS 9 rfl rfl rfl ?_
    (try simp only [Act.put, nA, nB, nC])
    refine dr_done (by kernel_rfl) ?_
    rotate_left
    (refine oM ?_; refine st_mkZ (n := nn) hS rfl rfl rfl (by first | rfl | exact hnz) (by first | rfl | exact hnz) (by omega) ?_; clear hS; intro gq w hS)
    (try simp only [Act.put, nA, nB, nC])
    refine dr_end hS ?_
    refine dr_one 1 (by kernel_rfl) rfl ?_
    (refine sM1 hS rfl rfl rfl ?_; clear hS; first | ((fail_if_success guard_hyp g1); intro g1 w hS) | ((fail_if_success guard_hyp g2); intro g2 w hS) | ((fail_if_success guard_hyp g3); intro g3 w hS) | ((fail_if_success guard_hyp g4); intro g4 w hS) | ((fail_if_success guard_hyp g5); intro g5 w hS) | ((fail_if_success guard_hyp g6); intro g6 w hS) | ((fail_if_success guard_hyp g7); intro g7 w hS) | ((fail_if_success guard_hyp g8); intro g8 w hS) | ((fail_if_success guard_hyp g9); intro g9 w hS) | ((fail_if_success guard_hyp g10); intro g10 w hS) | ((fail_if_success guard_hyp g11); intro g11 w hS) | fail)
    (try simp only [Act.put, nA, nB, nC])
    refine dr_end hS ?_
    refine dP hS 2 rfl rfl ?_
    (try simp only [Act.put, nA, nB, nC])
    refine dP hS 7 rfl rfl ?_
    (try simp only [Act.put, nA, nB, nC])
    refine dr_one 8 (by kernel_rfl) rfl ?_
    ((first | refine sB1 hS rfl rfl ?_ | refine sB2 hS rfl rfl ?_); clear hS; first | ((fail_if_success guard_hyp g1); intro g1 w hS) | ((fail_if_success guard_hyp g2); intro g2 w hS) | ((fail_if_success guard_hyp g3); intro g3 w hS) | ((fail_if_success guard_hyp g4); intro g4 w hS) | ((fail_if_success guard_hyp g5); intro g5 w hS) | ((fail_if_success guard_hyp g6); intro g6 w hS) | ((fail_if_success guard_hyp g7); intro g7 w hS) | ((fail_if_success guard_hyp g8); intro g8 w hS) | ((fail_if_success guard_hyp g9); intro g9 w hS) | ((fail_if_success guard_hyp g10); intro g10 w hS) | ((fail_if_success guard_hyp g11); intro g11 w hS) | fail)
    (try simp only [Act.put, nA, nB, nC])
    refine dr_end hS ?_
    refine dA hS 9 rfl rfl rfl ?_
    (try simp only [Act.put, nA, nB, nC])
    refine dr_done (by kernel_rfl) ?_
    rotate_left
    all_goals
      go_wp2_with fail
      go_meet
      exact ⟨g2, g1, gq, rfl, hS.re⟩
  case rest =>
    clear hS hnz
    obtain ⟨gt, gl, gq, rfl, hS⟩ := hcut
    rw [← qvals_rep] at hS
    replace hS := ((hS.famQ0 nn).addNil 24 1).frozNil
    have HR0 := Lib.hid (show (List.replicate nn ((none, 0, []) : QR)).length = nn ∧ (List.replicate nn ((none, 0, []) : QR)).map (·.2.2) = List.replicate nn [] by simp)
    generalize List.replicate nn ((none, 0, []) : QR) = rs0 at *
    go_wp2_with (first | (refine oL ?_; (first | refine sL1 hS rfl rfl rfl ?_ | refine sL2 hS rfl rfl rfl ?_ | refine sL3 hS rfl rfl ?_ | refine sL4 hS rfl rfl ?_ | refine sL5 hS rfl rfl ?_ | refine sL6 hS rfl rfl ?_ | refine sL7 hS rfl rfl ?_)) | (refine oS ?_; ((first | refine sS1 hS rfl rfl rfl ?_ | refine sS2 hS rfl rfl rfl ?_ | refine sS3 hS rfl rfl rfl ?_ | refine sS4 hS rfl rfl rfl ?_ | refine sS5 hS rfl rfl rfl ?_); clear hS; intro w hS)) | (refine oP ?_; ((first | refine sP1 hS rfl rfl rfl ?_ | refine sP2 hS rfl rfl rfl ?_ | refine sP3 hS rfl rfl rfl ?_); clear hS; first | ((fail_if_success guard_hyp L1); intro L1 cl1 w hL1 hM1 hS) | ((fail_if_success guard_hyp L2); intro L2 cl2 w hL2 hM2 hS) | ((fail_if_success guard_hyp L3); intro L3 cl3 w hL3 hM3 hS) | fail)) | ((first | refine sN1 hS rfl ?_ | (refine oC ?_; first | refine sC0 hS rfl ?_ | refine sC1 hS rfl rfl ?_ | refine sC2 hS rfl rfl ?_ | refine sC3 hS rfl rfl rfl ?_ | refine sC4 hS rfl rfl rfl ?_) | refine sM1 hS rfl rfl rfl ?_); clear hS; first | ((fail_if_success guard_hyp g1); intro g1 w hS) | ((fail_if_success guard_hyp g2); intro g2 w hS) | ((fail_if_success guard_hyp g3); intro g3 w hS) | ((fail_if_success guard_hyp g4); intro g4 w hS) | ((fail_if_success guard_hyp g5); intro g5 w hS) | ((fail_if_success guard_hyp g6); intro g6 w hS) | ((fail_if_success guard_hyp g7); intro g7 w hS) | ((fail_if_success guard_hyp g8); intro g8 w hS) | ((fail_if_success guard_hyp g9); intro g9 w hS) | ((fail_if_success guard_hyp g10); intro g10 w hS) | ((fail_if_success guard_hyp g11); intro g11 w hS) | fail) | fail)
    go_loopw [9] (fun s9 wr => ∃ (k c : Nat) (L : Option Addr) (vs : List Value) (T : Nat → Prop) (u : World), k ≤ n ∧ s9 = .int .i64 k ∧ Hid (Reps (repRow T u) 1 vs (List.replicate k [0])) ∧ St w0 NoM [froz T u, row (.slice L k c) 24 1 k vs, blk gt [.slice (some ⟨gl, 0, none⟩) n n, .slice L k c, .slice none 0 0, .slice none 0 0, .slice (some ⟨gq, 0, none⟩) nn nn] 52, row (.slice (some ⟨gl, 0, none⟩) n n) 3 1 n (ints (List.replicate n 0)), row (.slice (some ⟨gq, 0, none⟩) nn nn) 24 1 nn (qvals rs0), famC (qfam rs0), froz N1 u1] wr) (fun s9 _ => n - (intOf s9).toNat)
    case atStart => exact ⟨0, 0, none, [], (fun _ => False), wc, by omega, rfl, Lib.hid rfl, hS.re⟩
    case round =>
      clear hS
      obtain ⟨k, c, L, vs, T, u, hk, rfl, HR, hS⟩ := hrel
      by_cases hlt : k < n
      · have hlt' : (k : Int) < n := by omega
        go_wp2_with (first | (refine oL ?_; (first | refine sL1 hS rfl rfl rfl ?_ | refine sL2 hS rfl rfl rfl ?_ | refine sL3 hS rfl rfl ?_ | refine sL4 hS rfl rfl ?_ | refine sL5 hS rfl rfl ?_ | refine sL6 hS rfl rfl ?_ | refine sL7 hS rfl rfl ?_)) | (refine oS ?_; ((first | refine sS1 hS rfl rfl rfl ?_ | refine sS2 hS rfl rfl rfl ?_ | refine sS3 hS rfl rfl rfl ?_ | refine sS4 hS rfl rfl rfl ?_ | refine sS5 hS rfl rfl rfl ?_); clear hS; intro w hS)) | (refine oP ?_; ((first | refine sP1 hS rfl rfl rfl ?_ | refine sP2 hS rfl rfl rfl ?_ | refine sP3 hS rfl rfl rfl ?_); clear hS; first | ((fail_if_success guard_hyp L1); intro L1 cl1 w hL1 hM1 hS) | ((fail_if_success guard_hyp L2); intro L2 cl2 w hL2 hM2 hS) | ((fail_if_success guard_hyp L3); intro L3 cl3 w hL3 hM3 hS) | fail)) | ((first | refine sN1 hS rfl ?_ | (refine oC ?_; first | refine sC0 hS rfl ?_ | refine sC1 hS rfl rfl ?_ | refine sC2 hS rfl rfl ?_ | refine sC3 hS rfl rfl rfl ?_ | refine sC4 hS rfl rfl rfl ?_) | refine sM1 hS rfl rfl rfl ?_); clear hS; first | ((fail_if_success guard_hyp g1); intro g1 w hS) | ((fail_if_success guard_hyp g2); intro g2 w hS) | ((fail_if_success guard_hyp g3); intro g3 w hS) | ((fail_if_success guard_hyp g4); intro g4 w hS) | ((fail_if_success guard_hyp g5); intro g5 w hS) | ((fail_if_success guard_hyp g6); intro g6 w hS) | ((fail_if_success guard_hyp g7); intro g7 w hS) | ((fail_if_success guard_hyp g8); intro g8 w hS) | ((fail_if_success guard_hyp g9); intro g9 w hS) | ((fail_if_success guard_hyp g10); intro g10 w hS) | ((fail_if_success guard_hyp g11); intro g11 w hS) | fail) | fail)
        simp only [List.set_cons_zero, List.set_cons_succ] at hS
        go_roundw
        case measure => simp [intOf]; omega
        have hb := hS.head
        have hI := hS.frozInto
        have hS2 := hS.freeze
        refine ⟨k + 1, _, _, _, _, _, by omega, by go_num, Lib.hid ?_, hS2⟩
        rw [List.replicate_succ']
        refine ((HR.out.mono (repRow.into (hI.widen (fun k hk => .inr hk)))).snoc rfl ?_)
        refine ⟨some ⟨g1, 0, none⟩, 1, rfl, by simp, by omega, ?_⟩
        intro j x hx
        refine ⟨g1, 0, rfl, .inl rfl, ?_⟩
        rw [Nat.zero_add]
        exact cell_of_heap hb (by simpa using hx)
      · have HKN := Lib.hid (show k = n by omega)
        have hlt' : ¬ (k : Int) < n := by omega
        rw [HKN.out] at hS
        replace HR := HR.out
        rw [HKN.out] at HR
        have hcL := hS.rowForm L
        obtain ⟨TK, hSK, hiK, hrvK⟩ := (hS.perm (List.Perm.swap _ _ _)).freezeV
        have HCK := Lib.hid (show RR TK wr L (List.replicate n [0]) from ⟨vs, hrvK, HR.mono (repRow.into hiK)⟩)
        replace hS := hSK
        clear hSK hiK hrvK HR hlt
        generalize huk : wr = uk at HCK hS
        go_wp2_with (first | (refine oL ?_; (first | refine sL1 hS rfl rfl rfl ?_ | refine sL2 hS rfl rfl rfl ?_ | refine sL3 hS rfl rfl ?_ | refine sL4 hS rfl rfl ?_ | refine sL5 hS rfl rfl ?_ | refine sL6 hS rfl rfl ?_ | refine sL7 hS rfl rfl ?_)) | (refine oS ?_; ((first | refine sS1 hS rfl rfl rfl ?_ | refine sS2 hS rfl rfl rfl ?_ | refine sS3 hS rfl rfl rfl ?_ | refine sS4 hS rfl rfl rfl ?_ | refine sS5 hS rfl rfl rfl ?_); clear hS; intro w hS)) | (refine oP ?_; ((first | refine sP1 hS rfl rfl rfl ?_ | refine sP2 hS rfl rfl rfl ?_ | refine sP3 hS rfl rfl rfl ?_); clear hS; first | ((fail_if_success guard_hyp L1); intro L1 cl1 w hL1 hM1 hS) | ((fail_if_success guard_hyp L2); intro L2 cl2 w hL2 hM2 hS) | ((fail_if_success guard_hyp L3); intro L3 cl3 w hL3 hM3 hS) | fail)) | ((first | refine sN1 hS rfl ?_ | (refine oC ?_; first | refine sC0 hS rfl ?_ | refine sC1 hS rfl rfl ?_ | refine sC2 hS rfl rfl ?_ | refine sC3 hS rfl rfl rfl ?_ | refine sC4 hS rfl rfl rfl ?_) | refine sM1 hS rfl rfl rfl ?_); clear hS; first | ((fail_if_success guard_hyp g1); intro g1 w hS) | ((fail_if_success guard_hyp g2); intro g2 w hS) | ((fail_if_success guard_hyp g3); intro g3 w hS) | ((fail_if_success guard_hyp g4); intro g4 w hS) | ((fail_if_success guard_hyp g5); intro g5 w hS) | ((fail_if_success guard_hyp g6); intro g6 w hS) | ((fail_if_success guard_hyp g7); intro g7 w hS) | ((fail_if_success guard_hyp g8); intro g8 w hS) | ((fail_if_success guard_hyp g9); intro g9 w hS) | ((fail_if_success guard_hyp g10); intro g10 w hS) | ((fail_if_success guard_hyp g11); intro g11 w hS) | fail) | fail)
        refine (snew_n HX.out.1 (HX.out.2.2.into (hS.intoK (T := N1) (u := u1))) (by omega) (by omega)).mono ?_
        rintro e u2 ⟨⟨A1, c1, A2, c2, A3, c3, A4, c4, A5, c5, A6, c6, A7, c7⟩, rfl, hsn, hx1⟩
        replace hS := hS.frozNew hx1
        generalize (fun k => _ ≤ k ∧ k < u2.heap.size) = N2 at hS hsn
        have HSN := Lib.hid hsn
        clear hsn hx1
        simp only [HNN.out]
        go_wp2_with (first | (refine oL ?_; (first | refine sL1 hS rfl rfl rfl ?_ | refine sL2 hS rfl rfl rfl ?_ | refine sL3 hS rfl rfl ?_ | refine sL4 hS rfl rfl ?_ | refine sL5 hS rfl rfl ?_ | refine sL6 hS rfl rfl ?_ | refine sL7 hS rfl rfl ?_)) | (refine oS ?_; ((first | refine sS1 hS rfl rfl rfl ?_ | refine sS2 hS rfl rfl rfl ?_ | refine sS3 hS rfl rfl rfl ?_ | refine sS4 hS rfl rfl rfl ?_ | refine sS5 hS rfl rfl rfl ?_); clear hS; intro w hS)) | (refine oP ?_; ((first | refine sP1 hS rfl rfl rfl ?_ | refine sP2 hS rfl rfl rfl ?_ | refine sP3 hS rfl rfl rfl ?_); clear hS; first | ((fail_if_success guard_hyp L1); intro L1 cl1 w hL1 hM1 hS) | ((fail_if_success guard_hyp L2); intro L2 cl2 w hL2 hM2 hS) | ((fail_if_success guard_hyp L3); intro L3 cl3 w hL3 hM3 hS) | fail)) | ((first | refine sN1 hS rfl ?_ | (refine oC ?_; first | refine sC0 hS rfl ?_ | refine sC1 hS rfl rfl ?_ | refine sC2 hS rfl rfl ?_ | refine sC3 hS rfl rfl rfl ?_ | refine sC4 hS rfl rfl rfl ?_) | refine sM1 hS rfl rfl rfl ?_); clear hS; first | ((fail_if_success guard_hyp g1); intro g1 w hS) | ((fail_if_success guard_hyp g2); intro g2 w hS) | ((fail_if_success guard_hyp g3); intro g3 w hS) | ((fail_if_success guard_hyp g4); intro g4 w hS) | ((fail_if_success guard_hyp g5); intro g5 w hS) | ((fail_if_success guard_hyp g6); intro g6 w hS) | ((fail_if_success guard_hyp g7); intro g7 w hS) | ((fail_if_success guard_hyp g8); intro g8 w hS) | ((fail_if_success guard_hyp g9); intro g9 w hS) | ((fail_if_success guard_hyp g10); intro g10 w hS) | ((fail_if_success guard_hyp g11); intro g11 w hS) | fail) | fail)
        have HMC := Lib.hid (show MC n 0 0 xs.sum (newS xs) (Pat.none n) [] rs0 from by
          refine ⟨cons_new HX.out.1 (by omega) (by omega) HX.out.2.1, ?_, rfl, Nat.le_refl _⟩
          rw [HR0.out.2, ← HNN.out, ← HX.out.1]
          exact TrOk.start (by rw [HX.out.1]; omega) (by rw [HX.out.1]; omega))
        generalize xs.sum = tot at *
        generalize newS xs = s0 at *
        replace hS := (hS.addNil 71 4).addNil 3 1
        clear HX HR0
        go_loopw [12] (fun s12 wr => ∃ (i na ca cv : Nat) (L3 LV : Option Addr) (p : Pat) (vs : List Int) (rs : List QR) (A1 : Option Addr) (c1 : Nat) (A2 : Option Addr) (c2 : Nat) (A3 : Option Addr) (c3 : Nat) (A4 : Option Addr) (c4 : Nat) (A5 : Option Addr) (c5 : Nat) (A6 : Option Addr) (c6 : Nat) (A7 : Option Addr) (c7 : Nat) (s : Snp) (T : Nat → Prop) (u : World), i ≤ m ∧ s12 = .int .i64 i ∧ Hid (MC n i na tot s p vs rs) ∧ Hid (SnAt T u ⟨A1, c1, A2, c2, A3, c3, A4, c4, A5, c5, A6, c6, A7, c7⟩ s) ∧ St w0 NoM [blk g1 [.slice A1 n c1, .slice A2 n c2, .slice A3 nn c3, .slice A4 n c4, .slice A5 n c5, .slice A6 nn c6, .slice A7 nn c7] 56, blk gt [.slice (some ⟨gl, 0, none⟩) n n, .slice L n c, .slice L3 na ca, .slice LV na cv, .slice (some ⟨gq, 0, none⟩) nn nn] 52, row (.slice (some ⟨gl, 0, none⟩) n n) 3 1 n (ints p.len), row (.slice L3 na ca) 71 4 na (List.flatMap arcCells p.arcs), row (.slice LV na cv) 3 1 na (ints (vs)), row (.slice (some ⟨gq, 0, none⟩) nn nn) 24 1 nn (qvals (rs)), famC (qfam (rs)), froz T u, froz TK uk, froz N1 u1] wr) (fun s12 _ => m - (intOf s12).toNat)
        case atStart => exact ⟨0, 0, 0, 0, none, none, Pat.none n, [], rs0, A1, c1, A2, c2, A3, c3, A4, c4, A5, c5, A6, c6, A7, c7, s0, N2, u2, by omega, rfl, HMC, HSN, (show St w0 NoM [blk g1 [.slice A1 n c1, .slice A2 n c2, .slice A3 nn c3, .slice A4 n c4, .slice A5 n c5, .slice A6 nn c6, .slice A7 nn c7] 56, blk gt [.slice (some ⟨gl, 0, none⟩) n n, .slice L n c, .slice none 0 0, .slice none 0 0, .slice (some ⟨gq, 0, none⟩) nn nn] 52, row (.slice (some ⟨gl, 0, none⟩) n n) 3 1 n (ints (List.replicate n 0)), row (.slice none 0 0) 71 4 0 [], row (.slice none 0 0) 3 1 0 [], row (.slice (some ⟨gq, 0, none⟩) nn nn) 24 1 nn (qvals rs0), famC (qfam rs0), froz N2 u2, froz TK uk, froz N1 u1] _ from hS.re)⟩
        case round =>
          clear hS HSN HMC
          obtain ⟨i, na, ca, cv, L3, LV, p, vs, rs, A1, c1, A2, c2, A3, c3, A4, c4, A5, c5, A6, c6, A7, c7, s, T, u, hi, rfl, HMC, HSN, hS⟩ := hrel
          have HC := Lib.hid HMC.out.c.ok
          by_cases hlt2 : i < m
          · have hlt2' : (i : Int) < m := by omega
            obtain ⟨b1, o1, e1, hmv⟩ := mv_fcs HL.out.2 (i := i) (by rw [HL.out.1]; exact hlt2)
            subst e1
            generalize l[i]'(by rw [HL.out.1]; exact hlt2) = mv at *
            obtain ⟨kd, fr, tt, val⟩ := mv
            simp only at hmv
            have hmk : FC N1 u1 b1 (o1 + i * 4) (.int .i64 kd) := ⟨hmv.t, hmv.c 0 _ rfl⟩
            have hmf : FC N1 u1 b1 (o1 + i * 4 + 1) (.int .i64 fr) := ⟨hmv.t, hmv.c 1 _ rfl⟩
            have hmt : FC N1 u1 b1 (o1 + i * 4 + 2) (.int .i64 tt) := ⟨hmv.t, hmv.c 2 _ rfl⟩
            by_cases hr : refS s ⟨kd, fr, tt, val⟩ = 0
            · have HR := Lib.hid hr
              clear hr
              go_upto_region 16 with (first | (refine oL ?_; (first | refine sL1 hS rfl rfl rfl ?_ | refine sL2 hS rfl rfl rfl ?_ | refine sL3 hS rfl rfl ?_ | refine sL4 hS rfl rfl ?_ | refine sL5 hS rfl rfl ?_ | refine sL6 hS rfl rfl ?_ | refine sL7 hS rfl rfl ?_)) | (refine oS ?_; ((first | refine sS1 hS rfl rfl rfl ?_ | refine sS2 hS rfl rfl rfl ?_ | refine sS3 hS rfl rfl rfl ?_ | refine sS4 hS rfl rfl rfl ?_ | refine sS5 hS rfl rfl rfl ?_); clear hS; intro w hS)) | (refine oP ?_; ((first | refine sP1 hS rfl rfl rfl ?_ | refine sP2 hS rfl rfl rfl ?_ | refine sP3 hS rfl rfl rfl ?_); clear hS; first | ((fail_if_success guard_hyp L1); intro L1 cl1 w hL1 hM1 hS) | ((fail_if_success guard_hyp L2); intro L2 cl2 w hL2 hM2 hS) | ((fail_if_success guard_hyp L3); intro L3 cl3 w hL3 hM3 hS) | fail)) | ((first | refine sN1 hS rfl ?_ | (refine oC ?_; first | refine sC0 hS rfl ?_ | refine sC1 hS rfl rfl ?_ | refine sC2 hS rfl rfl ?_ | refine sC3 hS rfl rfl rfl ?_ | refine sC4 hS rfl rfl rfl ?_) | refine sM1 hS rfl rfl rfl ?_); clear hS; first | ((fail_if_success guard_hyp g1); intro g1 w hS) | ((fail_if_success guard_hyp g2); intro g2 w hS) | ((fail_if_success guard_hyp g3); intro g3 w hS) | ((fail_if_success guard_hyp g4); intro g4 w hS) | ((fail_if_success guard_hyp g5); intro g5 w hS) | ((fail_if_success guard_hyp g6); intro g6 w hS) | ((fail_if_success guard_hyp g7); intro g7 w hS) | ((fail_if_success guard_hyp g8); intro g8 w hS) | ((fail_if_success guard_hyp g9); intro g9 w hS) | ((fail_if_success guard_hyp g10); intro g10 w hS) | ((fail_if_success guard_hyp g11); intro g11 w hS) | fail) | fail)
              (try simp only [Act.put, nA, nB, nC])
              go_cut [13, 14] (fun s13 s14 wx => ∃ (g3 : Nat) (D1 : Option Addr) (j1 : Nat) (D2 : Option Addr) (j2 : Nat) (D3 : Option Addr) (j3 : Nat) (D4 : Option Addr) (j4 : Nat) (D5 : Option Addr) (j5 : Nat) (D6 : Option Addr) (j6 : Nat) (D7 : Option Addr) (j7 : Nat) (T2 : Nat → Prop) (u3 : World), s13 = .pointer (some ⟨g3, 0, none⟩) ∧ s14 = .int .i64 0 ∧ Hid (SnAt T2 u3 ⟨A1, c1, A2, c2, A3, c3, A4, c4, A5, c5, A6, c6, A7, c7⟩ s) ∧ Hid (SnAt T2 u3 ⟨D1, j1, D2, j2, D3, j3, D4, j4, D5, j5, D6, j6, D7, j7⟩ (goS s ⟨kd, fr, tt, val⟩)) ∧ St w0 NoM [blk g1 [.slice A1 n c1, .slice A2 n c2, .slice A3 nn c3, .slice A4 n c4, .slice A5 n c5, .slice A6 nn c6, .slice A7 nn c7] 56, blk g3 [.slice D1 n j1, .slice D2 n j2, .slice D3 nn j3, .slice D4 n j4, .slice D5 n j5, .slice D6 nn j6, .slice D7 nn j7] 56, blk gt [.slice (some ⟨gl, 0, none⟩) n n, .slice L n c, .slice L3 na ca, .slice LV na cv, .slice (some ⟨gq, 0, none⟩) nn nn] 52, row (.slice (some ⟨gl, 0, none⟩) n n) 3 1 n (ints p.len), row (.slice L3 na ca) 71 4 na (List.flatMap arcCells p.arcs), row (.slice LV na cv) 3 1 na (ints (vs)), row (.slice (some ⟨gq, 0, none⟩) nn nn) 24 1 nn (qvals (rs)), famC (qfam (rs)), froz T2 u3, froz TK uk, froz N1 u1] wx)
              case first =>
                refine dr_start0 []  hS (by kernel_rfl) rfl ?_; clear hS; intro w hS
                first | refine dL1 hS 0 rfl rfl rfl rfl ?_ | refine dL2 hS 0 rfl rfl rfl rfl ?_ | refine dL3 hS 0 rfl rfl rfl ?_ | refine dL4 hS 0 rfl rfl rfl ?_ | refine dL5 hS 0 rfl rfl rfl ?_ | refine dL6 hS 0 rfl rfl rfl ?_ | refine dL7 hS 0 rfl rfl rfl ?_
                (try simp only [Act.put, nA, nB, nC])
                refine dM hS 1 rfl rfl rfl ?_
                (try simp only [Act.put, nA, nB, nC])
                refine dM hS 2 rfl rfl rfl ?_
                (try simp only [Act.put, nA, nB, nC])
                refine dP hS 3 rfl rfl ?_
                (try simp only [Act.put, nA, nB, nC])
                first | refine dL1 hS 4 rfl rfl rfl rfl ?_ | refine dL2 hS 4 rfl rfl rfl rfl ?_ | refine dL3 hS 4 rfl rfl rfl ?_ | refine dL4 hS 4 rfl rfl rfl ?_ | refine dL5 hS 4 rfl rfl rfl ?_ | refine dL6 hS 4 rfl rfl rfl ?_ | refine dL7 hS 4 rfl rfl rfl ?_
                (try simp only [Act.put, nA, nB, nC])
                refine dr_two 5 9 (by kernel_rfl) rfl rfl ?_ ?_
                (refine st_call rfl (by kernel_rfl) rfl ?_; go_at_call 33; refine (step_n (HSN.out.into (hS.intoK (T := T) (u := u))) HC.out HNN.out (by omega) HR.out).mono ?_; rintro e w1 ⟨D1, j1, D2, j2, D3, j3, D4, j4, D5, j5, D6, j6, D7, j7, rfl, hsn, hx1⟩; obtain ⟨T1, hS1, hi1, hi0⟩ := hS.grow2 hx1; replace hS := hS1; clear hS1; have HS1 := Lib.hid (hsn.into hi1); clear hsn)
                (try simp only [Act.put, nA, nB, nC])
                refine dr_end hS ?_
                refine dM hS 6 rfl rfl rfl ?_
                (try simp only [Act.put, nA, nB, nC])
                refine dP hS 7 rfl rfl ?_
                (try simp only [Act.put, nA, nB, nC])
                refine dP hS 8 rfl rfl ?_
                (try simp only [Act.put, nA, nB, nC])
                refine dr_one 9 (by kernel_rfl) rfl ?_
                (refine sN1 hS rfl ?_; clear hS; first | ((fail_if_success guard_hyp g1); intro g1 w hS) | ((fail_if_success guard_hyp g2); intro g2 w hS) | ((fail_if_success guard_hyp g3); intro g3 w hS) | ((fail_if_success guard_hyp g4); intro g4 w hS) | ((fail_if_success guard_hyp g5); intro g5 w hS) | ((fail_if_success guard_hyp g6); intro g6 w hS) | ((fail_if_success guard_hyp g7); intro g7 w hS) | ((fail_if_success guard_hyp g8); intro g8 w hS) | ((fail_if_success guard_hyp g9); intro g9 w hS) | ((fail_if_success guard_hyp g10); intro g10 w hS) | ((fail_if_success guard_hyp g11); intro g11 w hS) | fail)
                (try simp only [Act.put, nA, nB, nC])
                refine dr_end hS ?_
                refine dr_one 10 (by kernel_rfl) rfl ?_
                ((first | refine sS1 hS rfl rfl rfl ?_ | refine sS2 hS rfl rfl rfl ?_ | refine sS3 hS rfl rfl rfl ?_ | refine sS4 hS rfl rfl rfl ?_ | refine sS5 hS rfl rfl rfl ?_); clear hS; intro w hS)
                (try simp only [Act.put, nA, nB, nC])
                refine dr_end hS ?_
                refine dA hS 11 rfl rfl rfl ?_
                (try simp only [Act.put, nA, nB, nC])
                refine dr_done (by kernel_rfl) ?_
                rotate_left
                (refine sN1 hS rfl ?_; clear hS; first | ((fail_if_success guard_hyp g1); intro g1 w hS) | ((fail_if_success guard_hyp g2); intro g2 w hS) | ((fail_if_success guard_hyp g3); intro g3 w hS) | ((fail_if_success guard_hyp g4); intro g4 w hS) | ((fail_if_success guard_hyp g5); intro g5 w hS) | ((fail_if_success guard_hyp g6); intro g6 w hS) | ((fail_if_success guard_hyp g7); intro g7 w hS) | ((fail_if_success guard_hyp g8); intro g8 w hS) | ((fail_if_success guard_hyp g9); intro g9 w hS) | ((fail_if_success guard_hyp g10); intro g10 w hS) | ((fail_if_success guard_hyp g11); intro g11 w hS) | fail)
                (try simp only [Act.put, nA, nB, nC])
                refine dr_end hS ?_
                refine dr_one 5 (by kernel_rfl) rfl ?_
                (refine st_call rfl (by kernel_rfl) rfl ?_; go_at_call 33; refine (step_n (HSN.out.into (hS.intoK (T := T) (u := u))) HC.out HNN.out (by omega) HR.out).mono ?_; rintro e w1 ⟨D1, j1, D2, j2, D3, j3, D4, j4, D5, j5, D6, j6, D7, j7, rfl, hsn, hx1⟩; obtain ⟨T1, hS1, hi1, hi0⟩ := hS.grow2 hx1; replace hS := hS1; clear hS1; have HS1 := Lib.hid (hsn.into hi1); clear hsn)
                (try simp only [Act.put, nA, nB, nC])
                refine dr_end hS ?_
                refine dM hS 6 rfl rfl rfl ?_
                (try simp only [Act.put, nA, nB, nC])
                refine dP hS 7 rfl rfl ?_
                (try simp only [Act.put, nA, nB, nC])
                refine dP hS 8 rfl rfl ?_
                (try simp only [Act.put, nA, nB, nC])
                refine dr_one 10 (by kernel_rfl) rfl ?_
                ((first | refine sS1 hS rfl rfl rfl ?_ | refine sS2 hS rfl rfl rfl ?_ | refine sS3 hS rfl rfl rfl ?_ | refine sS4 hS rfl rfl rfl ?_ | refine sS5 hS rfl rfl rfl ?_); clear hS; intro w hS)
                (try simp only [Act.put, nA, nB, nC])
                refine dr_end hS ?_
                refine dA hS 11 rfl rfl rfl ?_
                (try simp only [Act.put, nA, nB, nC])
                refine dr_done (by kernel_rfl) ?_
                rotate_left
                all_goals
                  go_wp2_with fail
                  obtain ⟨T2, hS2, hi2, hi3⟩ := hS.merge T1 w1 hi0
                  go_meet
                  exact ⟨_, D1, j1, D2, j2, D3, j3, D4, j4, D5, j5, D6, j6, D7, j7, T2, _, rfl, rfl, Lib.hid (HSN.out.into hi2), Lib.hid (HS1.out.into hi3), hS2.re⟩
              case rest =>
                clear hS HSN
                obtain ⟨g3, D1, j1, D2, j2, D3, j3, D4, j4, D5, j5, D6, j6, D7, j7, T2, u3, rfl, rfl, HN2, HS2, hS⟩ := hcut
                have hn5 : n ≤ 5 := by omega
                obtain ⟨p0, rfl, hp, hkd⟩ := mv_kinds HN2.out HC.out (by omega) HNN.out HR.out
                obtain ⟨hm1, hm2⟩ := mul_bd hp hn5
                rcases hkd with rfl | ⟨q0, rfl, hq, hne, hkn, hkd⟩
                · as_aux_lemma =>
                  have HM2 := Lib.hid (HMC.out.begin HR.out hp)
                  clear HMC HC HR
                  generalize p0 * n = pn at *
                  go_wp2_with (first | (refine oL ?_; (first | refine sL1 hS rfl rfl rfl ?_ | refine sL2 hS rfl rfl rfl ?_ | refine sL3 hS rfl rfl ?_ | refine sL4 hS rfl rfl ?_ | refine sL5 hS rfl rfl ?_ | refine sL6 hS rfl rfl ?_ | refine sL7 hS rfl rfl ?_)) | (refine oS ?_; ((first | refine sS1 hS rfl rfl rfl ?_ | refine sS2 hS rfl rfl rfl ?_ | refine sS3 hS rfl rfl rfl ?_ | refine sS4 hS rfl rfl rfl ?_ | refine sS5 hS rfl rfl rfl ?_); clear hS; intro w hS)) | (refine oP ?_; ((first | refine sP1 hS rfl rfl rfl ?_ | refine sP2 hS rfl rfl rfl ?_ | refine sP3 hS rfl rfl rfl ?_); clear hS; first | ((fail_if_success guard_hyp L1); intro L1 cl1 w hL1 hM1 hS) | ((fail_if_success guard_hyp L2); intro L2 cl2 w hL2 hM2 hS) | ((fail_if_success guard_hyp L3); intro L3 cl3 w hL3 hM3 hS) | fail)) | ((first | refine sN1 hS rfl ?_ | (refine oC ?_; first | refine sC0 hS rfl ?_ | refine sC1 hS rfl rfl ?_ | refine sC2 hS rfl rfl ?_ | refine sC3 hS rfl rfl rfl ?_ | refine sC4 hS rfl rfl rfl ?_) | refine sM1 hS rfl rfl rfl ?_); clear hS; first | ((fail_if_success guard_hyp g1); intro g1 w hS) | ((fail_if_success guard_hyp g2); intro g2 w hS) | ((fail_if_success guard_hyp g3); intro g3 w hS) | ((fail_if_success guard_hyp g4); intro g4 w hS) | ((fail_if_success guard_hyp g5); intro g5 w hS) | ((fail_if_success guard_hyp g6); intro g6 w hS) | ((fail_if_success guard_hyp g7); intro g7 w hS) | ((fail_if_success guard_hyp g8); intro g8 w hS) | ((fail_if_success guard_hyp g9); intro g9 w hS) | ((fail_if_success guard_hyp g10); intro g10 w hS) | ((fail_if_success guard_hyp g11); intro g11 w hS) | fail) | fail)
                  refine dr_start0 []  hS (by kernel_rfl) rfl ?_; clear hS; intro w hS
                  refine dM hS 0 rfl rfl rfl ?_
                  (try simp only [Act.put, nA, nB, nC])
                  refine dM hS 1 rfl rfl rfl ?_
                  (try simp only [Act.put, nA, nB, nC])
                  refine dP hS 2 rfl rfl ?_
                  (try simp only [Act.put, nA, nB, nC])
                  refine dP hS 3 rfl rfl ?_
                  (try simp only [Act.put, nA, nB, nC])
                  first | refine dL1 hS 4 rfl rfl rfl rfl ?_ | refine dL2 hS 4 rfl rfl rfl rfl ?_ | refine dL3 hS 4 rfl rfl rfl ?_ | refine dL4 hS 4 rfl rfl rfl ?_ | refine dL5 hS 4 rfl rfl rfl ?_ | refine dL6 hS 4 rfl rfl rfl ?_ | refine dL7 hS 4 rfl rfl rfl ?_
                  (try simp only [Act.put, nA, nB, nC])
                  refine dM hS 5 rfl rfl rfl ?_
                  (try simp only [Act.put, nA, nB, nC])
                  refine dP hS 6 rfl rfl ?_
                  (try simp only [Act.put, nA, nB, nC])
                  refine dM hS 7 rfl rfl rfl ?_
                  (try simp only [Act.put, nA, nB, nC])
                  refine dM hS 8 rfl rfl rfl ?_
                  (try simp only [Act.put, nA, nB, nC])
                  refine dP hS 9 rfl rfl ?_
                  (try simp only [Act.put, nA, nB, nC])
                  refine dP hS 10 rfl rfl ?_
                  (try simp only [Act.put, nA, nB, nC])
                  first | refine dL1 hS 11 rfl rfl rfl rfl ?_ | refine dL2 hS 11 rfl rfl rfl rfl ?_ | refine dL3 hS 11 rfl rfl rfl ?_ | refine dL4 hS 11 rfl rfl rfl ?_ | refine dL5 hS 11 rfl rfl rfl ?_ | refine dL6 hS 11 rfl rfl rfl ?_ | refine dL7 hS 11 rfl rfl rfl ?_
                  (try simp only [Act.put, nA, nB, nC])
                  refine dP hS 12 rfl rfl ?_
                  (try simp only [Act.put, nA, nB, nC])
                  refine dA hS 13 rfl rfl rfl ?_
                  (try simp only [Act.put, nA, nB, nC])
                  refine dr_done (by kernel_rfl) ?_
                  go_upto_region 19 with (first | (refine oL ?_; (first | refine sL1 hS rfl rfl rfl ?_ | refine sL2 hS rfl rfl rfl ?_ | refine sL3 hS rfl rfl ?_ | refine sL4 hS rfl rfl ?_ | refine sL5 hS rfl rfl ?_ | refine sL6 hS rfl rfl ?_ | refine sL7 hS rfl rfl ?_)) | (refine oS ?_; ((first | refine sS1 hS rfl rfl rfl ?_ | refine sS2 hS rfl rfl rfl ?_ | refine sS3 hS rfl rfl rfl ?_ | refine sS4 hS rfl rfl rfl ?_ | refine sS5 hS rfl rfl rfl ?_); clear hS; intro w hS)) | (refine oP ?_; ((first | refine sP1 hS rfl rfl rfl ?_ | refine sP2 hS rfl rfl rfl ?_ | refine sP3 hS rfl rfl rfl ?_); clear hS; first | ((fail_if_success guard_hyp L1); intro L1 cl1 w hL1 hM1 hS) | ((fail_if_success guard_hyp L2); intro L2 cl2 w hL2 hM2 hS) | ((fail_if_success guard_hyp L3); intro L3 cl3 w hL3 hM3 hS) | fail)) | ((first | refine sN1 hS rfl ?_ | (refine oC ?_; first | refine sC0 hS rfl ?_ | refine sC1 hS rfl rfl ?_ | refine sC2 hS rfl rfl ?_ | refine sC3 hS rfl rfl rfl ?_ | refine sC4 hS rfl rfl rfl ?_) | refine sM1 hS rfl rfl rfl ?_); clear hS; first | ((fail_if_success guard_hyp g1); intro g1 w hS) | ((fail_if_success guard_hyp g2); intro g2 w hS) | ((fail_if_success guard_hyp g3); intro g3 w hS) | ((fail_if_success guard_hyp g4); intro g4 w hS) | ((fail_if_success guard_hyp g5); intro g5 w hS) | ((fail_if_success guard_hyp g6); intro g6 w hS) | ((fail_if_success guard_hyp g7); intro g7 w hS) | ((fail_if_success guard_hyp g8); intro g8 w hS) | ((fail_if_success guard_hyp g9); intro g9 w hS) | ((fail_if_success guard_hyp g10); intro g10 w hS) | ((fail_if_success guard_hyp g11); intro g11 w hS) | fail) | fail)
                  refine lR ?_
                  refine lM rfl rfl ?_
                  (try simp only [Act.put, nA, nB, nC])
                  refine lM rfl rfl ?_
                  (try simp only [Act.put, nA, nB, nC])
                  refine lP rfl ?_
                  (try simp only [Act.put, nA, nB, nC])
                  refine lP rfl ?_
                  (try simp only [Act.put, nA, nB, nC])
                  (refine ⟨?_⟩; ((first | refine sL1 hS rfl rfl rfl ?_ | refine sL2 hS rfl rfl rfl ?_ | refine sL3 hS rfl rfl ?_ | refine sL4 hS rfl rfl ?_ | refine sL5 hS rfl rfl ?_ | refine sL6 hS rfl rfl ?_ | refine sL7 hS rfl rfl ?_)); refine WL.h ?_)
                  (try simp only [Act.put, nA, nB, nC])
                  refine lP rfl ?_
                  (try simp only [Act.put, nA, nB, nC])
                  refine lM rfl rfl ?_
                  (try simp only [Act.put, nA, nB, nC])
                  first | refine lQ rfl ?_ | refine lM rfl rfl ?_ | fail
                  (try simp only [Act.put, nA, nB, nC])
                  first | refine lQ rfl ?_ | refine lP rfl ?_ | fail
                  (try simp only [Act.put, nA, nB, nC])
                  first | refine lQ rfl ?_ | (refine ⟨?_⟩; ((first | refine sL1 hS rfl rfl rfl ?_ | refine sL2 hS rfl rfl rfl ?_ | refine sL3 hS rfl rfl ?_ | refine sL4 hS rfl rfl ?_ | refine sL5 hS rfl rfl ?_ | refine sL6 hS rfl rfl ?_ | refine sL7 hS rfl rfl ?_)); refine WL.h ?_) | fail
                  (try simp only [Act.put, nA, nB, nC])
                  first | refine lQ rfl ?_ | refine lP rfl ?_ | fail
                  (try simp only [Act.put, nA, nB, nC])
                  first | refine lQ rfl ?_ | refine lP rfl ?_ | fail
                  (try simp only [Act.put, nA, nB, nC])
                  first | refine lQ rfl ?_ | refine lM rfl rfl ?_ | fail
                  (try simp only [Act.put, nA, nB, nC])
                  first | refine lQ rfl ?_ | refine lP rfl ?_ | fail
                  (try simp only [Act.put, nA, nB, nC])
                  first | refine lQ rfl ?_ | (refine ⟨?_⟩; ((first | refine sL1 hS rfl rfl rfl ?_ | refine sL2 hS rfl rfl rfl ?_ | refine sL3 hS rfl rfl ?_ | refine sL4 hS rfl rfl ?_ | refine sL5 hS rfl rfl ?_ | refine sL6 hS rfl rfl ?_ | refine sL7 hS rfl rfl ?_)); refine WL.h ?_) | fail
                  (try simp only [Act.put, nA, nB, nC])
                  first | refine lQ rfl ?_ | refine lM rfl rfl ?_ | fail
                  (try simp only [Act.put, nA, nB, nC])
                  first | refine lQ rfl ?_ | refine lP rfl ?_ | fail
                  (try simp only [Act.put, nA, nB, nC])
                  first | refine lQ rfl ?_ | (refine ⟨?_⟩; ((first | refine sL1 hS rfl rfl rfl ?_ | refine sL2 hS rfl rfl rfl ?_ | refine sL3 hS rfl rfl ?_ | refine sL4 hS rfl rfl ?_ | refine sL5 hS rfl rfl ?_ | refine sL6 hS rfl rfl ?_ | refine sL7 hS rfl rfl ?_)); refine WL.h ?_) | fail
                  (try simp only [Act.put, nA, nB, nC])
                  first | refine lQ rfl ?_ | refine lP rfl ?_ | fail
                  (try simp only [Act.put, nA, nB, nC])
                  first | refine lQ rfl ?_ | refine lP rfl ?_ | fail
                  (try simp only [Act.put, nA, nB, nC])
                  first | refine lQ rfl ?_ | refine lP rfl ?_ | fail
                  (try simp only [Act.put, nA, nB, nC])
                  refine lP rfl ?_
                  (try simp only [Act.put, nA, nB, nC])
                  refine lZ ?_
                  go_upto_region 21 with (first | (refine oL ?_; (first | refine sL1 hS rfl rfl rfl ?_ | refine sL2 hS rfl rfl rfl ?_ | refine sL3 hS rfl rfl ?_ | refine sL4 hS rfl rfl ?_ | refine sL5 hS rfl rfl ?_ | refine sL6 hS rfl rfl ?_ | refine sL7 hS rfl rfl ?_)) | (refine oS ?_; ((first | refine sS1 hS rfl rfl rfl ?_ | refine sS2 hS rfl rfl rfl ?_ | refine sS3 hS rfl rfl rfl ?_ | refine sS4 hS rfl rfl rfl ?_ | refine sS5 hS rfl rfl rfl ?_); clear hS; intro w hS)) | (refine oP ?_; ((first | refine sP1 hS rfl rfl rfl ?_ | refine sP2 hS rfl rfl rfl ?_ | refine sP3 hS rfl rfl rfl ?_); clear hS; first | ((fail_if_success guard_hyp L1); intro L1 cl1 w hL1 hM1 hS) | ((fail_if_success guard_hyp L2); intro L2 cl2 w hL2 hM2 hS) | ((fail_if_success guard_hyp L3); intro L3 cl3 w hL3 hM3 hS) | fail)) | ((first | refine sN1 hS rfl ?_ | (refine oC ?_; first | refine sC0 hS rfl ?_ | refine sC1 hS rfl rfl ?_ | refine sC2 hS rfl rfl ?_ | refine sC3 hS rfl rfl rfl ?_ | refine sC4 hS rfl rfl rfl ?_) | refine sM1 hS rfl rfl rfl ?_); clear hS; first | ((fail_if_success guard_hyp g1); intro g1 w hS) | ((fail_if_success guard_hyp g2); intro g2 w hS) | ((fail_if_success guard_hyp g3); intro g3 w hS) | ((fail_if_success guard_hyp g4); intro g4 w hS) | ((fail_if_success guard_hyp g5); intro g5 w hS) | ((fail_if_success guard_hyp g6); intro g6 w hS) | ((fail_if_success guard_hyp g7); intro g7 w hS) | ((fail_if_success guard_hyp g8); intro g8 w hS) | ((fail_if_success guard_hyp g9); intro g9 w hS) | ((fail_if_success guard_hyp g10); intro g10 w hS) | ((fail_if_success guard_hyp g11); intro g11 w hS) | fail) | fail)
                  refine lR ?_
                  refine lM rfl rfl ?_
                  (try simp only [Act.put, nA, nB, nC])
                  refine lM rfl rfl ?_
                  (try simp only [Act.put, nA, nB, nC])
                  refine lP rfl ?_
                  (try simp only [Act.put, nA, nB, nC])
                  refine lP rfl ?_
                  (try simp only [Act.put, nA, nB, nC])
                  (refine ⟨?_⟩; ((first | refine sL1 hS rfl rfl rfl ?_ | refine sL2 hS rfl rfl rfl ?_ | refine sL3 hS rfl rfl ?_ | refine sL4 hS rfl rfl ?_ | refine sL5 hS rfl rfl ?_ | refine sL6 hS rfl rfl ?_ | refine sL7 hS rfl rfl ?_)); refine WL.h ?_)
                  (try simp only [Act.put, nA, nB, nC])
                  refine lP rfl ?_
                  (try simp only [Act.put, nA, nB, nC])
                  refine lM rfl rfl ?_
                  (try simp only [Act.put, nA, nB, nC])
                  first | refine lQ rfl ?_ | refine lP rfl ?_ | fail
                  (try simp only [Act.put, nA, nB, nC])
                  first | refine lQ rfl ?_ | (refine ⟨?_⟩; ((first | refine sL1 hS rfl rfl rfl ?_ | refine sL2 hS rfl rfl rfl ?_ | refine sL3 hS rfl rfl ?_ | refine sL4 hS rfl rfl ?_ | refine sL5 hS rfl rfl ?_ | refine sL6 hS rfl rfl ?_ | refine sL7 hS rfl rfl ?_)); refine WL.h ?_) | fail
                  (try simp only [Act.put, nA, nB, nC])
                  first | refine lQ rfl ?_ | refine lM rfl rfl ?_ | fail
                  (try simp only [Act.put, nA, nB, nC])
                  first | refine lQ rfl ?_ | refine lP rfl ?_ | fail
                  (try simp only [Act.put, nA, nB, nC])
                  first | refine lQ rfl ?_ | (refine ⟨?_⟩; ((first | refine sL1 hS rfl rfl rfl ?_ | refine sL2 hS rfl rfl rfl ?_ | refine sL3 hS rfl rfl ?_ | refine sL4 hS rfl rfl ?_ | refine sL5 hS rfl rfl ?_ | refine sL6 hS rfl rfl ?_ | refine sL7 hS rfl rfl ?_)); refine WL.h ?_) | fail
                  (try simp only [Act.put, nA, nB, nC])
                  first | refine lQ rfl ?_ | refine lP rfl ?_ | fail
                  (try simp only [Act.put, nA, nB, nC])
                  first | refine lQ rfl ?_ | refine lP rfl ?_ | fail
                  (try simp only [Act.put, nA, nB, nC])
                  first | refine lQ rfl ?_ | (refine ⟨?_⟩; ((first | refine sL1 hS rfl rfl rfl ?_ | refine sL2 hS rfl rfl rfl ?_ | refine sL3 hS rfl rfl ?_ | refine sL4 hS rfl rfl ?_ | refine sL5 hS rfl rfl ?_ | refine sL6 hS rfl rfl ?_ | refine sL7 hS rfl rfl ?_)); refine WL.h ?_) | fail
                  (try simp only [Act.put, nA, nB, nC])
                  first | refine lQ rfl ?_ | refine lP rfl ?_ | fail
                  (try simp only [Act.put, nA, nB, nC])
                  refine lP rfl ?_
                  (try simp only [Act.put, nA, nB, nC])
                  refine lZ ?_
                  go_upto_region 22 with (first | (refine oL ?_; (first | refine sL1 hS rfl rfl rfl ?_ | refine sL2 hS rfl rfl rfl ?_ | refine sL3 hS rfl rfl ?_ | refine sL4 hS rfl rfl ?_ | refine sL5 hS rfl rfl ?_ | refine sL6 hS rfl rfl ?_ | refine sL7 hS rfl rfl ?_)) | (refine oS ?_; ((first | refine sS1 hS rfl rfl rfl ?_ | refine sS2 hS rfl rfl rfl ?_ | refine sS3 hS rfl rfl rfl ?_ | refine sS4 hS rfl rfl rfl ?_ | refine sS5 hS rfl rfl rfl ?_); clear hS; intro w hS)) | (refine oP ?_; ((first | refine sP1 hS rfl rfl rfl ?_ | refine sP2 hS rfl rfl rfl ?_ | refine sP3 hS rfl rfl rfl ?_); clear hS; first | ((fail_if_success guard_hyp L1); intro L1 cl1 w hL1 hM1 hS) | ((fail_if_success guard_hyp L2); intro L2 cl2 w hL2 hM2 hS) | ((fail_if_success guard_hyp L3); intro L3 cl3 w hL3 hM3 hS) | fail)) | ((first | refine sN1 hS rfl ?_ | (refine oC ?_; first | refine sC0 hS rfl ?_ | refine sC1 hS rfl rfl ?_ | refine sC2 hS rfl rfl ?_ | refine sC3 hS rfl rfl rfl ?_ | refine sC4 hS rfl rfl rfl ?_) | refine sM1 hS rfl rfl rfl ?_); clear hS; first | ((fail_if_success guard_hyp g1); intro g1 w hS) | ((fail_if_success guard_hyp g2); intro g2 w hS) | ((fail_if_success guard_hyp g3); intro g3 w hS) | ((fail_if_success guard_hyp g4); intro g4 w hS) | ((fail_if_success guard_hyp g5); intro g5 w hS) | ((fail_if_success guard_hyp g6); intro g6 w hS) | ((fail_if_success guard_hyp g7); intro g7 w hS) | ((fail_if_success guard_hyp g8); intro g8 w hS) | ((fail_if_success guard_hyp g9); intro g9 w hS) | ((fail_if_success guard_hyp g10); intro g10 w hS) | ((fail_if_success guard_hyp g11); intro g11 w hS) | fail) | fail)
                  refine lR ?_
                  refine lM rfl rfl ?_
                  (try simp only [Act.put, nA, nB, nC])
                  refine lM rfl rfl ?_
                  (try simp only [Act.put, nA, nB, nC])
                  refine lP rfl ?_
                  (try simp only [Act.put, nA, nB, nC])
                  refine lP rfl ?_
                  (try simp only [Act.put, nA, nB, nC])
                  (refine ⟨?_⟩; ((first | refine sL1 hS rfl rfl rfl ?_ | refine sL2 hS rfl rfl rfl ?_ | refine sL3 hS rfl rfl ?_ | refine sL4 hS rfl rfl ?_ | refine sL5 hS rfl rfl ?_ | refine sL6 hS rfl rfl ?_ | refine sL7 hS rfl rfl ?_)); refine WL.h ?_)
                  (try simp only [Act.put, nA, nB, nC])
                  refine lP rfl ?_
                  (try simp only [Act.put, nA, nB, nC])
                  refine lM rfl rfl ?_
                  (try simp only [Act.put, nA, nB, nC])
                  first | refine lQ rfl ?_ | refine lM rfl rfl ?_ | fail
                  (try simp only [Act.put, nA, nB, nC])
                  first | refine lQ rfl ?_ | refine lP rfl ?_ | fail
                  (try simp only [Act.put, nA, nB, nC])
                  first | refine lQ rfl ?_ | refine lP rfl ?_ | fail
                  (try simp only [Act.put, nA, nB, nC])
                  first | refine lQ rfl ?_ | (refine ⟨?_⟩; ((first | refine sL1 hS rfl rfl rfl ?_ | refine sL2 hS rfl rfl rfl ?_ | refine sL3 hS rfl rfl ?_ | refine sL4 hS rfl rfl ?_ | refine sL5 hS rfl rfl ?_ | refine sL6 hS rfl rfl ?_ | refine sL7 hS rfl rfl ?_)); refine WL.h ?_) | fail
                  (try simp only [Act.put, nA, nB, nC])
                  first | refine lQ rfl ?_ | refine lM rfl rfl ?_ | fail
                  (try simp only [Act.put, nA, nB, nC])
                  first | refine lQ rfl ?_ | refine lP rfl ?_ | fail
                  (try simp only [Act.put, nA, nB, nC])
                  first | refine lQ rfl ?_ | (refine ⟨?_⟩; ((first | refine sL1 hS rfl rfl rfl ?_ | refine sL2 hS rfl rfl rfl ?_ | refine sL3 hS rfl rfl ?_ | refine sL4 hS rfl rfl ?_ | refine sL5 hS rfl rfl ?_ | refine sL6 hS rfl rfl ?_ | refine sL7 hS rfl rfl ?_)); refine WL.h ?_) | fail
                  (try simp only [Act.put, nA, nB, nC])
                  first | refine lQ rfl ?_ | refine lP rfl ?_ | fail
                  (try simp only [Act.put, nA, nB, nC])
                  first | refine lQ rfl ?_ | refine lP rfl ?_ | fail
                  (try simp only [Act.put, nA, nB, nC])
                  refine lP rfl ?_
                  (try simp only [Act.put, nA, nB, nC])
                  refine lZ ?_
                  go_wp2_with (first | (go_at_call 34; refine (noteB_st gt n _ _ _ hS).mono ?_; rintro e w ⟨rfl, hS1⟩; replace hS := hS1; clear hS1) | (refine oL ?_; (first | refine sL1 hS rfl rfl rfl ?_ | refine sL2 hS rfl rfl rfl ?_ | refine sL3 hS rfl rfl ?_ | refine sL4 hS rfl rfl ?_ | refine sL5 hS rfl rfl ?_ | refine sL6 hS rfl rfl ?_ | refine sL7 hS rfl rfl ?_)) | (refine oS ?_; ((first | refine sS1 hS rfl rfl rfl ?_ | refine sS2 hS rfl rfl rfl ?_ | refine sS3 hS rfl rfl rfl ?_ | refine sS4 hS rfl rfl rfl ?_ | refine sS5 hS rfl rfl rfl ?_); clear hS; intro w hS)) | (refine oP ?_; ((first | refine sP1 hS rfl rfl rfl ?_ | refine sP2 hS rfl rfl rfl ?_ | refine sP3 hS rfl rfl rfl ?_); clear hS; first | ((fail_if_success guard_hyp L1); intro L1 cl1 w hL1 hM1 hS) | ((fail_if_success guard_hyp L2); intro L2 cl2 w hL2 hM2 hS) | ((fail_if_success guard_hyp L3); intro L3 cl3 w hL3 hM3 hS) | fail)) | ((first | refine sN1 hS rfl ?_ | (refine oC ?_; first | refine sC0 hS rfl ?_ | refine sC1 hS rfl rfl ?_ | refine sC2 hS rfl rfl ?_ | refine sC3 hS rfl rfl rfl ?_ | refine sC4 hS rfl rfl rfl ?_) | refine sM1 hS rfl rfl rfl ?_); clear hS; first | ((fail_if_success guard_hyp g1); intro g1 w hS) | ((fail_if_success guard_hyp g2); intro g2 w hS) | ((fail_if_success guard_hyp g3); intro g3 w hS) | ((fail_if_success guard_hyp g4); intro g4 w hS) | ((fail_if_success guard_hyp g5); intro g5 w hS) | ((fail_if_success guard_hyp g6); intro g6 w hS) | ((fail_if_success guard_hyp g7); intro g7 w hS) | ((fail_if_success guard_hyp g8); intro g8 w hS) | ((fail_if_success guard_hyp g9); intro g9 w hS) | ((fail_if_success guard_hyp g10); intro g10 w hS) | ((fail_if_success guard_hyp g11); intro g11 w hS) | fail) | fail)
                  go_roundw
                  case measure => simp [intOf]; omega
                  exact ⟨i + 1, na, ca, cv, L3, LV, p, vs, rs, D1, j1, D2, j2, D3, j3, D4, j4, D5, j5, D6, j6, D7, j7, _, T2, u3, by omega, by go_num, HM2, HS2, hS.re⟩
                · have hkn' : ((p0 * n : Nat) : Int) + (q0 : Int) < nn := by omega
                  rcases hkd with rfl | ⟨rfl, hh⟩
                  · as_aux_lemma =>
                    have HM2 := Lib.hid (fun A c => HMC.out.send (by omega) HR.out hp hq hne A c)
                    have HN := Lib.hid (And.intro HMC.out.pl (And.intro (HMC.out.rl.trans HNN.out) (And.intro HMC.out.na_ (And.intro HMC.out.vl (And.intro (HMC.out.cnt (by omega) hp) (HMC.out.ql (by omega)))))))
                    have hnale := HMC.out.le
                    clear HMC HC HR
                    generalize hpn : p0 * n = pn at *
                    have HPN := Lib.hid hpn
                    clear hpn
                    go_wp2_with (first | (refine oL ?_; (first | refine sL1 hS rfl rfl rfl ?_ | refine sL2 hS rfl rfl rfl ?_ | refine sL3 hS rfl rfl ?_ | refine sL4 hS rfl rfl ?_ | refine sL5 hS rfl rfl ?_ | refine sL6 hS rfl rfl ?_ | refine sL7 hS rfl rfl ?_)) | (refine oS ?_; ((first | refine sS1 hS rfl rfl rfl ?_ | refine sS2 hS rfl rfl rfl ?_ | refine sS3 hS rfl rfl rfl ?_ | refine sS4 hS rfl rfl rfl ?_ | refine sS5 hS rfl rfl rfl ?_); clear hS; intro w hS)) | (refine oP ?_; ((first | refine sP1 hS rfl rfl rfl ?_ | refine sP2 hS rfl rfl rfl ?_ | refine sP3 hS rfl rfl rfl ?_); clear hS; first | ((fail_if_success guard_hyp L1); intro L1 cl1 w hL1 hM1 hS) | ((fail_if_success guard_hyp L2); intro L2 cl2 w hL2 hM2 hS) | ((fail_if_success guard_hyp L3); intro L3 cl3 w hL3 hM3 hS) | fail)) | ((first | refine sN1 hS rfl ?_ | (refine oC ?_; first | refine sC0 hS rfl ?_ | refine sC1 hS rfl rfl ?_ | refine sC2 hS rfl rfl ?_ | refine sC3 hS rfl rfl rfl ?_ | refine sC4 hS rfl rfl rfl ?_) | refine sM1 hS rfl rfl rfl ?_); clear hS; first | ((fail_if_success guard_hyp g1); intro g1 w hS) | ((fail_if_success guard_hyp g2); intro g2 w hS) | ((fail_if_success guard_hyp g3); intro g3 w hS) | ((fail_if_success guard_hyp g4); intro g4 w hS) | ((fail_if_success guard_hyp g5); intro g5 w hS) | ((fail_if_success guard_hyp g6); intro g6 w hS) | ((fail_if_success guard_hyp g7); intro g7 w hS) | ((fail_if_success guard_hyp g8); intro g8 w hS) | ((fail_if_success guard_hyp g9); intro g9 w hS) | ((fail_if_success guard_hyp g10); intro g10 w hS) | ((fail_if_success guard_hyp g11); intro g11 w hS) | fail) | fail)
                    refine dr_start0 []  hS (by kernel_rfl) rfl ?_; clear hS; intro w hS
                    refine dM hS 0 rfl rfl rfl ?_
                    (try simp only [Act.put, nA, nB, nC])
                    refine dM hS 1 rfl rfl rfl ?_
                    (try simp only [Act.put, nA, nB, nC])
                    refine dP hS 2 rfl rfl ?_
                    (try simp only [Act.put, nA, nB, nC])
                    refine dP hS 3 rfl rfl ?_
                    (try simp only [Act.put, nA, nB, nC])
                    first | refine dL1 hS 4 rfl rfl rfl rfl ?_ | refine dL2 hS 4 rfl rfl rfl rfl ?_ | refine dL3 hS 4 rfl rfl rfl ?_ | refine dL4 hS 4 rfl rfl rfl ?_ | refine dL5 hS 4 rfl rfl rfl ?_ | refine dL6 hS 4 rfl rfl rfl ?_ | refine dL7 hS 4 rfl rfl rfl ?_
                    (try simp only [Act.put, nA, nB, nC])
                    refine dM hS 5 rfl rfl rfl ?_
                    (try simp only [Act.put, nA, nB, nC])
                    refine dP hS 6 rfl rfl ?_
                    (try simp only [Act.put, nA, nB, nC])
                    refine dM hS 7 rfl rfl rfl ?_
                    (try simp only [Act.put, nA, nB, nC])
                    refine dM hS 8 rfl rfl rfl ?_
                    (try simp only [Act.put, nA, nB, nC])
                    refine dP hS 9 rfl rfl ?_
                    (try simp only [Act.put, nA, nB, nC])
                    refine dP hS 10 rfl rfl ?_
                    (try simp only [Act.put, nA, nB, nC])
                    first | refine dL1 hS 11 rfl rfl rfl rfl ?_ | refine dL2 hS 11 rfl rfl rfl rfl ?_ | refine dL3 hS 11 rfl rfl rfl ?_ | refine dL4 hS 11 rfl rfl rfl ?_ | refine dL5 hS 11 rfl rfl rfl ?_ | refine dL6 hS 11 rfl rfl rfl ?_ | refine dL7 hS 11 rfl rfl rfl ?_
                    (try simp only [Act.put, nA, nB, nC])
                    refine dP hS 12 rfl rfl ?_
                    (try simp only [Act.put, nA, nB, nC])
                    refine dA hS 13 rfl rfl rfl ?_
                    (try simp only [Act.put, nA, nB, nC])
                    refine dr_done (by kernel_rfl) ?_
                    go_upto_region 19 with (first | (refine oL ?_; (first | refine sL1 hS rfl rfl rfl ?_ | refine sL2 hS rfl rfl rfl ?_ | refine sL3 hS rfl rfl ?_ | refine sL4 hS rfl rfl ?_ | refine sL5 hS rfl rfl ?_ | refine sL6 hS rfl rfl ?_ | refine sL7 hS rfl rfl ?_)) | (refine oS ?_; ((first | refine sS1 hS rfl rfl rfl ?_ | refine sS2 hS rfl rfl rfl ?_ | refine sS3 hS rfl rfl rfl ?_ | refine sS4 hS rfl rfl rfl ?_ | refine sS5 hS rfl rfl rfl ?_); clear hS; intro w hS)) | (refine oP ?_; ((first | refine sP1 hS rfl rfl rfl ?_ | refine sP2 hS rfl rfl rfl ?_ | refine sP3 hS rfl rfl rfl ?_); clear hS; first | ((fail_if_success guard_hyp L1); intro L1 cl1 w hL1 hM1 hS) | ((fail_if_success guard_hyp L2); intro L2 cl2 w hL2 hM2 hS) | ((fail_if_success guard_hyp L3); intro L3 cl3 w hL3 hM3 hS) | fail)) | ((first | refine sN1 hS rfl ?_ | (refine oC ?_; first | refine sC0 hS rfl ?_ | refine sC1 hS rfl rfl ?_ | refine sC2 hS rfl rfl ?_ | refine sC3 hS rfl rfl rfl ?_ | refine sC4 hS rfl rfl rfl ?_) | refine sM1 hS rfl rfl rfl ?_); clear hS; first | ((fail_if_success guard_hyp g1); intro g1 w hS) | ((fail_if_success guard_hyp g2); intro g2 w hS) | ((fail_if_success guard_hyp g3); intro g3 w hS) | ((fail_if_success guard_hyp g4); intro g4 w hS) | ((fail_if_success guard_hyp g5); intro g5 w hS) | ((fail_if_success guard_hyp g6); intro g6 w hS) | ((fail_if_success guard_hyp g7); intro g7 w hS) | ((fail_if_success guard_hyp g8); intro g8 w hS) | ((fail_if_success guard_hyp g9); intro g9 w hS) | ((fail_if_success guard_hyp g10); intro g10 w hS) | ((fail_if_success guard_hyp g11); intro g11 w hS) | fail) | fail)
                    refine lR ?_
                    refine lM rfl rfl ?_
                    (try simp only [Act.put, nA, nB, nC])
                    refine lM rfl rfl ?_
                    (try simp only [Act.put, nA, nB, nC])
                    refine lP rfl ?_
                    (try simp only [Act.put, nA, nB, nC])
                    refine lP rfl ?_
                    (try simp only [Act.put, nA, nB, nC])
                    (refine ⟨?_⟩; ((first | refine sL1 hS rfl rfl rfl ?_ | refine sL2 hS rfl rfl rfl ?_ | refine sL3 hS rfl rfl ?_ | refine sL4 hS rfl rfl ?_ | refine sL5 hS rfl rfl ?_ | refine sL6 hS rfl rfl ?_ | refine sL7 hS rfl rfl ?_)); refine WL.h ?_)
                    (try simp only [Act.put, nA, nB, nC])
                    refine lP rfl ?_
                    (try simp only [Act.put, nA, nB, nC])
                    refine lM rfl rfl ?_
                    (try simp only [Act.put, nA, nB, nC])
                    first | refine lQ rfl ?_ | refine lM rfl rfl ?_ | fail
                    (try simp only [Act.put, nA, nB, nC])
                    first | refine lQ rfl ?_ | refine lP rfl ?_ | fail
                    (try simp only [Act.put, nA, nB, nC])
                    first | refine lQ rfl ?_ | (refine ⟨?_⟩; ((first | refine sL1 hS rfl rfl rfl ?_ | refine sL2 hS rfl rfl rfl ?_ | refine sL3 hS rfl rfl ?_ | refine sL4 hS rfl rfl ?_ | refine sL5 hS rfl rfl ?_ | refine sL6 hS rfl rfl ?_ | refine sL7 hS rfl rfl ?_)); refine WL.h ?_) | fail
                    (try simp only [Act.put, nA, nB, nC])
                    first | refine lQ rfl ?_ | refine lP rfl ?_ | fail
                    (try simp only [Act.put, nA, nB, nC])
                    first | refine lQ rfl ?_ | refine lP rfl ?_ | fail
                    (try simp only [Act.put, nA, nB, nC])
                    first | refine lQ rfl ?_ | refine lM rfl rfl ?_ | fail
                    (try simp only [Act.put, nA, nB, nC])
                    first | refine lQ rfl ?_ | refine lP rfl ?_ | fail
                    (try simp only [Act.put, nA, nB, nC])
                    first | refine lQ rfl ?_ | (refine ⟨?_⟩; ((first | refine sL1 hS rfl rfl rfl ?_ | refine sL2 hS rfl rfl rfl ?_ | refine sL3 hS rfl rfl ?_ | refine sL4 hS rfl rfl ?_ | refine sL5 hS rfl rfl ?_ | refine sL6 hS rfl rfl ?_ | refine sL7 hS rfl rfl ?_)); refine WL.h ?_) | fail
                    (try simp only [Act.put, nA, nB, nC])
                    first | refine lQ rfl ?_ | refine lM rfl rfl ?_ | fail
                    (try simp only [Act.put, nA, nB, nC])
                    first | refine lQ rfl ?_ | refine lP rfl ?_ | fail
                    (try simp only [Act.put, nA, nB, nC])
                    first | refine lQ rfl ?_ | (refine ⟨?_⟩; ((first | refine sL1 hS rfl rfl rfl ?_ | refine sL2 hS rfl rfl rfl ?_ | refine sL3 hS rfl rfl ?_ | refine sL4 hS rfl rfl ?_ | refine sL5 hS rfl rfl ?_ | refine sL6 hS rfl rfl ?_ | refine sL7 hS rfl rfl ?_)); refine WL.h ?_) | fail
                    (try simp only [Act.put, nA, nB, nC])
                    first | refine lQ rfl ?_ | refine lP rfl ?_ | fail
                    (try simp only [Act.put, nA, nB, nC])
                    first | refine lQ rfl ?_ | refine lP rfl ?_ | fail
                    (try simp only [Act.put, nA, nB, nC])
                    first | refine lQ rfl ?_ | refine lP rfl ?_ | fail
                    (try simp only [Act.put, nA, nB, nC])
                    refine lP rfl ?_
                    (try simp only [Act.put, nA, nB, nC])
                    refine lZ ?_
                    go_upto_region 21 with (first | (refine oL ?_; (first | refine sL1 hS rfl rfl rfl ?_ | refine sL2 hS rfl rfl rfl ?_ | refine sL3 hS rfl rfl ?_ | refine sL4 hS rfl rfl ?_ | refine sL5 hS rfl rfl ?_ | refine sL6 hS rfl rfl ?_ | refine sL7 hS rfl rfl ?_)) | (refine oS ?_; ((first | refine sS1 hS rfl rfl rfl ?_ | refine sS2 hS rfl rfl rfl ?_ | refine sS3 hS rfl rfl rfl ?_ | refine sS4 hS rfl rfl rfl ?_ | refine sS5 hS rfl rfl rfl ?_); clear hS; intro w hS)) | (refine oP ?_; ((first | refine sP1 hS rfl rfl rfl ?_ | refine sP2 hS rfl rfl rfl ?_ | refine sP3 hS rfl rfl rfl ?_); clear hS; first | ((fail_if_success guard_hyp L1); intro L1 cl1 w hL1 hM1 hS) | ((fail_if_success guard_hyp L2); intro L2 cl2 w hL2 hM2 hS) | ((fail_if_success guard_hyp L3); intro L3 cl3 w hL3 hM3 hS) | fail)) | ((first | refine sN1 hS rfl ?_ | (refine oC ?_; first | refine sC0 hS rfl ?_ | refine sC1 hS rfl rfl ?_ | refine sC2 hS rfl rfl ?_ | refine sC3 hS rfl rfl rfl ?_ | refine sC4 hS rfl rfl rfl ?_) | refine sM1 hS rfl rfl rfl ?_); clear hS; first | ((fail_if_success guard_hyp g1); intro g1 w hS) | ((fail_if_success guard_hyp g2); intro g2 w hS) | ((fail_if_success guard_hyp g3); intro g3 w hS) | ((fail_if_success guard_hyp g4); intro g4 w hS) | ((fail_if_success guard_hyp g5); intro g5 w hS) | ((fail_if_success guard_hyp g6); intro g6 w hS) | ((fail_if_success guard_hyp g7); intro g7 w hS) | ((fail_if_success guard_hyp g8); intro g8 w hS) | ((fail_if_success guard_hyp g9); intro g9 w hS) | ((fail_if_success guard_hyp g10); intro g10 w hS) | ((fail_if_success guard_hyp g11); intro g11 w hS) | fail) | fail)
                    refine lR ?_
                    refine lM rfl rfl ?_
                    (try simp only [Act.put, nA, nB, nC])
                    refine lM rfl rfl ?_
                    (try simp only [Act.put, nA, nB, nC])
                    refine lP rfl ?_
                    (try simp only [Act.put, nA, nB, nC])
                    refine lP rfl ?_
                    (try simp only [Act.put, nA, nB, nC])
                    (refine ⟨?_⟩; ((first | refine sL1 hS rfl rfl rfl ?_ | refine sL2 hS rfl rfl rfl ?_ | refine sL3 hS rfl rfl ?_ | refine sL4 hS rfl rfl ?_ | refine sL5 hS rfl rfl ?_ | refine sL6 hS rfl rfl ?_ | refine sL7 hS rfl rfl ?_)); refine WL.h ?_)
                    (try simp only [Act.put, nA, nB, nC])
                    refine lP rfl ?_
                    (try simp only [Act.put, nA, nB, nC])
                    refine lM rfl rfl ?_
                    (try simp only [Act.put, nA, nB, nC])
                    first | refine lQ rfl ?_ | refine lP rfl ?_ | fail
                    (try simp only [Act.put, nA, nB, nC])
                    first | refine lQ rfl ?_ | (refine ⟨?_⟩; ((first | refine sL1 hS rfl rfl rfl ?_ | refine sL2 hS rfl rfl rfl ?_ | refine sL3 hS rfl rfl ?_ | refine sL4 hS rfl rfl ?_ | refine sL5 hS rfl rfl ?_ | refine sL6 hS rfl rfl ?_ | refine sL7 hS rfl rfl ?_)); refine WL.h ?_) | fail
                    (try simp only [Act.put, nA, nB, nC])
                    first | refine lQ rfl ?_ | refine lM rfl rfl ?_ | fail
                    (try simp only [Act.put, nA, nB, nC])
                    first | refine lQ rfl ?_ | refine lP rfl ?_ | fail
                    (try simp only [Act.put, nA, nB, nC])
                    first | refine lQ rfl ?_ | (refine ⟨?_⟩; ((first | refine sL1 hS rfl rfl rfl ?_ | refine sL2 hS rfl rfl rfl ?_ | refine sL3 hS rfl rfl ?_ | refine sL4 hS rfl rfl ?_ | refine sL5 hS rfl rfl ?_ | refine sL6 hS rfl rfl ?_ | refine sL7 hS rfl rfl ?_)); refine WL.h ?_) | fail
                    (try simp only [Act.put, nA, nB, nC])
                    first | refine lQ rfl ?_ | refine lP rfl ?_ | fail
                    (try simp only [Act.put, nA, nB, nC])
                    first | refine lQ rfl ?_ | refine lP rfl ?_ | fail
                    (try simp only [Act.put, nA, nB, nC])
                    first | refine lQ rfl ?_ | (refine ⟨?_⟩; ((first | refine sL1 hS rfl rfl rfl ?_ | refine sL2 hS rfl rfl rfl ?_ | refine sL3 hS rfl rfl ?_ | refine sL4 hS rfl rfl ?_ | refine sL5 hS rfl rfl ?_ | refine sL6 hS rfl rfl ?_ | refine sL7 hS rfl rfl ?_)); refine WL.h ?_) | fail
                    (try simp only [Act.put, nA, nB, nC])
                    first | refine lQ rfl ?_ | refine lP rfl ?_ | fail
                    (try simp only [Act.put, nA, nB, nC])
                    refine lP rfl ?_
                    (try simp only [Act.put, nA, nB, nC])
                    refine lZ ?_
                    go_upto_region 22 with (first | (refine oL ?_; (first | refine sL1 hS rfl rfl rfl ?_ | refine sL2 hS rfl rfl rfl ?_ | refine sL3 hS rfl rfl ?_ | refine sL4 hS rfl rfl ?_ | refine sL5 hS rfl rfl ?_ | refine sL6 hS rfl rfl ?_ | refine sL7 hS rfl rfl ?_)) | (refine oS ?_; ((first | refine sS1 hS rfl rfl rfl ?_ | refine sS2 hS rfl rfl rfl ?_ | refine sS3 hS rfl rfl rfl ?_ | refine sS4 hS rfl rfl rfl ?_ | refine sS5 hS rfl rfl rfl ?_); clear hS; intro w hS)) | (refine oP ?_; ((first | refine sP1 hS rfl rfl rfl ?_ | refine sP2 hS rfl rfl rfl ?_ | refine sP3 hS rfl rfl rfl ?_); clear hS; first | ((fail_if_success guard_hyp L1); intro L1 cl1 w hL1 hM1 hS) | ((fail_if_success guard_hyp L2); intro L2 cl2 w hL2 hM2 hS) | ((fail_if_success guard_hyp L3); intro L3 cl3 w hL3 hM3 hS) | fail)) | ((first | refine sN1 hS rfl ?_ | (refine oC ?_; first | refine sC0 hS rfl ?_ | refine sC1 hS rfl rfl ?_ | refine sC2 hS rfl rfl ?_ | refine sC3 hS rfl rfl rfl ?_ | refine sC4 hS rfl rfl rfl ?_) | refine sM1 hS rfl rfl rfl ?_); clear hS; first | ((fail_if_success guard_hyp g1); intro g1 w hS) | ((fail_if_success guard_hyp g2); intro g2 w hS) | ((fail_if_success guard_hyp g3); intro g3 w hS) | ((fail_if_success guard_hyp g4); intro g4 w hS) | ((fail_if_success guard_hyp g5); intro g5 w hS) | ((fail_if_success guard_hyp g6); intro g6 w hS) | ((fail_if_success guard_hyp g7); intro g7 w hS) | ((fail_if_success guard_hyp g8); intro g8 w hS) | ((fail_if_success guard_hyp g9); intro g9 w hS) | ((fail_if_success guard_hyp g10); intro g10 w hS) | ((fail_if_success guard_hyp g11); intro g11 w hS) | fail) | fail)
                    refine lR ?_
                    refine lM rfl rfl ?_
                    (try simp only [Act.put, nA, nB, nC])
                    refine lM rfl rfl ?_
                    (try simp only [Act.put, nA, nB, nC])
                    refine lP rfl ?_
                    (try simp only [Act.put, nA, nB, nC])
                    refine lP rfl ?_
                    (try simp only [Act.put, nA, nB, nC])
                    (refine ⟨?_⟩; ((first | refine sL1 hS rfl rfl rfl ?_ | refine sL2 hS rfl rfl rfl ?_ | refine sL3 hS rfl rfl ?_ | refine sL4 hS rfl rfl ?_ | refine sL5 hS rfl rfl ?_ | refine sL6 hS rfl rfl ?_ | refine sL7 hS rfl rfl ?_)); refine WL.h ?_)
                    (try simp only [Act.put, nA, nB, nC])
                    refine lP rfl ?_
                    (try simp only [Act.put, nA, nB, nC])
                    refine lM rfl rfl ?_
                    (try simp only [Act.put, nA, nB, nC])
                    first | refine lQ rfl ?_ | refine lM rfl rfl ?_ | fail
                    (try simp only [Act.put, nA, nB, nC])
                    first | refine lQ rfl ?_ | refine lP rfl ?_ | fail
                    (try simp only [Act.put, nA, nB, nC])
                    first | refine lQ rfl ?_ | refine lP rfl ?_ | fail
                    (try simp only [Act.put, nA, nB, nC])
                    first | refine lQ rfl ?_ | (refine ⟨?_⟩; ((first | refine sL1 hS rfl rfl rfl ?_ | refine sL2 hS rfl rfl rfl ?_ | refine sL3 hS rfl rfl ?_ | refine sL4 hS rfl rfl ?_ | refine sL5 hS rfl rfl ?_ | refine sL6 hS rfl rfl ?_ | refine sL7 hS rfl rfl ?_)); refine WL.h ?_) | fail
                    (try simp only [Act.put, nA, nB, nC])
                    first | refine lQ rfl ?_ | refine lM rfl rfl ?_ | fail
                    (try simp only [Act.put, nA, nB, nC])
                    first | refine lQ rfl ?_ | refine lP rfl ?_ | fail
                    (try simp only [Act.put, nA, nB, nC])
                    first | refine lQ rfl ?_ | (refine ⟨?_⟩; ((first | refine sL1 hS rfl rfl rfl ?_ | refine sL2 hS rfl rfl rfl ?_ | refine sL3 hS rfl rfl ?_ | refine sL4 hS rfl rfl ?_ | refine sL5 hS rfl rfl ?_ | refine sL6 hS rfl rfl ?_ | refine sL7 hS rfl rfl ?_)); refine WL.h ?_) | fail
                    (try simp only [Act.put, nA, nB, nC])
                    first | refine lQ rfl ?_ | refine lP rfl ?_ | fail
                    (try simp only [Act.put, nA, nB, nC])
                    first | refine lQ rfl ?_ | refine lP rfl ?_ | fail
                    (try simp only [Act.put, nA, nB, nC])
                    refine lP rfl ?_
                    (try simp only [Act.put, nA, nB, nC])
                    refine lZ ?_
                    go_wp2_with (first | (refine oL ?_; (first | refine sL1 hS rfl rfl rfl ?_ | refine sL2 hS rfl rfl rfl ?_ | refine sL3 hS rfl rfl ?_ | refine sL4 hS rfl rfl ?_ | refine sL5 hS rfl rfl ?_ | refine sL6 hS rfl rfl ?_ | refine sL7 hS rfl rfl ?_)) | (refine oS ?_; ((first | refine sS1 hS rfl rfl rfl ?_ | refine sS2 hS rfl rfl rfl ?_ | refine sS3 hS rfl rfl rfl ?_ | refine sS4 hS rfl rfl rfl ?_ | refine sS5 hS rfl rfl rfl ?_); clear hS; intro w hS)) | (refine oP ?_; ((first | refine sP1 hS rfl rfl rfl ?_ | refine sP2 hS rfl rfl rfl ?_ | refine sP3 hS rfl rfl rfl ?_); clear hS; first | ((fail_if_success guard_hyp L1); intro L1 cl1 w hL1 hM1 hS) | ((fail_if_success guard_hyp L2); intro L2 cl2 w hL2 hM2 hS) | ((fail_if_success guard_hyp L3); intro L3 cl3 w hL3 hM3 hS) | fail)) | ((first | refine sN1 hS rfl ?_ | (refine oC ?_; first | refine sC0 hS rfl ?_ | refine sC1 hS rfl rfl ?_ | refine sC2 hS rfl rfl ?_ | refine sC3 hS rfl rfl rfl ?_ | refine sC4 hS rfl rfl rfl ?_) | refine sM1 hS rfl rfl rfl ?_); clear hS; first | ((fail_if_success guard_hyp g1); intro g1 w hS) | ((fail_if_success guard_hyp g2); intro g2 w hS) | ((fail_if_success guard_hyp g3); intro g3 w hS) | ((fail_if_success guard_hyp g4); intro g4 w hS) | ((fail_if_success guard_hyp g5); intro g5 w hS) | ((fail_if_success guard_hyp g6); intro g6 w hS) | ((fail_if_success guard_hyp g7); intro g7 w hS) | ((fail_if_success guard_hyp g8); intro g8 w hS) | ((fail_if_success guard_hyp g9); intro g9 w hS) | ((fail_if_success guard_hyp g10); intro g10 w hS) | ((fail_if_success guard_hyp g11); intro g11 w hS) | fail) | fail)
                    refine (noteT_st (cs := [blk g1 [.slice A1 n c1, .slice A2 n c2, .slice A3 nn c3, .slice A4 n c4, .slice A5 n c5, .slice A6 nn c6, .slice A7 nn c7] 56, blk g3 [.slice D1 n j1, .slice D2 n j2, .slice D3 nn j3, .slice D4 n j4, .slice D5 n j5, .slice D6 nn j6, .slice D7 nn j7] 56, froz T2 u3, froz TK uk, froz N1 u1]) gt gl gq n nn na c ca cv p0 q0 L L3 LV p.len p.arcs vs rs val hS.re HN.out.1 HNN.out hn5 hp hq HN.out.2.1 HN.out.2.2.1 (by omega) HN.out.2.2.2.1 HN.out.2.2.2.2.1 HN.out.2.2.2.2.2).mono ?_
                    rintro e w ⟨rfl, L3', ca', LV', cv', Aq, cq, hS1⟩
                    replace hS := hS1
                    clear hS1
                    rw [HPN.out] at hS
                    rw [show p.len.set p0 (nth p.len p0 + 1) = (sendP p p0 q0).len from rfl, show p.arcs ++ [⟨p0, nth p.len p0 + 1, q0, 0⟩] = (sendP p p0 q0).arcs from rfl] at hS
                    go_wp2_with (first | (refine oL ?_; (first | refine sL1 hS rfl rfl rfl ?_ | refine sL2 hS rfl rfl rfl ?_ | refine sL3 hS rfl rfl ?_ | refine sL4 hS rfl rfl ?_ | refine sL5 hS rfl rfl ?_ | refine sL6 hS rfl rfl ?_ | refine sL7 hS rfl rfl ?_)) | (refine oS ?_; ((first | refine sS1 hS rfl rfl rfl ?_ | refine sS2 hS rfl rfl rfl ?_ | refine sS3 hS rfl rfl rfl ?_ | refine sS4 hS rfl rfl rfl ?_ | refine sS5 hS rfl rfl rfl ?_); clear hS; intro w hS)) | (refine oP ?_; ((first | refine sP1 hS rfl rfl rfl ?_ | refine sP2 hS rfl rfl rfl ?_ | refine sP3 hS rfl rfl rfl ?_); clear hS; first | ((fail_if_success guard_hyp L1); intro L1 cl1 w hL1 hM1 hS) | ((fail_if_success guard_hyp L2); intro L2 cl2 w hL2 hM2 hS) | ((fail_if_success guard_hyp L3); intro L3 cl3 w hL3 hM3 hS) | fail)) | ((first | refine sN1 hS rfl ?_ | (refine oC ?_; first | refine sC0 hS rfl ?_ | refine sC1 hS rfl rfl ?_ | refine sC2 hS rfl rfl ?_ | refine sC3 hS rfl rfl rfl ?_ | refine sC4 hS rfl rfl rfl ?_) | refine sM1 hS rfl rfl rfl ?_); clear hS; first | ((fail_if_success guard_hyp g1); intro g1 w hS) | ((fail_if_success guard_hyp g2); intro g2 w hS) | ((fail_if_success guard_hyp g3); intro g3 w hS) | ((fail_if_success guard_hyp g4); intro g4 w hS) | ((fail_if_success guard_hyp g5); intro g5 w hS) | ((fail_if_success guard_hyp g6); intro g6 w hS) | ((fail_if_success guard_hyp g7); intro g7 w hS) | ((fail_if_success guard_hyp g8); intro g8 w hS) | ((fail_if_success guard_hyp g9); intro g9 w hS) | ((fail_if_success guard_hyp g10); intro g10 w hS) | ((fail_if_success guard_hyp g11); intro g11 w hS) | fail) | fail)
                    go_roundw
                    case measure => simp [intOf]; omega
                    exact ⟨i + 1, na + 1, ca', cv', L3', LV', sendP p p0 q0, vs ++ [val], _, D1, j1, D2, j2, D3, j3, D4, j4, D5, j5, D6, j6, D7, j7, _, T2, u3, by omega, by go_num, Lib.hid (HM2.out Aq cq), HS2, hS.re⟩
                  · obtain ⟨bh, oh, bc, oc, cB, ⟨xm, xv⟩, ll, hch, hll, rfl, hc1, hc2⟩ := hh
                    simp only at hc2
                    have dk : decide ((nn : Int) ≤ ((p0 * n : Nat) : Int) + (q0 : Int)) = false := decide_eq_false (by omega)
                    have dl : ((ll.length : Int) + 1 == 0) = false := by simp; omega
                    cases xm
                    · as_aux_lemma =>
                      obtain ⟨A0, c0, i0, Q0, hrk, hi0, hQ0, hmc⟩ := HMC.out.take (by omega) HR.out hp hq hne hch
                      have HM2 := Lib.hid hmc
                      have HRK := Lib.hid hrk
                      have HI0 := Lib.hid (And.intro hi0 hQ0)
                      have HN := Lib.hid (And.intro HMC.out.pl (And.intro (HMC.out.rl.trans HNN.out) (And.intro HMC.out.na_ (HMC.out.cnt (by omega) hq))))
                      have hnale := HMC.out.le
                      have hqv := qvals_at hrk
                      simp only [List.length_cons] at hqv
                      have dl2 : ((Q0.length : Int) + 1 == 0) = false := by simp; omega
                      clear HMC HC HR hmc hrk hch
                      generalize hpn : p0 * n = pn at *
                      have HPN := Lib.hid hpn
                      clear hpn
                      go_wp2_with (first | (refine oL ?_; (first | refine sL1 hS rfl rfl rfl ?_ | refine sL2 hS rfl rfl rfl ?_ | refine sL3 hS rfl rfl ?_ | refine sL4 hS rfl rfl ?_ | refine sL5 hS rfl rfl ?_ | refine sL6 hS rfl rfl ?_ | refine sL7 hS rfl rfl ?_)) | (refine oS ?_; ((first | refine sS1 hS rfl rfl rfl ?_ | refine sS2 hS rfl rfl rfl ?_ | refine sS3 hS rfl rfl rfl ?_ | refine sS4 hS rfl rfl rfl ?_ | refine sS5 hS rfl rfl rfl ?_); clear hS; intro w hS)) | (refine oP ?_; ((first | refine sP1 hS rfl rfl rfl ?_ | refine sP2 hS rfl rfl rfl ?_ | refine sP3 hS rfl rfl rfl ?_); clear hS; first | ((fail_if_success guard_hyp L1); intro L1 cl1 w hL1 hM1 hS) | ((fail_if_success guard_hyp L2); intro L2 cl2 w hL2 hM2 hS) | ((fail_if_success guard_hyp L3); intro L3 cl3 w hL3 hM3 hS) | fail)) | ((first | refine sN1 hS rfl ?_ | (refine oC ?_; first | refine sC0 hS rfl ?_ | refine sC1 hS rfl rfl ?_ | refine sC2 hS rfl rfl ?_ | refine sC3 hS rfl rfl rfl ?_ | refine sC4 hS rfl rfl rfl ?_) | refine sM1 hS rfl rfl rfl ?_); clear hS; first | ((fail_if_success guard_hyp g1); intro g1 w hS) | ((fail_if_success guard_hyp g2); intro g2 w hS) | ((fail_if_success guard_hyp g3); intro g3 w hS) | ((fail_if_success guard_hyp g4); intro g4 w hS) | ((fail_if_success guard_hyp g5); intro g5 w hS) | ((fail_if_success guard_hyp g6); intro g6 w hS) | ((fail_if_success guard_hyp g7); intro g7 w hS) | ((fail_if_success guard_hyp g8); intro g8 w hS) | ((fail_if_success guard_hyp g9); intro g9 w hS) | ((fail_if_success guard_hyp g10); intro g10 w hS) | ((fail_if_success guard_hyp g11); intro g11 w hS) | fail) | fail)
                      refine dr_start0 []  hS (by kernel_rfl) rfl ?_; clear hS; intro w hS
                      refine dM hS 0 rfl rfl rfl ?_
                      (try simp only [Act.put, nA, nB, nC])
                      refine dM hS 1 rfl rfl rfl ?_
                      (try simp only [Act.put, nA, nB, nC])
                      refine dP hS 2 rfl rfl ?_
                      (try simp only [Act.put, nA, nB, nC])
                      refine dP hS 3 rfl rfl ?_
                      (try simp only [Act.put, nA, nB, nC])
                      first | refine dL1 hS 4 rfl rfl rfl rfl ?_ | refine dL2 hS 4 rfl rfl rfl rfl ?_ | refine dL3 hS 4 rfl rfl rfl ?_ | refine dL4 hS 4 rfl rfl rfl ?_ | refine dL5 hS 4 rfl rfl rfl ?_ | refine dL6 hS 4 rfl rfl rfl ?_ | refine dL7 hS 4 rfl rfl rfl ?_
                      (try simp only [Act.put, nA, nB, nC])
                      refine dM hS 5 rfl rfl rfl ?_
                      (try simp only [Act.put, nA, nB, nC])
                      refine dP hS 6 rfl rfl ?_
                      (try simp only [Act.put, nA, nB, nC])
                      refine dM hS 7 rfl rfl rfl ?_
                      (try simp only [Act.put, nA, nB, nC])
                      refine dM hS 8 rfl rfl rfl ?_
                      (try simp only [Act.put, nA, nB, nC])
                      refine dP hS 9 rfl rfl ?_
                      (try simp only [Act.put, nA, nB, nC])
                      refine dP hS 10 rfl rfl ?_
                      (try simp only [Act.put, nA, nB, nC])
                      first | refine dL1 hS 11 rfl rfl rfl rfl ?_ | refine dL2 hS 11 rfl rfl rfl rfl ?_ | refine dL3 hS 11 rfl rfl rfl ?_ | refine dL4 hS 11 rfl rfl rfl ?_ | refine dL5 hS 11 rfl rfl rfl ?_ | refine dL6 hS 11 rfl rfl rfl ?_ | refine dL7 hS 11 rfl rfl rfl ?_
                      (try simp only [Act.put, nA, nB, nC])
                      refine dP hS 12 rfl rfl ?_
                      (try simp only [Act.put, nA, nB, nC])
                      refine dA hS 13 rfl rfl rfl ?_
                      (try simp only [Act.put, nA, nB, nC])
                      refine dr_done (by kernel_rfl) ?_
                      go_upto_region 19 with (first | (refine oL ?_; (first | refine sL1 hS rfl rfl rfl ?_ | refine sL2 hS rfl rfl rfl ?_ | refine sL3 hS rfl rfl ?_ | refine sL4 hS rfl rfl ?_ | refine sL5 hS rfl rfl ?_ | refine sL6 hS rfl rfl ?_ | refine sL7 hS rfl rfl ?_)) | (refine oS ?_; ((first | refine sS1 hS rfl rfl rfl ?_ | refine sS2 hS rfl rfl rfl ?_ | refine sS3 hS rfl rfl rfl ?_ | refine sS4 hS rfl rfl rfl ?_ | refine sS5 hS rfl rfl rfl ?_); clear hS; intro w hS)) | (refine oP ?_; ((first | refine sP1 hS rfl rfl rfl ?_ | refine sP2 hS rfl rfl rfl ?_ | refine sP3 hS rfl rfl rfl ?_); clear hS; first | ((fail_if_success guard_hyp L1); intro L1 cl1 w hL1 hM1 hS) | ((fail_if_success guard_hyp L2); intro L2 cl2 w hL2 hM2 hS) | ((fail_if_success guard_hyp L3); intro L3 cl3 w hL3 hM3 hS) | fail)) | ((first | refine sN1 hS rfl ?_ | (refine oC ?_; first | refine sC0 hS rfl ?_ | refine sC1 hS rfl rfl ?_ | refine sC2 hS rfl rfl ?_ | refine sC3 hS rfl rfl rfl ?_ | refine sC4 hS rfl rfl rfl ?_) | refine sM1 hS rfl rfl rfl ?_); clear hS; first | ((fail_if_success guard_hyp g1); intro g1 w hS) | ((fail_if_success guard_hyp g2); intro g2 w hS) | ((fail_if_success guard_hyp g3); intro g3 w hS) | ((fail_if_success guard_hyp g4); intro g4 w hS) | ((fail_if_success guard_hyp g5); intro g5 w hS) | ((fail_if_success guard_hyp g6); intro g6 w hS) | ((fail_if_success guard_hyp g7); intro g7 w hS) | ((fail_if_success guard_hyp g8); intro g8 w hS) | ((fail_if_success guard_hyp g9); intro g9 w hS) | ((fail_if_success guard_hyp g10); intro g10 w hS) | ((fail_if_success guard_hyp g11); intro g11 w hS) | fail) | fail)
                      refine lR ?_
                      refine lM rfl rfl ?_
                      (try simp only [Act.put, nA, nB, nC])
                      refine lM rfl rfl ?_
                      (try simp only [Act.put, nA, nB, nC])
                      refine lP rfl ?_
                      (try simp only [Act.put, nA, nB, nC])
                      refine lP rfl ?_
                      (try simp only [Act.put, nA, nB, nC])
                      (refine ⟨?_⟩; ((first | refine sL1 hS rfl rfl rfl ?_ | refine sL2 hS rfl rfl rfl ?_ | refine sL3 hS rfl rfl ?_ | refine sL4 hS rfl rfl ?_ | refine sL5 hS rfl rfl ?_ | refine sL6 hS rfl rfl ?_ | refine sL7 hS rfl rfl ?_)); refine WL.h ?_)
                      (try simp only [Act.put, nA, nB, nC])
                      refine lP rfl ?_
                      (try simp only [Act.put, nA, nB, nC])
                      refine lM rfl rfl ?_
                      (try simp only [Act.put, nA, nB, nC])
                      first | refine lQ rfl ?_ | refine lM rfl rfl ?_ | fail
                      (try simp only [Act.put, nA, nB, nC])
                      first | refine lQ rfl ?_ | refine lP rfl ?_ | fail
                      (try simp only [Act.put, nA, nB, nC])
                      first | refine lQ rfl ?_ | (refine ⟨?_⟩; ((first | refine sL1 hS rfl rfl rfl ?_ | refine sL2 hS rfl rfl rfl ?_ | refine sL3 hS rfl rfl ?_ | refine sL4 hS rfl rfl ?_ | refine sL5 hS rfl rfl ?_ | refine sL6 hS rfl rfl ?_ | refine sL7 hS rfl rfl ?_)); refine WL.h ?_) | fail
                      (try simp only [Act.put, nA, nB, nC])
                      first | refine lQ rfl ?_ | refine lP rfl ?_ | fail
                      (try simp only [Act.put, nA, nB, nC])
                      first | refine lQ rfl ?_ | refine lP rfl ?_ | fail
                      (try simp only [Act.put, nA, nB, nC])
                      first | refine lQ rfl ?_ | refine lM rfl rfl ?_ | fail
                      (try simp only [Act.put, nA, nB, nC])
                      first | refine lQ rfl ?_ | refine lP rfl ?_ | fail
                      (try simp only [Act.put, nA, nB, nC])
                      first | refine lQ rfl ?_ | (refine ⟨?_⟩; ((first | refine sL1 hS rfl rfl rfl ?_ | refine sL2 hS rfl rfl rfl ?_ | refine sL3 hS rfl rfl ?_ | refine sL4 hS rfl rfl ?_ | refine sL5 hS rfl rfl ?_ | refine sL6 hS rfl rfl ?_ | refine sL7 hS rfl rfl ?_)); refine WL.h ?_) | fail
                      (try simp only [Act.put, nA, nB, nC])
                      first | refine lQ rfl ?_ | refine lM rfl rfl ?_ | fail
                      (try simp only [Act.put, nA, nB, nC])
                      first | refine lQ rfl ?_ | refine lP rfl ?_ | fail
                      (try simp only [Act.put, nA, nB, nC])
                      first | refine lQ rfl ?_ | (refine ⟨?_⟩; ((first | refine sL1 hS rfl rfl rfl ?_ | refine sL2 hS rfl rfl rfl ?_ | refine sL3 hS rfl rfl ?_ | refine sL4 hS rfl rfl ?_ | refine sL5 hS rfl rfl ?_ | refine sL6 hS rfl rfl ?_ | refine sL7 hS rfl rfl ?_)); refine WL.h ?_) | fail
                      (try simp only [Act.put, nA, nB, nC])
                      first | refine lQ rfl ?_ | refine lP rfl ?_ | fail
                      (try simp only [Act.put, nA, nB, nC])
                      first | refine lQ rfl ?_ | refine lP rfl ?_ | fail
                      (try simp only [Act.put, nA, nB, nC])
                      first | refine lQ rfl ?_ | refine lP rfl ?_ | fail
                      (try simp only [Act.put, nA, nB, nC])
                      refine lP rfl ?_
                      (try simp only [Act.put, nA, nB, nC])
                      refine lZ ?_
                      go_upto_region 21 with (first | (refine oL ?_; (first | refine sL1 hS rfl rfl rfl ?_ | refine sL2 hS rfl rfl rfl ?_ | refine sL3 hS rfl rfl ?_ | refine sL4 hS rfl rfl ?_ | refine sL5 hS rfl rfl ?_ | refine sL6 hS rfl rfl ?_ | refine sL7 hS rfl rfl ?_)) | (refine oS ?_; ((first | refine sS1 hS rfl rfl rfl ?_ | refine sS2 hS rfl rfl rfl ?_ | refine sS3 hS rfl rfl rfl ?_ | refine sS4 hS rfl rfl rfl ?_ | refine sS5 hS rfl rfl rfl ?_); clear hS; intro w hS)) | (refine oP ?_; ((first | refine sP1 hS rfl rfl rfl ?_ | refine sP2 hS rfl rfl rfl ?_ | refine sP3 hS rfl rfl rfl ?_); clear hS; first | ((fail_if_success guard_hyp L1); intro L1 cl1 w hL1 hM1 hS) | ((fail_if_success guard_hyp L2); intro L2 cl2 w hL2 hM2 hS) | ((fail_if_success guard_hyp L3); intro L3 cl3 w hL3 hM3 hS) | fail)) | ((first | refine sN1 hS rfl ?_ | (refine oC ?_; first | refine sC0 hS rfl ?_ | refine sC1 hS rfl rfl ?_ | refine sC2 hS rfl rfl ?_ | refine sC3 hS rfl rfl rfl ?_ | refine sC4 hS rfl rfl rfl ?_) | refine sM1 hS rfl rfl rfl ?_); clear hS; first | ((fail_if_success guard_hyp g1); intro g1 w hS) | ((fail_if_success guard_hyp g2); intro g2 w hS) | ((fail_if_success guard_hyp g3); intro g3 w hS) | ((fail_if_success guard_hyp g4); intro g4 w hS) | ((fail_if_success guard_hyp g5); intro g5 w hS) | ((fail_if_success guard_hyp g6); intro g6 w hS) | ((fail_if_success guard_hyp g7); intro g7 w hS) | ((fail_if_success guard_hyp g8); intro g8 w hS) | ((fail_if_success guard_hyp g9); intro g9 w hS) | ((fail_if_success guard_hyp g10); intro g10 w hS) | ((fail_if_success guard_hyp g11); intro g11 w hS) | fail) | fail)
                      refine lR ?_
                      refine lM rfl rfl ?_
                      (try simp only [Act.put, nA, nB, nC])
                      refine lM rfl rfl ?_
                      (try simp only [Act.put, nA, nB, nC])
                      refine lP rfl ?_
                      (try simp only [Act.put, nA, nB, nC])
                      refine lP rfl ?_
                      (try simp only [Act.put, nA, nB, nC])
                      (refine ⟨?_⟩; ((first | refine sL1 hS rfl rfl rfl ?_ | refine sL2 hS rfl rfl rfl ?_ | refine sL3 hS rfl rfl ?_ | refine sL4 hS rfl rfl ?_ | refine sL5 hS rfl rfl ?_ | refine sL6 hS rfl rfl ?_ | refine sL7 hS rfl rfl ?_)); refine WL.h ?_)
                      (try simp only [Act.put, nA, nB, nC])
                      refine lP rfl ?_
                      (try simp only [Act.put, nA, nB, nC])
                      refine lM rfl rfl ?_
                      (try simp only [Act.put, nA, nB, nC])
                      first | refine lQ rfl ?_ | refine lP rfl ?_ | fail
                      (try simp only [Act.put, nA, nB, nC])
                      first | refine lQ rfl ?_ | (refine ⟨?_⟩; ((first | refine sL1 hS rfl rfl rfl ?_ | refine sL2 hS rfl rfl rfl ?_ | refine sL3 hS rfl rfl ?_ | refine sL4 hS rfl rfl ?_ | refine sL5 hS rfl rfl ?_ | refine sL6 hS rfl rfl ?_ | refine sL7 hS rfl rfl ?_)); refine WL.h ?_) | fail
                      (try simp only [Act.put, nA, nB, nC])
                      first | refine lQ rfl ?_ | refine lM rfl rfl ?_ | fail
                      (try simp only [Act.put, nA, nB, nC])
                      first | refine lQ rfl ?_ | refine lP rfl ?_ | fail
                      (try simp only [Act.put, nA, nB, nC])
                      first | refine lQ rfl ?_ | (refine ⟨?_⟩; ((first | refine sL1 hS rfl rfl rfl ?_ | refine sL2 hS rfl rfl rfl ?_ | refine sL3 hS rfl rfl ?_ | refine sL4 hS rfl rfl ?_ | refine sL5 hS rfl rfl ?_ | refine sL6 hS rfl rfl ?_ | refine sL7 hS rfl rfl ?_)); refine WL.h ?_) | fail
                      (try simp only [Act.put, nA, nB, nC])
                      first | refine lQ rfl ?_ | refine lP rfl ?_ | fail
                      (try simp only [Act.put, nA, nB, nC])
                      first | refine lQ rfl ?_ | refine lP rfl ?_ | fail
                      (try simp only [Act.put, nA, nB, nC])
                      first | refine lQ rfl ?_ | (refine ⟨?_⟩; ((first | refine sL1 hS rfl rfl rfl ?_ | refine sL2 hS rfl rfl rfl ?_ | refine sL3 hS rfl rfl ?_ | refine sL4 hS rfl rfl ?_ | refine sL5 hS rfl rfl ?_ | refine sL6 hS rfl rfl ?_ | refine sL7 hS rfl rfl ?_)); refine WL.h ?_) | fail
                      (try simp only [Act.put, nA, nB, nC])
                      first | refine lQ rfl ?_ | refine lP rfl ?_ | fail
                      (try simp only [Act.put, nA, nB, nC])
                      refine lP rfl ?_
                      (try simp only [Act.put, nA, nB, nC])
                      refine lZ ?_
                      go_upto_region 22 with (first | (refine oL ?_; (first | refine sL1 hS rfl rfl rfl ?_ | refine sL2 hS rfl rfl rfl ?_ | refine sL3 hS rfl rfl ?_ | refine sL4 hS rfl rfl ?_ | refine sL5 hS rfl rfl ?_ | refine sL6 hS rfl rfl ?_ | refine sL7 hS rfl rfl ?_)) | (refine oS ?_; ((first | refine sS1 hS rfl rfl rfl ?_ | refine sS2 hS rfl rfl rfl ?_ | refine sS3 hS rfl rfl rfl ?_ | refine sS4 hS rfl rfl rfl ?_ | refine sS5 hS rfl rfl rfl ?_); clear hS; intro w hS)) | (refine oP ?_; ((first | refine sP1 hS rfl rfl rfl ?_ | refine sP2 hS rfl rfl rfl ?_ | refine sP3 hS rfl rfl rfl ?_); clear hS; first | ((fail_if_success guard_hyp L1); intro L1 cl1 w hL1 hM1 hS) | ((fail_if_success guard_hyp L2); intro L2 cl2 w hL2 hM2 hS) | ((fail_if_success guard_hyp L3); intro L3 cl3 w hL3 hM3 hS) | fail)) | ((first | refine sN1 hS rfl ?_ | (refine oC ?_; first | refine sC0 hS rfl ?_ | refine sC1 hS rfl rfl ?_ | refine sC2 hS rfl rfl ?_ | refine sC3 hS rfl rfl rfl ?_ | refine sC4 hS rfl rfl rfl ?_) | refine sM1 hS rfl rfl rfl ?_); clear hS; first | ((fail_if_success guard_hyp g1); intro g1 w hS) | ((fail_if_success guard_hyp g2); intro g2 w hS) | ((fail_if_success guard_hyp g3); intro g3 w hS) | ((fail_if_success guard_hyp g4); intro g4 w hS) | ((fail_if_success guard_hyp g5); intro g5 w hS) | ((fail_if_success guard_hyp g6); intro g6 w hS) | ((fail_if_success guard_hyp g7); intro g7 w hS) | ((fail_if_success guard_hyp g8); intro g8 w hS) | ((fail_if_success guard_hyp g9); intro g9 w hS) | ((fail_if_success guard_hyp g10); intro g10 w hS) | ((fail_if_success guard_hyp g11); intro g11 w hS) | fail) | fail)
                      refine lR ?_
                      refine lM rfl rfl ?_
                      (try simp only [Act.put, nA, nB, nC])
                      refine lM rfl rfl ?_
                      (try simp only [Act.put, nA, nB, nC])
                      refine lP rfl ?_
                      (try simp only [Act.put, nA, nB, nC])
                      refine lP rfl ?_
                      (try simp only [Act.put, nA, nB, nC])
                      (refine ⟨?_⟩; ((first | refine sL1 hS rfl rfl rfl ?_ | refine sL2 hS rfl rfl rfl ?_ | refine sL3 hS rfl rfl ?_ | refine sL4 hS rfl rfl ?_ | refine sL5 hS rfl rfl ?_ | refine sL6 hS rfl rfl ?_ | refine sL7 hS rfl rfl ?_)); refine WL.h ?_)
                      (try simp only [Act.put, nA, nB, nC])
                      refine lP rfl ?_
                      (try simp only [Act.put, nA, nB, nC])
                      refine lM rfl rfl ?_
                      (try simp only [Act.put, nA, nB, nC])
                      first | refine lQ rfl ?_ | refine lM rfl rfl ?_ | fail
                      (try simp only [Act.put, nA, nB, nC])
                      first | refine lQ rfl ?_ | refine lP rfl ?_ | fail
                      (try simp only [Act.put, nA, nB, nC])
                      first | refine lQ rfl ?_ | refine lP rfl ?_ | fail
                      (try simp only [Act.put, nA, nB, nC])
                      first | refine lQ rfl ?_ | (refine ⟨?_⟩; ((first | refine sL1 hS rfl rfl rfl ?_ | refine sL2 hS rfl rfl rfl ?_ | refine sL3 hS rfl rfl ?_ | refine sL4 hS rfl rfl ?_ | refine sL5 hS rfl rfl ?_ | refine sL6 hS rfl rfl ?_ | refine sL7 hS rfl rfl ?_)); refine WL.h ?_) | fail
                      (try simp only [Act.put, nA, nB, nC])
                      first | refine lQ rfl ?_ | refine lM rfl rfl ?_ | fail
                      (try simp only [Act.put, nA, nB, nC])
                      first | refine lQ rfl ?_ | refine lP rfl ?_ | fail
                      (try simp only [Act.put, nA, nB, nC])
                      first | refine lQ rfl ?_ | (refine ⟨?_⟩; ((first | refine sL1 hS rfl rfl rfl ?_ | refine sL2 hS rfl rfl rfl ?_ | refine sL3 hS rfl rfl ?_ | refine sL4 hS rfl rfl ?_ | refine sL5 hS rfl rfl ?_ | refine sL6 hS rfl rfl ?_ | refine sL7 hS rfl rfl ?_)); refine WL.h ?_) | fail
                      (try simp only [Act.put, nA, nB, nC])
                      first | refine lQ rfl ?_ | refine lP rfl ?_ | fail
                      (try simp only [Act.put, nA, nB, nC])
                      first | refine lQ rfl ?_ | refine lP rfl ?_ | fail
                      (try simp only [Act.put, nA, nB, nC])
                      refine lP rfl ?_
                      (try simp only [Act.put, nA, nB, nC])
                      refine lZ ?_
                      go_wp2_with (first | (refine oL ?_; (first | refine sL1 hS rfl rfl rfl ?_ | refine sL2 hS rfl rfl rfl ?_ | refine sL3 hS rfl rfl ?_ | refine sL4 hS rfl rfl ?_ | refine sL5 hS rfl rfl ?_ | refine sL6 hS rfl rfl ?_ | refine sL7 hS rfl rfl ?_)) | (refine oS ?_; ((first | refine sS1 hS rfl rfl rfl ?_ | refine sS2 hS rfl rfl rfl ?_ | refine sS3 hS rfl rfl rfl ?_ | refine sS4 hS rfl rfl rfl ?_ | refine sS5 hS rfl rfl rfl ?_); clear hS; intro w hS)) | (refine oP ?_; ((first | refine sP1 hS rfl rfl rfl ?_ | refine sP2 hS rfl rfl rfl ?_ | refine sP3 hS rfl rfl rfl ?_); clear hS; first | ((fail_if_success guard_hyp L1); intro L1 cl1 w hL1 hM1 hS) | ((fail_if_success guard_hyp L2); intro L2 cl2 w hL2 hM2 hS) | ((fail_if_success guard_hyp L3); intro L3 cl3 w hL3 hM3 hS) | fail)) | ((first | refine sN1 hS rfl ?_ | (refine oC ?_; first | refine sC0 hS rfl ?_ | refine sC1 hS rfl rfl ?_ | refine sC2 hS rfl rfl ?_ | refine sC3 hS rfl rfl rfl ?_ | refine sC4 hS rfl rfl rfl ?_) | refine sM1 hS rfl rfl rfl ?_); clear hS; first | ((fail_if_success guard_hyp g1); intro g1 w hS) | ((fail_if_success guard_hyp g2); intro g2 w hS) | ((fail_if_success guard_hyp g3); intro g3 w hS) | ((fail_if_success guard_hyp g4); intro g4 w hS) | ((fail_if_success guard_hyp g5); intro g5 w hS) | ((fail_if_success guard_hyp g6); intro g6 w hS) | ((fail_if_success guard_hyp g7); intro g7 w hS) | ((fail_if_success guard_hyp g8); intro g8 w hS) | ((fail_if_success guard_hyp g9); intro g9 w hS) | ((fail_if_success guard_hyp g10); intro g10 w hS) | ((fail_if_success guard_hyp g11); intro g11 w hS) | fail) | fail)
                      refine (noteD_st (cs := [blk g1 [.slice A1 n c1, .slice A2 n c2, .slice (some ⟨bh, oh, none⟩) nn c3, .slice A4 n c4, .slice A5 n c5, .slice A6 nn c6, .slice A7 nn c7] 56, blk g3 [.slice D1 n j1, .slice D2 n j2, .slice D3 nn j3, .slice D4 n j4, .slice D5 n j5, .slice D6 nn j6, .slice D7 nn j7] 56, froz T2 u3, froz TK uk, froz N1 u1]) gt gl gq n nn na c ca cv p0 q0 i0 c0 L L3 LV A0 p.len p.arcs vs rs Q0 val hS.re HN.out.1 HNN.out hn5 hp hq HN.out.2.1 HN.out.2.2.1 (by omega) HN.out.2.2.2 (by rw [HPN.out]; exact HRK.out) HI0.out.1 HI0.out.2).mono ?_
                      rintro e w ⟨rfl, Aq, cq, hS1⟩
                      replace hS := hS1
                      clear hS1
                      rw [HPN.out] at hS
                      rw [show p.len.set q0 (nth p.len q0 + 1) = (takeP p i0 q0).len from rfl, show p.arcs.set i0 { arcOf p.arcs i0 with at_ := nth p.len q0 + 1 } = (takeP p i0 q0).arcs from rfl] at hS
                      go_wp2_with (first | (refine oL ?_; (first | refine sL1 hS rfl rfl rfl ?_ | refine sL2 hS rfl rfl rfl ?_ | refine sL3 hS rfl rfl ?_ | refine sL4 hS rfl rfl ?_ | refine sL5 hS rfl rfl ?_ | refine sL6 hS rfl rfl ?_ | refine sL7 hS rfl rfl ?_)) | (refine oS ?_; ((first | refine sS1 hS rfl rfl rfl ?_ | refine sS2 hS rfl rfl rfl ?_ | refine sS3 hS rfl rfl rfl ?_ | refine sS4 hS rfl rfl rfl ?_ | refine sS5 hS rfl rfl rfl ?_); clear hS; intro w hS)) | (refine oP ?_; ((first | refine sP1 hS rfl rfl rfl ?_ | refine sP2 hS rfl rfl rfl ?_ | refine sP3 hS rfl rfl rfl ?_); clear hS; first | ((fail_if_success guard_hyp L1); intro L1 cl1 w hL1 hM1 hS) | ((fail_if_success guard_hyp L2); intro L2 cl2 w hL2 hM2 hS) | ((fail_if_success guard_hyp L3); intro L3 cl3 w hL3 hM3 hS) | fail)) | ((first | refine sN1 hS rfl ?_ | (refine oC ?_; first | refine sC0 hS rfl ?_ | refine sC1 hS rfl rfl ?_ | refine sC2 hS rfl rfl ?_ | refine sC3 hS rfl rfl rfl ?_ | refine sC4 hS rfl rfl rfl ?_) | refine sM1 hS rfl rfl rfl ?_); clear hS; first | ((fail_if_success guard_hyp g1); intro g1 w hS) | ((fail_if_success guard_hyp g2); intro g2 w hS) | ((fail_if_success guard_hyp g3); intro g3 w hS) | ((fail_if_success guard_hyp g4); intro g4 w hS) | ((fail_if_success guard_hyp g5); intro g5 w hS) | ((fail_if_success guard_hyp g6); intro g6 w hS) | ((fail_if_success guard_hyp g7); intro g7 w hS) | ((fail_if_success guard_hyp g8); intro g8 w hS) | ((fail_if_success guard_hyp g9); intro g9 w hS) | ((fail_if_success guard_hyp g10); intro g10 w hS) | ((fail_if_success guard_hyp g11); intro g11 w hS) | fail) | fail)
                      go_roundw
                      case measure => simp [intOf]; omega
                      exact ⟨i + 1, na, ca, cv, L3, LV, takeP p i0 q0, vs, _, D1, j1, D2, j2, D3, j3, D4, j4, D5, j5, D6, j6, D7, j7, _, T2, u3, by omega, by go_num, Lib.hid (HM2.out Aq cq), HS2, hS.re⟩
                    · as_aux_lemma =>
                      have HM2 := Lib.hid (HMC.out.mark HR.out hp hq hne hch)
                      clear HMC HC HR hch
                      generalize p0 * n = pn at *
                      go_wp2_with (first | (refine oL ?_; (first | refine sL1 hS rfl rfl rfl ?_ | refine sL2 hS rfl rfl rfl ?_ | refine sL3 hS rfl rfl ?_ | refine sL4 hS rfl rfl ?_ | refine sL5 hS rfl rfl ?_ | refine sL6 hS rfl rfl ?_ | refine sL7 hS rfl rfl ?_)) | (refine oS ?_; ((first | refine sS1 hS rfl rfl rfl ?_ | refine sS2 hS rfl rfl rfl ?_ | refine sS3 hS rfl rfl rfl ?_ | refine sS4 hS rfl rfl rfl ?_ | refine sS5 hS rfl rfl rfl ?_); clear hS; intro w hS)) | (refine oP ?_; ((first | refine sP1 hS rfl rfl rfl ?_ | refine sP2 hS rfl rfl rfl ?_ | refine sP3 hS rfl rfl rfl ?_); clear hS; first | ((fail_if_success guard_hyp L1); intro L1 cl1 w hL1 hM1 hS) | ((fail_if_success guard_hyp L2); intro L2 cl2 w hL2 hM2 hS) | ((fail_if_success guard_hyp L3); intro L3 cl3 w hL3 hM3 hS) | fail)) | ((first | refine sN1 hS rfl ?_ | (refine oC ?_; first | refine sC0 hS rfl ?_ | refine sC1 hS rfl rfl ?_ | refine sC2 hS rfl rfl ?_ | refine sC3 hS rfl rfl rfl ?_ | refine sC4 hS rfl rfl rfl ?_) | refine sM1 hS rfl rfl rfl ?_); clear hS; first | ((fail_if_success guard_hyp g1); intro g1 w hS) | ((fail_if_success guard_hyp g2); intro g2 w hS) | ((fail_if_success guard_hyp g3); intro g3 w hS) | ((fail_if_success guard_hyp g4); intro g4 w hS) | ((fail_if_success guard_hyp g5); intro g5 w hS) | ((fail_if_success guard_hyp g6); intro g6 w hS) | ((fail_if_success guard_hyp g7); intro g7 w hS) | ((fail_if_success guard_hyp g8); intro g8 w hS) | ((fail_if_success guard_hyp g9); intro g9 w hS) | ((fail_if_success guard_hyp g10); intro g10 w hS) | ((fail_if_success guard_hyp g11); intro g11 w hS) | fail) | fail)
                      refine dr_start0 []  hS (by kernel_rfl) rfl ?_; clear hS; intro w hS
                      refine dM hS 0 rfl rfl rfl ?_
                      (try simp only [Act.put, nA, nB, nC])
                      refine dM hS 1 rfl rfl rfl ?_
                      (try simp only [Act.put, nA, nB, nC])
                      refine dP hS 2 rfl rfl ?_
                      (try simp only [Act.put, nA, nB, nC])
                      refine dP hS 3 rfl rfl ?_
                      (try simp only [Act.put, nA, nB, nC])
                      first | refine dL1 hS 4 rfl rfl rfl rfl ?_ | refine dL2 hS 4 rfl rfl rfl rfl ?_ | refine dL3 hS 4 rfl rfl rfl ?_ | refine dL4 hS 4 rfl rfl rfl ?_ | refine dL5 hS 4 rfl rfl rfl ?_ | refine dL6 hS 4 rfl rfl rfl ?_ | refine dL7 hS 4 rfl rfl rfl ?_
                      (try simp only [Act.put, nA, nB, nC])
                      refine dM hS 5 rfl rfl rfl ?_
                      (try simp only [Act.put, nA, nB, nC])
                      refine dP hS 6 rfl rfl ?_
                      (try simp only [Act.put, nA, nB, nC])
                      refine dM hS 7 rfl rfl rfl ?_
                      (try simp only [Act.put, nA, nB, nC])
                      refine dM hS 8 rfl rfl rfl ?_
                      (try simp only [Act.put, nA, nB, nC])
                      refine dP hS 9 rfl rfl ?_
                      (try simp only [Act.put, nA, nB, nC])
                      refine dP hS 10 rfl rfl ?_
                      (try simp only [Act.put, nA, nB, nC])
                      first | refine dL1 hS 11 rfl rfl rfl rfl ?_ | refine dL2 hS 11 rfl rfl rfl rfl ?_ | refine dL3 hS 11 rfl rfl rfl ?_ | refine dL4 hS 11 rfl rfl rfl ?_ | refine dL5 hS 11 rfl rfl rfl ?_ | refine dL6 hS 11 rfl rfl rfl ?_ | refine dL7 hS 11 rfl rfl rfl ?_
                      (try simp only [Act.put, nA, nB, nC])
                      refine dP hS 12 rfl rfl ?_
                      (try simp only [Act.put, nA, nB, nC])
                      refine dA hS 13 rfl rfl rfl ?_
                      (try simp only [Act.put, nA, nB, nC])
                      refine dr_done (by kernel_rfl) ?_
                      go_upto_region 19 with (first | (refine oL ?_; (first | refine sL1 hS rfl rfl rfl ?_ | refine sL2 hS rfl rfl rfl ?_ | refine sL3 hS rfl rfl ?_ | refine sL4 hS rfl rfl ?_ | refine sL5 hS rfl rfl ?_ | refine sL6 hS rfl rfl ?_ | refine sL7 hS rfl rfl ?_)) | (refine oS ?_; ((first | refine sS1 hS rfl rfl rfl ?_ | refine sS2 hS rfl rfl rfl ?_ | refine sS3 hS rfl rfl rfl ?_ | refine sS4 hS rfl rfl rfl ?_ | refine sS5 hS rfl rfl rfl ?_); clear hS; intro w hS)) | (refine oP ?_; ((first | refine sP1 hS rfl rfl rfl ?_ | refine sP2 hS rfl rfl rfl ?_ | refine sP3 hS rfl rfl rfl ?_); clear hS; first | ((fail_if_success guard_hyp L1); intro L1 cl1 w hL1 hM1 hS) | ((fail_if_success guard_hyp L2); intro L2 cl2 w hL2 hM2 hS) | ((fail_if_success guard_hyp L3); intro L3 cl3 w hL3 hM3 hS) | fail)) | ((first | refine sN1 hS rfl ?_ | (refine oC ?_; first | refine sC0 hS rfl ?_ | refine sC1 hS rfl rfl ?_ | refine sC2 hS rfl rfl ?_ | refine sC3 hS rfl rfl rfl ?_ | refine sC4 hS rfl rfl rfl ?_) | refine sM1 hS rfl rfl rfl ?_); clear hS; first | ((fail_if_success guard_hyp g1); intro g1 w hS) | ((fail_if_success guard_hyp g2); intro g2 w hS) | ((fail_if_success guard_hyp g3); intro g3 w hS) | ((fail_if_success guard_hyp g4); intro g4 w hS) | ((fail_if_success guard_hyp g5); intro g5 w hS) | ((fail_if_success guard_hyp g6); intro g6 w hS) | ((fail_if_success guard_hyp g7); intro g7 w hS) | ((fail_if_success guard_hyp g8); intro g8 w hS) | ((fail_if_success guard_hyp g9); intro g9 w hS) | ((fail_if_success guard_hyp g10); intro g10 w hS) | ((fail_if_success guard_hyp g11); intro g11 w hS) | fail) | fail)
                      refine lR ?_
                      refine lM rfl rfl ?_
                      (try simp only [Act.put, nA, nB, nC])
                      refine lM rfl rfl ?_
                      (try simp only [Act.put, nA, nB, nC])
                      refine lP rfl ?_
                      (try simp only [Act.put, nA, nB, nC])
                      refine lP rfl ?_
                      (try simp only [Act.put, nA, nB, nC])
                      (refine ⟨?_⟩; ((first | refine sL1 hS rfl rfl rfl ?_ | refine sL2 hS rfl rfl rfl ?_ | refine sL3 hS rfl rfl ?_ | refine sL4 hS rfl rfl ?_ | refine sL5 hS rfl rfl ?_ | refine sL6 hS rfl rfl ?_ | refine sL7 hS rfl rfl ?_)); refine WL.h ?_)
                      (try simp only [Act.put, nA, nB, nC])
                      refine lP rfl ?_
                      (try simp only [Act.put, nA, nB, nC])
                      refine lM rfl rfl ?_
                      (try simp only [Act.put, nA, nB, nC])
                      first | refine lQ rfl ?_ | refine lM rfl rfl ?_ | fail
                      (try simp only [Act.put, nA, nB, nC])
                      first | refine lQ rfl ?_ | refine lP rfl ?_ | fail
                      (try simp only [Act.put, nA, nB, nC])
                      first | refine lQ rfl ?_ | (refine ⟨?_⟩; ((first | refine sL1 hS rfl rfl rfl ?_ | refine sL2 hS rfl rfl rfl ?_ | refine sL3 hS rfl rfl ?_ | refine sL4 hS rfl rfl ?_ | refine sL5 hS rfl rfl ?_ | refine sL6 hS rfl rfl ?_ | refine sL7 hS rfl rfl ?_)); refine WL.h ?_) | fail
                      (try simp only [Act.put, nA, nB, nC])
                      first | refine lQ rfl ?_ | refine lP rfl ?_ | fail
                      (try simp only [Act.put, nA, nB, nC])
                      first | refine lQ rfl ?_ | refine lP rfl ?_ | fail
                      (try simp only [Act.put, nA, nB, nC])
                      first | refine lQ rfl ?_ | refine lM rfl rfl ?_ | fail
                      (try simp only [Act.put, nA, nB, nC])
                      first | refine lQ rfl ?_ | refine lP rfl ?_ | fail
                      (try simp only [Act.put, nA, nB, nC])
                      first | refine lQ rfl ?_ | (refine ⟨?_⟩; ((first | refine sL1 hS rfl rfl rfl ?_ | refine sL2 hS rfl rfl rfl ?_ | refine sL3 hS rfl rfl ?_ | refine sL4 hS rfl rfl ?_ | refine sL5 hS rfl rfl ?_ | refine sL6 hS rfl rfl ?_ | refine sL7 hS rfl rfl ?_)); refine WL.h ?_) | fail
                      (try simp only [Act.put, nA, nB, nC])
                      first | refine lQ rfl ?_ | refine lM rfl rfl ?_ | fail
                      (try simp only [Act.put, nA, nB, nC])
                      first | refine lQ rfl ?_ | refine lP rfl ?_ | fail
                      (try simp only [Act.put, nA, nB, nC])
                      first | refine lQ rfl ?_ | (refine ⟨?_⟩; ((first | refine sL1 hS rfl rfl rfl ?_ | refine sL2 hS rfl rfl rfl ?_ | refine sL3 hS rfl rfl ?_ | refine sL4 hS rfl rfl ?_ | refine sL5 hS rfl rfl ?_ | refine sL6 hS rfl rfl ?_ | refine sL7 hS rfl rfl ?_)); refine WL.h ?_) | fail
                      (try simp only [Act.put, nA, nB, nC])
                      first | refine lQ rfl ?_ | refine lP rfl ?_ | fail
                      (try simp only [Act.put, nA, nB, nC])
                      first | refine lQ rfl ?_ | refine lP rfl ?_ | fail
                      (try simp only [Act.put, nA, nB, nC])
                      first | refine lQ rfl ?_ | refine lP rfl ?_ | fail
                      (try simp only [Act.put, nA, nB, nC])
                      refine lP rfl ?_
                      (try simp only [Act.put, nA, nB, nC])
                      refine lZ ?_
                      go_upto_region 21 with (first | (refine oL ?_; (first | refine sL1 hS rfl rfl rfl ?_ | refine sL2 hS rfl rfl rfl ?_ | refine sL3 hS rfl rfl ?_ | refine sL4 hS rfl rfl ?_ | refine sL5 hS rfl rfl ?_ | refine sL6 hS rfl rfl ?_ | refine sL7 hS rfl rfl ?_)) | (refine oS ?_; ((first | refine sS1 hS rfl rfl rfl ?_ | refine sS2 hS rfl rfl rfl ?_ | refine sS3 hS rfl rfl rfl ?_ | refine sS4 hS rfl rfl rfl ?_ | refine sS5 hS rfl rfl rfl ?_); clear hS; intro w hS)) | (refine oP ?_; ((first | refine sP1 hS rfl rfl rfl ?_ | refine sP2 hS rfl rfl rfl ?_ | refine sP3 hS rfl rfl rfl ?_); clear hS; first | ((fail_if_success guard_hyp L1); intro L1 cl1 w hL1 hM1 hS) | ((fail_if_success guard_hyp L2); intro L2 cl2 w hL2 hM2 hS) | ((fail_if_success guard_hyp L3); intro L3 cl3 w hL3 hM3 hS) | fail)) | ((first | refine sN1 hS rfl ?_ | (refine oC ?_; first | refine sC0 hS rfl ?_ | refine sC1 hS rfl rfl ?_ | refine sC2 hS rfl rfl ?_ | refine sC3 hS rfl rfl rfl ?_ | refine sC4 hS rfl rfl rfl ?_) | refine sM1 hS rfl rfl rfl ?_); clear hS; first | ((fail_if_success guard_hyp g1); intro g1 w hS) | ((fail_if_success guard_hyp g2); intro g2 w hS) | ((fail_if_success guard_hyp g3); intro g3 w hS) | ((fail_if_success guard_hyp g4); intro g4 w hS) | ((fail_if_success guard_hyp g5); intro g5 w hS) | ((fail_if_success guard_hyp g6); intro g6 w hS) | ((fail_if_success guard_hyp g7); intro g7 w hS) | ((fail_if_success guard_hyp g8); intro g8 w hS) | ((fail_if_success guard_hyp g9); intro g9 w hS) | ((fail_if_success guard_hyp g10); intro g10 w hS) | ((fail_if_success guard_hyp g11); intro g11 w hS) | fail) | fail)
                      refine lR ?_
                      refine lM rfl rfl ?_
                      (try simp only [Act.put, nA, nB, nC])
                      refine lM rfl rfl ?_
                      (try simp only [Act.put, nA, nB, nC])
                      refine lP rfl ?_
                      (try simp only [Act.put, nA, nB, nC])
                      refine lP rfl ?_
                      (try simp only [Act.put, nA, nB, nC])
                      (refine ⟨?_⟩; ((first | refine sL1 hS rfl rfl rfl ?_ | refine sL2 hS rfl rfl rfl ?_ | refine sL3 hS rfl rfl ?_ | refine sL4 hS rfl rfl ?_ | refine sL5 hS rfl rfl ?_ | refine sL6 hS rfl rfl ?_ | refine sL7 hS rfl rfl ?_)); refine WL.h ?_)
                      (try simp only [Act.put, nA, nB, nC])
                      refine lP rfl ?_
                      (try simp only [Act.put, nA, nB, nC])
                      refine lM rfl rfl ?_
                      (try simp only [Act.put, nA, nB, nC])
                      first | refine lQ rfl ?_ | refine lP rfl ?_ | fail
                      (try simp only [Act.put, nA, nB, nC])
                      first | refine lQ rfl ?_ | (refine ⟨?_⟩; ((first | refine sL1 hS rfl rfl rfl ?_ | refine sL2 hS rfl rfl rfl ?_ | refine sL3 hS rfl rfl ?_ | refine sL4 hS rfl rfl ?_ | refine sL5 hS rfl rfl ?_ | refine sL6 hS rfl rfl ?_ | refine sL7 hS rfl rfl ?_)); refine WL.h ?_) | fail
                      (try simp only [Act.put, nA, nB, nC])
                      first | refine lQ rfl ?_ | refine lM rfl rfl ?_ | fail
                      (try simp only [Act.put, nA, nB, nC])
                      first | refine lQ rfl ?_ | refine lP rfl ?_ | fail
                      (try simp only [Act.put, nA, nB, nC])
                      first | refine lQ rfl ?_ | (refine ⟨?_⟩; ((first | refine sL1 hS rfl rfl rfl ?_ | refine sL2 hS rfl rfl rfl ?_ | refine sL3 hS rfl rfl ?_ | refine sL4 hS rfl rfl ?_ | refine sL5 hS rfl rfl ?_ | refine sL6 hS rfl rfl ?_ | refine sL7 hS rfl rfl ?_)); refine WL.h ?_) | fail
                      (try simp only [Act.put, nA, nB, nC])
                      first | refine lQ rfl ?_ | refine lP rfl ?_ | fail
                      (try simp only [Act.put, nA, nB, nC])
                      first | refine lQ rfl ?_ | refine lP rfl ?_ | fail
                      (try simp only [Act.put, nA, nB, nC])
                      first | refine lQ rfl ?_ | (refine ⟨?_⟩; ((first | refine sL1 hS rfl rfl rfl ?_ | refine sL2 hS rfl rfl rfl ?_ | refine sL3 hS rfl rfl ?_ | refine sL4 hS rfl rfl ?_ | refine sL5 hS rfl rfl ?_ | refine sL6 hS rfl rfl ?_ | refine sL7 hS rfl rfl ?_)); refine WL.h ?_) | fail
                      (try simp only [Act.put, nA, nB, nC])
                      first | refine lQ rfl ?_ | refine lP rfl ?_ | fail
                      (try simp only [Act.put, nA, nB, nC])
                      refine lP rfl ?_
                      (try simp only [Act.put, nA, nB, nC])
                      refine lZ ?_
                      go_wp2_with (first | (refine oL ?_; (first | refine sL1 hS rfl rfl rfl ?_ | refine sL2 hS rfl rfl rfl ?_ | refine sL3 hS rfl rfl ?_ | refine sL4 hS rfl rfl ?_ | refine sL5 hS rfl rfl ?_ | refine sL6 hS rfl rfl ?_ | refine sL7 hS rfl rfl ?_)) | (refine oS ?_; ((first | refine sS1 hS rfl rfl rfl ?_ | refine sS2 hS rfl rfl rfl ?_ | refine sS3 hS rfl rfl rfl ?_ | refine sS4 hS rfl rfl rfl ?_ | refine sS5 hS rfl rfl rfl ?_); clear hS; intro w hS)) | (refine oP ?_; ((first | refine sP1 hS rfl rfl rfl ?_ | refine sP2 hS rfl rfl rfl ?_ | refine sP3 hS rfl rfl rfl ?_); clear hS; first | ((fail_if_success guard_hyp L1); intro L1 cl1 w hL1 hM1 hS) | ((fail_if_success guard_hyp L2); intro L2 cl2 w hL2 hM2 hS) | ((fail_if_success guard_hyp L3); intro L3 cl3 w hL3 hM3 hS) | fail)) | ((first | refine sN1 hS rfl ?_ | (refine oC ?_; first | refine sC0 hS rfl ?_ | refine sC1 hS rfl rfl ?_ | refine sC2 hS rfl rfl ?_ | refine sC3 hS rfl rfl rfl ?_ | refine sC4 hS rfl rfl rfl ?_) | refine sM1 hS rfl rfl rfl ?_); clear hS; first | ((fail_if_success guard_hyp g1); intro g1 w hS) | ((fail_if_success guard_hyp g2); intro g2 w hS) | ((fail_if_success guard_hyp g3); intro g3 w hS) | ((fail_if_success guard_hyp g4); intro g4 w hS) | ((fail_if_success guard_hyp g5); intro g5 w hS) | ((fail_if_success guard_hyp g6); intro g6 w hS) | ((fail_if_success guard_hyp g7); intro g7 w hS) | ((fail_if_success guard_hyp g8); intro g8 w hS) | ((fail_if_success guard_hyp g9); intro g9 w hS) | ((fail_if_success guard_hyp g10); intro g10 w hS) | ((fail_if_success guard_hyp g11); intro g11 w hS) | fail) | fail)
                      go_roundw
                      case measure => simp [intOf]; omega
                      exact ⟨i + 1, na, ca, cv, L3, LV, p, vs, rs, D1, j1, D2, j2, D3, j3, D4, j4, D5, j5, D6, j6, D7, j7, _, T2, u3, by omega, by go_num, HM2, HS2, hS.re⟩
            · as_aux_lemma =>
              have HR := Lib.hid (show (refS s ⟨kd, fr, tt, val⟩ != 0) = true by simpa using hr)
              have HR0 := Lib.hid hr
              clear hr
              go_upto_region 16 with (first | (refine oL ?_; (first | refine sL1 hS rfl rfl rfl ?_ | refine sL2 hS rfl rfl rfl ?_ | refine sL3 hS rfl rfl ?_ | refine sL4 hS rfl rfl ?_ | refine sL5 hS rfl rfl ?_ | refine sL6 hS rfl rfl ?_ | refine sL7 hS rfl rfl ?_)) | (refine oS ?_; ((first | refine sS1 hS rfl rfl rfl ?_ | refine sS2 hS rfl rfl rfl ?_ | refine sS3 hS rfl rfl rfl ?_ | refine sS4 hS rfl rfl rfl ?_ | refine sS5 hS rfl rfl rfl ?_); clear hS; intro w hS)) | (refine oP ?_; ((first | refine sP1 hS rfl rfl rfl ?_ | refine sP2 hS rfl rfl rfl ?_ | refine sP3 hS rfl rfl rfl ?_); clear hS; first | ((fail_if_success guard_hyp L1); intro L1 cl1 w hL1 hM1 hS) | ((fail_if_success guard_hyp L2); intro L2 cl2 w hL2 hM2 hS) | ((fail_if_success guard_hyp L3); intro L3 cl3 w hL3 hM3 hS) | fail)) | ((first | refine sN1 hS rfl ?_ | (refine oC ?_; first | refine sC0 hS rfl ?_ | refine sC1 hS rfl rfl ?_ | refine sC2 hS rfl rfl ?_ | refine sC3 hS rfl rfl rfl ?_ | refine sC4 hS rfl rfl rfl ?_) | refine sM1 hS rfl rfl rfl ?_); clear hS; first | ((fail_if_success guard_hyp g1); intro g1 w hS) | ((fail_if_success guard_hyp g2); intro g2 w hS) | ((fail_if_success guard_hyp g3); intro g3 w hS) | ((fail_if_success guard_hyp g4); intro g4 w hS) | ((fail_if_success guard_hyp g5); intro g5 w hS) | ((fail_if_success guard_hyp g6); intro g6 w hS) | ((fail_if_success guard_hyp g7); intro g7 w hS) | ((fail_if_success guard_hyp g8); intro g8 w hS) | ((fail_if_success guard_hyp g9); intro g9 w hS) | ((fail_if_success guard_hyp g10); intro g10 w hS) | ((fail_if_success guard_hyp g11); intro g11 w hS) | fail) | fail)
              refine dr_start0 []  hS (by kernel_rfl) rfl ?_; clear hS; intro w hS
              first | refine dL1 hS 0 rfl rfl rfl rfl ?_ | refine dL2 hS 0 rfl rfl rfl rfl ?_ | refine dL3 hS 0 rfl rfl rfl ?_ | refine dL4 hS 0 rfl rfl rfl ?_ | refine dL5 hS 0 rfl rfl rfl ?_ | refine dL6 hS 0 rfl rfl rfl ?_ | refine dL7 hS 0 rfl rfl rfl ?_
              (try simp only [Act.put, nA, nB, nC])
              refine dM hS 1 rfl rfl rfl ?_
              (try simp only [Act.put, nA, nB, nC])
              refine dM hS 2 rfl rfl rfl ?_
              (try simp only [Act.put, nA, nB, nC])
              refine dP hS 3 rfl rfl ?_
              (try simp only [Act.put, nA, nB, nC])
              first | refine dL1 hS 4 rfl rfl rfl rfl ?_ | refine dL2 hS 4 rfl rfl rfl rfl ?_ | refine dL3 hS 4 rfl rfl rfl ?_ | refine dL4 hS 4 rfl rfl rfl ?_ | refine dL5 hS 4 rfl rfl rfl ?_ | refine dL6 hS 4 rfl rfl rfl ?_ | refine dL7 hS 4 rfl rfl rfl ?_
              (try simp only [Act.put, nA, nB, nC])
              refine dr_two 5 9 (by kernel_rfl) rfl rfl ?_ ?_
              (refine st_call rfl (by kernel_rfl) rfl ?_; go_at_call 33; refine (step_r (HSN.out.into hS.intoK) HC.out HNN.out (by omega) HR0.out).mono ?_; rintro e w1 ⟨D1, j1, D2, j2, D3, j3, D4, j4, D5, j5, D6, j6, D7, j7, rfl, hx1⟩; replace hS := hS.ext hx1)
              (try simp only [Act.put, nA, nB, nC])
              refine dr_end hS ?_
              refine dM hS 6 rfl rfl rfl ?_
              (try simp only [Act.put, nA, nB, nC])
              refine dP hS 7 rfl rfl ?_
              (try simp only [Act.put, nA, nB, nC])
              refine dP hS 8 rfl rfl ?_
              (try simp only [Act.put, nA, nB, nC])
              refine dr_one 9 (by kernel_rfl) rfl ?_
              (refine sN1 hS rfl ?_; clear hS; first | ((fail_if_success guard_hyp g1); intro g1 w hS) | ((fail_if_success guard_hyp g2); intro g2 w hS) | ((fail_if_success guard_hyp g3); intro g3 w hS) | ((fail_if_success guard_hyp g4); intro g4 w hS) | ((fail_if_success guard_hyp g5); intro g5 w hS) | ((fail_if_success guard_hyp g6); intro g6 w hS) | ((fail_if_success guard_hyp g7); intro g7 w hS) | ((fail_if_success guard_hyp g8); intro g8 w hS) | ((fail_if_success guard_hyp g9); intro g9 w hS) | ((fail_if_success guard_hyp g10); intro g10 w hS) | ((fail_if_success guard_hyp g11); intro g11 w hS) | fail)
              (try simp only [Act.put, nA, nB, nC])
              refine dr_end hS ?_
              refine dr_one 10 (by kernel_rfl) rfl ?_
              ((first | refine sS1 hS rfl rfl rfl ?_ | refine sS2 hS rfl rfl rfl ?_ | refine sS3 hS rfl rfl rfl ?_ | refine sS4 hS rfl rfl rfl ?_ | refine sS5 hS rfl rfl rfl ?_); clear hS; intro w hS)
              (try simp only [Act.put, nA, nB, nC])
              refine dr_end hS ?_
              refine dA hS 11 rfl rfl rfl ?_
              (try simp only [Act.put, nA, nB, nC])
              refine dr_done (by kernel_rfl) ?_
              rotate_left
              (refine sN1 hS rfl ?_; clear hS; first | ((fail_if_success guard_hyp g1); intro g1 w hS) | ((fail_if_success guard_hyp g2); intro g2 w hS) | ((fail_if_success guard_hyp g3); intro g3 w hS) | ((fail_if_success guard_hyp g4); intro g4 w hS) | ((fail_if_success guard_hyp g5); intro g5 w hS) | ((fail_if_success guard_hyp g6); intro g6 w hS) | ((fail_if_success guard_hyp g7); intro g7 w hS) | ((fail_if_success guard_hyp g8); intro g8 w hS) | ((fail_if_success guard_hyp g9); intro g9 w hS) | ((fail_if_success guard_hyp g10); intro g10 w hS) | ((fail_if_success guard_hyp g11); intro g11 w hS) | fail)
              (try simp only [Act.put, nA, nB, nC])
              refine dr_end hS ?_
              refine dr_one 5 (by kernel_rfl) rfl ?_
              (refine st_call rfl (by kernel_rfl) rfl ?_; go_at_call 33; refine (step_r (HSN.out.into hS.intoK) HC.out HNN.out (by omega) HR0.out).mono ?_; rintro e w1 ⟨D1, j1, D2, j2, D3, j3, D4, j4, D5, j5, D6, j6, D7, j7, rfl, hx1⟩; replace hS := hS.ext hx1)
              (try simp only [Act.put, nA, nB, nC])
              refine dr_end hS ?_
              refine dM hS 6 rfl rfl rfl ?_
              (try simp only [Act.put, nA, nB, nC])
              refine dP hS 7 rfl rfl ?_
              (try simp only [Act.put, nA, nB, nC])
              refine dP hS 8 rfl rfl ?_
              (try simp only [Act.put, nA, nB, nC])
              refine dr_one 10 (by kernel_rfl) rfl ?_
              ((first | refine sS1 hS rfl rfl rfl ?_ | refine sS2 hS rfl rfl rfl ?_ | refine sS3 hS rfl rfl rfl ?_ | refine sS4 hS rfl rfl rfl ?_ | refine sS5 hS rfl rfl rfl ?_); clear hS; intro w hS)
              (try simp only [Act.put, nA, nB, nC])
              refine dr_end hS ?_
              refine dA hS 11 rfl rfl rfl ?_
              (try simp only [Act.put, nA, nB, nC])
              refine dr_done (by kernel_rfl) ?_
              rotate_left
              all_goals
                have HM2 := Lib.hid HMC.out.mono
                have er0 := HR.out
                have er1 := HR0.out
                clear HR HR0 HC HMC
                generalize refS s ⟨kd, fr, tt, val⟩ = er at *
                go_wp2_with (first | (refine oL ?_; (first | refine sL1 hS rfl rfl rfl ?_ | refine sL2 hS rfl rfl rfl ?_ | refine sL3 hS rfl rfl ?_ | refine sL4 hS rfl rfl ?_ | refine sL5 hS rfl rfl ?_ | refine sL6 hS rfl rfl ?_ | refine sL7 hS rfl rfl ?_)) | (refine oS ?_; ((first | refine sS1 hS rfl rfl rfl ?_ | refine sS2 hS rfl rfl rfl ?_ | refine sS3 hS rfl rfl rfl ?_ | refine sS4 hS rfl rfl rfl ?_ | refine sS5 hS rfl rfl rfl ?_); clear hS; intro w hS)) | (refine oP ?_; ((first | refine sP1 hS rfl rfl rfl ?_ | refine sP2 hS rfl rfl rfl ?_ | refine sP3 hS rfl rfl rfl ?_); clear hS; first | ((fail_if_success guard_hyp L1); intro L1 cl1 w hL1 hM1 hS) | ((fail_if_success guard_hyp L2); intro L2 cl2 w hL2 hM2 hS) | ((fail_if_success guard_hyp L3); intro L3 cl3 w hL3 hM3 hS) | fail)) | ((first | refine sN1 hS rfl ?_ | (refine oC ?_; first | refine sC0 hS rfl ?_ | refine sC1 hS rfl rfl ?_ | refine sC2 hS rfl rfl ?_ | refine sC3 hS rfl rfl rfl ?_ | refine sC4 hS rfl rfl rfl ?_) | refine sM1 hS rfl rfl rfl ?_); clear hS; first | ((fail_if_success guard_hyp g1); intro g1 w hS) | ((fail_if_success guard_hyp g2); intro g2 w hS) | ((fail_if_success guard_hyp g3); intro g3 w hS) | ((fail_if_success guard_hyp g4); intro g4 w hS) | ((fail_if_success guard_hyp g5); intro g5 w hS) | ((fail_if_success guard_hyp g6); intro g6 w hS) | ((fail_if_success guard_hyp g7); intro g7 w hS) | ((fail_if_success guard_hyp g8); intro g8 w hS) | ((fail_if_success guard_hyp g9); intro g9 w hS) | ((fail_if_success guard_hyp g10); intro g10 w hS) | ((fail_if_success guard_hyp g11); intro g11 w hS) | fail) | fail)
                go_roundw
                case measure => simp [intOf]; omega
                exact ⟨i + 1, na, ca, cv, L3, LV, p, vs, rs, A1, c1, A2, c2, A3, c3, A4, c4, A5, c5, A6, c6, A7, c7, s, T, u, by omega, by go_num, HM2, HSN, hS.re⟩
          · as_aux_lemma =>
            have hlt2' : ¬ (i : Int) < m := by omega
            have HLN : Hid (SnLen n nn s) := Lib.hid (by have h := HC.out.len (by omega); rw [HNN.out] at h; exact h)
            clear hlt2
            have hwz : ((nn : Int) != wrap64 ((n : Int) * (n : Int))) = false := by
              have e : (n : Int) * (n : Int) = (nn : Int) := by rw [← HNN.out]; simp
              rw [e, wrap_self (by omega)]; simp
            go_upto_region 26 with (first | (refine oL ?_; (first | refine sL1 hS rfl rfl rfl ?_ | refine sL2 hS rfl rfl rfl ?_ | refine sL3 hS rfl rfl ?_ | refine sL4 hS rfl rfl ?_ | refine sL5 hS rfl rfl ?_ | refine sL6 hS rfl rfl ?_ | refine sL7 hS rfl rfl ?_)) | (refine oS ?_; ((first | refine sS1 hS rfl rfl rfl ?_ | refine sS2 hS rfl rfl rfl ?_ | refine sS3 hS rfl rfl rfl ?_ | refine sS4 hS rfl rfl rfl ?_ | refine sS5 hS rfl rfl rfl ?_); clear hS; intro w hS)) | (refine oP ?_; ((first | refine sP1 hS rfl rfl rfl ?_ | refine sP2 hS rfl rfl rfl ?_ | refine sP3 hS rfl rfl rfl ?_); clear hS; first | ((fail_if_success guard_hyp L1); intro L1 cl1 w hL1 hM1 hS) | ((fail_if_success guard_hyp L2); intro L2 cl2 w hL2 hM2 hS) | ((fail_if_success guard_hyp L3); intro L3 cl3 w hL3 hM3 hS) | fail)) | ((first | refine sN1 hS rfl ?_ | (refine oC ?_; first | refine sC0 hS rfl ?_ | refine sC1 hS rfl rfl ?_ | refine sC2 hS rfl rfl ?_ | refine sC3 hS rfl rfl rfl ?_ | refine sC4 hS rfl rfl rfl ?_) | refine sM1 hS rfl rfl rfl ?_); clear hS; first | ((fail_if_success guard_hyp g1); intro g1 w hS) | ((fail_if_success guard_hyp g2); intro g2 w hS) | ((fail_if_success guard_hyp g3); intro g3 w hS) | ((fail_if_success guard_hyp g4); intro g4 w hS) | ((fail_if_success guard_hyp g5); intro g5 w hS) | ((fail_if_success guard_hyp g6); intro g6 w hS) | ((fail_if_success guard_hyp g7); intro g7 w hS) | ((fail_if_success guard_hyp g8); intro g8 w hS) | ((fail_if_success guard_hyp g9); intro g9 w hS) | ((fail_if_success guard_hyp g10); intro g10 w hS) | ((fail_if_success guard_hyp g11); intro g11 w hS) | fail) | fail)
            refine lR ?_
            refine lP rfl ?_
            (try simp only [Act.put, nA, nB, nC])
            (refine ⟨?_⟩; ((first | refine sL1 hS rfl rfl rfl ?_ | refine sL2 hS rfl rfl rfl ?_ | refine sL3 hS rfl rfl ?_ | refine sL4 hS rfl rfl ?_ | refine sL5 hS rfl rfl ?_ | refine sL6 hS rfl rfl ?_ | refine sL7 hS rfl rfl ?_)); refine WL.h ?_)
            (try simp only [Act.put, nA, nB, nC])
            refine lP rfl ?_
            (try simp only [Act.put, nA, nB, nC])
            refine lM rfl rfl ?_
            (try simp only [Act.put, nA, nB, nC])
            refine lP rfl ?_
            (try simp only [Act.put, nA, nB, nC])
            refine lM rfl rfl ?_
            (try simp only [Act.put, nA, nB, nC])
            first | refine lQ rfl ?_ | refine lP rfl ?_ | fail
            (try simp only [Act.put, nA, nB, nC])
            first | refine lQ rfl ?_ | (refine ⟨?_⟩; ((first | refine sL1 hS rfl rfl rfl ?_ | refine sL2 hS rfl rfl rfl ?_ | refine sL3 hS rfl rfl ?_ | refine sL4 hS rfl rfl ?_ | refine sL5 hS rfl rfl ?_ | refine sL6 hS rfl rfl ?_ | refine sL7 hS rfl rfl ?_)); refine WL.h ?_) | fail
            (try simp only [Act.put, nA, nB, nC])
            first | refine lQ rfl ?_ | refine lP rfl ?_ | fail
            (try simp only [Act.put, nA, nB, nC])
            first | refine lQ rfl ?_ | refine lM rfl rfl ?_ | fail
            (try simp only [Act.put, nA, nB, nC])
            first | refine lQ rfl ?_ | refine lM rfl rfl ?_ | fail
            (try simp only [Act.put, nA, nB, nC])
            first | refine lQ rfl ?_ | refine lP rfl ?_ | fail
            (try simp only [Act.put, nA, nB, nC])
            first | refine lQ rfl ?_ | refine lP rfl ?_ | fail
            (try simp only [Act.put, nA, nB, nC])
            refine lP rfl ?_
            (try simp only [Act.put, nA, nB, nC])
            refine lZ ?_
            go_wp2_with (first | (refine oL ?_; (first | refine sL1 hS rfl rfl rfl ?_ | refine sL2 hS rfl rfl rfl ?_ | refine sL3 hS rfl rfl ?_ | refine sL4 hS rfl rfl ?_ | refine sL5 hS rfl rfl ?_ | refine sL6 hS rfl rfl ?_ | refine sL7 hS rfl rfl ?_)) | (refine oS ?_; ((first | refine sS1 hS rfl rfl rfl ?_ | refine sS2 hS rfl rfl rfl ?_ | refine sS3 hS rfl rfl rfl ?_ | refine sS4 hS rfl rfl rfl ?_ | refine sS5 hS rfl rfl rfl ?_); clear hS; intro w hS)) | (refine oP ?_; ((first | refine sP1 hS rfl rfl rfl ?_ | refine sP2 hS rfl rfl rfl ?_ | refine sP3 hS rfl rfl rfl ?_); clear hS; first | ((fail_if_success guard_hyp L1); intro L1 cl1 w hL1 hM1 hS) | ((fail_if_success guard_hyp L2); intro L2 cl2 w hL2 hM2 hS) | ((fail_if_success guard_hyp L3); intro L3 cl3 w hL3 hM3 hS) | fail)) | ((first | refine sN1 hS rfl ?_ | (refine oC ?_; first | refine sC0 hS rfl ?_ | refine sC1 hS rfl rfl ?_ | refine sC2 hS rfl rfl ?_ | refine sC3 hS rfl rfl rfl ?_ | refine sC4 hS rfl rfl rfl ?_) | refine sM1 hS rfl rfl rfl ?_); clear hS; first | ((fail_if_success guard_hyp g1); intro g1 w hS) | ((fail_if_success guard_hyp g2); intro g2 w hS) | ((fail_if_success guard_hyp g3); intro g3 w hS) | ((fail_if_success guard_hyp g4); intro g4 w hS) | ((fail_if_success guard_hyp g5); intro g5 w hS) | ((fail_if_success guard_hyp g6); intro g6 w hS) | ((fail_if_success guard_hyp g7); intro g7 w hS) | ((fail_if_success guard_hyp g8); intro g8 w hS) | ((fail_if_success guard_hyp g9); intro g9 w hS) | ((fail_if_success guard_hyp g10); intro g10 w hS) | ((fail_if_success guard_hyp g11); intro g11 w hS) | fail) | fail)
            clear hlt2' hwz
            go_loopw [16] (fun s16 wr => ∃ (k : Nat), k ≤ n ∧ s16 = .int .i64 k ∧ Hid (∀ q, q < k → 0 ≤ nth s.cut q) ∧ St w0 NoM [blk g1 [.slice A1 n c1, .slice A2 n c2, .slice A3 nn c3, .slice A4 n c4, .slice A5 n c5, .slice A6 nn c6, .slice A7 nn c7] 56, blk gt [.slice (some ⟨gl, 0, none⟩) n n, .slice L n c, .slice L3 na ca, .slice LV na cv, .slice (some ⟨gq, 0, none⟩) nn nn] 52, row (.slice (some ⟨gl, 0, none⟩) n n) 3 1 n (ints p.len), row (.slice L3 na ca) 71 4 na (List.flatMap arcCells p.arcs), row (.slice LV na cv) 3 1 na (ints (vs)), row (.slice (some ⟨gq, 0, none⟩) nn nn) 24 1 nn (qvals (rs)), famC (qfam (rs)), froz T u, froz TK uk, froz N1 u1] wr) (fun s16 _ => n - (intOf s16).toNat)
            case atStart => exact ⟨0, by omega, rfl, Lib.hid (fun q hq => absurd hq (by omega)), hS.re⟩
            case round =>
              clear hS
              obtain ⟨k, hk, rfl, HALL, hS⟩ := hrel
              by_cases hlt3 : k < n
              · have hlt3' : (k : Int) < n := by omega
                obtain ⟨b4, o4, e4, hfc⟩ := HSN.out.cut.fc (k := k) (by rw [HC.out.lk]; exact hlt3)
                simp only at e4
                subst e4
                by_cases h0 : nth s.cut k < 0
                · have HCB := Lib.hid (HMC.out.notDone hlt3 h0)
                  go_wp2_with (first | (go_at_call 35; refine (complete_n (HSN.out.into (hS.intoK (T := T) (u := u))) HLN.out (by omega) (by omega)).mono ?_; rw [HCB.out]; rintro e w ⟨rfl, hx1⟩; replace hS := hS.ext hx1) | (refine oL ?_; (first | refine sL1 hS rfl rfl rfl ?_ | refine sL2 hS rfl rfl rfl ?_ | refine sL3 hS rfl rfl ?_ | refine sL4 hS rfl rfl ?_ | refine sL5 hS rfl rfl ?_ | refine sL6 hS rfl rfl ?_ | refine sL7 hS rfl rfl ?_)) | (refine oS ?_; ((first | refine sS1 hS rfl rfl rfl ?_ | refine sS2 hS rfl rfl rfl ?_ | refine sS3 hS rfl rfl rfl ?_ | refine sS4 hS rfl rfl rfl ?_ | refine sS5 hS rfl rfl rfl ?_); clear hS; intro w hS)) | (refine oP ?_; ((first | refine sP1 hS rfl rfl rfl ?_ | refine sP2 hS rfl rfl rfl ?_ | refine sP3 hS rfl rfl rfl ?_); clear hS; first | ((fail_if_success guard_hyp L1); intro L1 cl1 w hL1 hM1 hS) | ((fail_if_success guard_hyp L2); intro L2 cl2 w hL2 hM2 hS) | ((fail_if_success guard_hyp L3); intro L3 cl3 w hL3 hM3 hS) | fail)) | ((first | refine sN1 hS rfl ?_ | (refine oC ?_; first | refine sC0 hS rfl ?_ | refine sC1 hS rfl rfl ?_ | refine sC2 hS rfl rfl ?_ | refine sC3 hS rfl rfl rfl ?_ | refine sC4 hS rfl rfl rfl ?_) | refine sM1 hS rfl rfl rfl ?_); clear hS; first | ((fail_if_success guard_hyp g1); intro g1 w hS) | ((fail_if_success guard_hyp g2); intro g2 w hS) | ((fail_if_success guard_hyp g3); intro g3 w hS) | ((fail_if_success guard_hyp g4); intro g4 w hS) | ((fail_if_success guard_hyp g5); intro g5 w hS) | ((fail_if_success guard_hyp g6); intro g6 w hS) | ((fail_if_success guard_hyp g7); intro g7 w hS) | ((fail_if_success guard_hyp g8); intro g8 w hS) | ((fail_if_success guard_hyp g9); intro g9 w hS) | ((fail_if_success guard_hyp g10); intro g10 w hS) | ((fail_if_success guard_hyp g11); intro g11 w hS) | fail) | fail)
                  go_ret
                  exact ⟨rfl, hS.toExt⟩
                · have HA2 := Lib.hid (show ∀ q, q < k + 1 → 0 ≤ nth s.cut q from fun q hq => by
                    rcases Nat.lt_succ_iff_lt_or_eq.1 hq with h | rfl
                    · exact HALL.out q h
                    · omega)
                  go_wp2_with (first | (refine oL ?_; (first | refine sL1 hS rfl rfl rfl ?_ | refine sL2 hS rfl rfl rfl ?_ | refine sL3 hS rfl rfl ?_ | refine sL4 hS rfl rfl ?_ | refine sL5 hS rfl rfl ?_ | refine sL6 hS rfl rfl ?_ | refine sL7 hS rfl rfl ?_)) | (refine oS ?_; ((first | refine sS1 hS rfl rfl rfl ?_ | refine sS2 hS rfl rfl rfl ?_ | refine sS3 hS rfl rfl rfl ?_ | refine sS4 hS rfl rfl rfl ?_ | refine sS5 hS rfl rfl rfl ?_); clear hS; intro w hS)) | (refine oP ?_; ((first | refine sP1 hS rfl rfl rfl ?_ | refine sP2 hS rfl rfl rfl ?_ | refine sP3 hS rfl rfl rfl ?_); clear hS; first | ((fail_if_success guard_hyp L1); intro L1 cl1 w hL1 hM1 hS) | ((fail_if_success guard_hyp L2); intro L2 cl2 w hL2 hM2 hS) | ((fail_if_success guard_hyp L3); intro L3 cl3 w hL3 hM3 hS) | fail)) | ((first | refine sN1 hS rfl ?_ | (refine oC ?_; first | refine sC0 hS rfl ?_ | refine sC1 hS rfl rfl ?_ | refine sC2 hS rfl rfl ?_ | refine sC3 hS rfl rfl rfl ?_ | refine sC4 hS rfl rfl rfl ?_) | refine sM1 hS rfl rfl rfl ?_); clear hS; first | ((fail_if_success guard_hyp g1); intro g1 w hS) | ((fail_if_success guard_hyp g2); intro g2 w hS) | ((fail_if_success guard_hyp g3); intro g3 w hS) | ((fail_if_success guard_hyp g4); intro g4 w hS) | ((fail_if_success guard_hyp g5); intro g5 w hS) | ((fail_if_success guard_hyp g6); intro g6 w hS) | ((fail_if_success guard_hyp g7); intro g7 w hS) | ((fail_if_success guard_hyp g8); intro g8 w hS) | ((fail_if_success guard_hyp g9); intro g9 w hS) | ((fail_if_success guard_hyp g10); intro g10 w hS) | ((fail_if_success guard_hyp g11); intro g11 w hS) | fail) | fail)
                  go_roundw
                  case measure => simp [intOf]; omega
                  exact ⟨k + 1, by omega, by go_num, HA2, hS.re⟩
              · as_aux_lemma =>
                have hlt3' : ¬ (k : Int) < n := by omega
                have HA := Lib.hid (show ∀ q, q < n → 0 ≤ nth s.cut q from fun q hq => HALL.out q (by omega))
                have hpl := HMC.out.pl
                have hnaE := HMC.out.na_
                have hvl := HMC.out.vl
                have hcA := hS.rowForm L3
                obtain ⟨T1, hS1, hi1, hr1⟩ := (hS.re (ds := row (.slice (some ⟨gl, 0, none⟩) n n) 3 1 n (ints p.len) :: froz TK uk :: row (.slice L3 na ca) 71 4 na (List.flatMap arcCells p.arcs) :: row (.slice LV na cv) 3 1 na (ints vs) :: blk g1 [.slice A1 n c1, .slice A2 n c2, .slice A3 nn c3, .slice A4 n c4, .slice A5 n c5, .slice A6 nn c6, .slice A7 nn c7] 56 :: blk gt [.slice (some ⟨gl, 0, none⟩) n n, .slice L n c, .slice L3 na ca, .slice LV na cv, .slice (some ⟨gq, 0, none⟩) nn nn] 52 :: froz T u :: [])).freezeV (T := TK) (u := uk)
                obtain ⟨T2, hS2, hi2, hr2⟩ := (hS1.perm (List.Perm.swap _ _ _)).freezeV (T := T1)
                obtain ⟨T3, hS3, hi3, hr3⟩ := (hS2.perm (List.Perm.swap _ _ _)).freezeV (T := T2)
                obtain ⟨T4, hS4, hi4, hg4⟩ := (hS3.re (ds := blk gt [.slice (some ⟨gl, 0, none⟩) n n, .slice L n c, .slice L3 na ca, .slice LV na cv, .slice (some ⟨gq, 0, none⟩) nn nn] 52 :: froz T3 wr :: blk g1 [.slice A1 n c1, .slice A2 n c2, .slice A3 nn c3, .slice A4 n c4, .slice A5 n c5, .slice A6 nn c6, .slice A7 nn c7] 56 :: froz T u :: [])).freezeB (T := T3) (u := wr)
                have HPA : PatAt T4 wr ⟨some ⟨gl, 0, none⟩, n, L, c, L3, ca⟩ p := ⟨RV.into hr1 (hi2.trans' (hi3.trans' hi4)), by rw [HMC.out.tr.ck]; exact HCK.out.into (hi1.trans' (hi2.trans' (hi3.trans' hi4))), ⟨_, RV.into hr2 (hi3.trans' hi4), reps_arcs _ p.arcs⟩, by rw [hpl]; exact Nat.le_refl _, (by show n ≤ 9223372036854775807; omega), by rw [HMC.out.tr.ck]; simpa using hcL.1, hcL.2, by rw [hnaE]; exact hcA.1, hcA.2⟩
                have HVS : RI T4 wr LV vs := RV.into hr3 hi4
                have hg43 := hg4.take 3
                have hg2 := hg4.one (i := 2) rfl
                have hg3 := hg4.one (i := 3) rfl
                simp only [List.take_succ_cons, List.take_zero, Nat.zero_add] at hg43 hg2 hg3
                obtain ⟨wd, hwd⟩ : ∃ x, x = wr := ⟨_, rfl⟩
                rw [← hwd] at HPA HVS hg43 hg2 hg3
                replace hS : St w0 NoM [froz T4 wd, blk g1 [.slice A1 n c1, .slice A2 n c2, .slice A3 nn c3, .slice A4 n c4, .slice A5 n c5, .slice A6 nn c6, .slice A7 nn c7] 56, froz T u] wr := by rw [hwd]; exact hS4
                clear hS1 hS2 hS3 hS4 hi1 hi2 hi3 hi4 hr1 hr2 hr3 hg4 hwd hcL hcA HCK
                have HP := Lib.hid (And.intro HPA (And.intro HMC.out.tr.good (And.intro hpl (And.intro hnaE hvl))))
                have HV := Lib.hid HVS
                have HVB := Lib.hid (HMC.out.validB HA.out)
                have HCB := Lib.hid (HMC.out.consB HA.out)
                have HKL := Lib.hid HC.out.lk
                have hna60 : na ≤ 60 := by have := HMC.out.le; omega
                have hnz : (n : Int) * (n : Int) = (nn : Int) := by rw [← HNN.out]; simp
                clear HPA HVS hpl hnaE hvl
                go_wp2_with (first | (refine oL ?_; (first | refine sL1 hS rfl rfl rfl ?_ | refine sL2 hS rfl rfl rfl ?_ | refine sL3 hS rfl rfl ?_ | refine sL4 hS rfl rfl ?_ | refine sL5 hS rfl rfl ?_ | refine sL6 hS rfl rfl ?_ | refine sL7 hS rfl rfl ?_)) | (refine oS ?_; ((first | refine sS1 hS rfl rfl rfl ?_ | refine sS2 hS rfl rfl rfl ?_ | refine sS3 hS rfl rfl rfl ?_ | refine sS4 hS rfl rfl rfl ?_ | refine sS5 hS rfl rfl rfl ?_); clear hS; intro w hS)) | (refine oP ?_; ((first | refine sP1 hS rfl rfl rfl ?_ | refine sP2 hS rfl rfl rfl ?_ | refine sP3 hS rfl rfl rfl ?_); clear hS; first | ((fail_if_success guard_hyp L1); intro L1 cl1 w hL1 hM1 hS) | ((fail_if_success guard_hyp L2); intro L2 cl2 w hL2 hM2 hS) | ((fail_if_success guard_hyp L3); intro L3 cl3 w hL3 hM3 hS) | fail)) | ((first | refine sN1 hS rfl ?_ | (refine oC ?_; first | refine sC0 hS rfl ?_ | refine sC1 hS rfl rfl ?_ | refine sC2 hS rfl rfl ?_ | refine sC3 hS rfl rfl rfl ?_ | refine sC4 hS rfl rfl rfl ?_) | refine sM1 hS rfl rfl rfl ?_); clear hS; first | ((fail_if_success guard_hyp g1); intro g1 w hS) | ((fail_if_success guard_hyp g2); intro g2 w hS) | ((fail_if_success guard_hyp g3); intro g3 w hS) | ((fail_if_success guard_hyp g4); intro g4 w hS) | ((fail_if_success guard_hyp g5); intro g5 w hS) | ((fail_if_success guard_hyp g6); intro g6 w hS) | ((fail_if_success guard_hyp g7); intro g7 w hS) | ((fail_if_success guard_hyp g8); intro g8 w hS) | ((fail_if_success guard_hyp g9); intro g9 w hS) | ((fail_if_success guard_hyp g10); intro g10 w hS) | ((fail_if_success guard_hyp g11); intro g11 w hS) | fail) | fail)
                refine dr_start0 []  hS (by kernel_rfl) rfl ?_; clear hS; intro w hS
                refine dM hS 0 rfl rfl rfl ?_
                (try simp only [Act.put, nA, nB, nC])
                refine dP hS 1 rfl rfl ?_
                (try simp only [Act.put, nA, nB, nC])
                refine dP hS 2 rfl rfl ?_
                (try simp only [Act.put, nA, nB, nC])
                first | refine dL1 hS 3 rfl rfl rfl rfl ?_ | refine dL2 hS 3 rfl rfl rfl rfl ?_ | refine dL3 hS 3 rfl rfl rfl ?_ | refine dL4 hS 3 rfl rfl rfl ?_ | refine dL5 hS 3 rfl rfl rfl ?_ | refine dL6 hS 3 rfl rfl rfl ?_ | refine dL7 hS 3 rfl rfl rfl ?_
                (try simp only [Act.put, nA, nB, nC])
                refine dr_one 4 (by kernel_rfl) rfl ?_
                (refine st_call rfl (by kernel_rfl) rfl ?_; go_at_call 36; refine (check_nn HP.out.2.2.1 HP.out.2.2.2.1 (HP.out.1.into (hS.intoK (T := T4) (u := wd))) HP.out.2.1).mono ?_; rintro e w ⟨rfl, hx1⟩; replace hS := hS.ext hx1)
                (try simp only [Act.put, nA, nB, nC])
                refine dr_end hS ?_
                refine dP hS 5 rfl rfl ?_
                (try simp only [Act.put, nA, nB, nC])
                refine dM hS 6 rfl rfl rfl ?_
                (try simp only [Act.put, nA, nB, nC])
                first | refine dM hS 7 rfl rfl rfl ?_ | refine dQ hS 7 rfl rfl ?_
                (try simp only [Act.put, nA, nB, nC])
                first | refine dP hS 8 rfl rfl ?_ | refine dQ hS 8 rfl rfl ?_
                (try simp only [Act.put, nA, nB, nC])
                first | refine dP hS 9 rfl rfl ?_ | refine dQ hS 9 rfl rfl ?_
                (try simp only [Act.put, nA, nB, nC])
                first | refine dL1 hS 10 rfl rfl rfl rfl ?_ | refine dL2 hS 10 rfl rfl rfl rfl ?_ | refine dL3 hS 10 rfl rfl rfl ?_ | refine dL4 hS 10 rfl rfl rfl ?_ | refine dL5 hS 10 rfl rfl rfl ?_ | refine dL6 hS 10 rfl rfl rfl ?_ | refine dL7 hS 10 rfl rfl rfl ?_ | refine dQ hS 10 rfl rfl ?_
                (try simp only [Act.put, nA, nB, nC])
                first | refine dP hS 11 rfl rfl ?_ | refine dQ hS 11 rfl rfl ?_
                (try simp only [Act.put, nA, nB, nC])
                first | refine dL1 hS 12 rfl rfl rfl rfl ?_ | refine dL2 hS 12 rfl rfl rfl rfl ?_ | refine dL3 hS 12 rfl rfl rfl ?_ | refine dL4 hS 12 rfl rfl rfl ?_ | refine dL5 hS 12 rfl rfl rfl ?_ | refine dL6 hS 12 rfl rfl rfl ?_ | refine dL7 hS 12 rfl rfl rfl ?_ | refine dQ hS 12 rfl rfl ?_
                (try simp only [Act.put, nA, nB, nC])
                refine dr_one 13 (by kernel_rfl) rfl ?_
                (refine st_call rfl (by kernel_rfl) rfl ?_; go_at_call 37; refine (valid_n HP.out.2.2.1 HKL.out (HP.out.1.len.into (hS.intoK (T := T4) (u := wd))) (HSN.out.cut.into (hS.intoK (T := T) (u := u))) (by omega) (by omega)).mono ?_; rintro e w ⟨rfl, hx1⟩; replace hS := hS.ext hx1; rw [HVB.out])
                (try simp only [Act.put, nA, nB, nC])
                refine dr_end hS ?_
                first | refine dP hS 14 rfl rfl ?_ | refine dQ hS 14 rfl rfl ?_
                (try simp only [Act.put, nA, nB, nC])
                refine dP hS 15 rfl rfl ?_
                (try simp only [Act.put, nA, nB, nC])
                refine dM hS 16 rfl rfl rfl ?_
                (try simp only [Act.put, nA, nB, nC])
                first | refine dM hS 17 rfl rfl rfl ?_ | refine dQ hS 17 rfl rfl ?_
                (try simp only [Act.put, nA, nB, nC])
                first | refine dP hS 18 rfl rfl ?_ | refine dQ hS 18 rfl rfl ?_
                (try simp only [Act.put, nA, nB, nC])
                first | refine dP hS 19 rfl rfl ?_ | refine dQ hS 19 rfl rfl ?_
                (try simp only [Act.put, nA, nB, nC])
                first | refine dL1 hS 20 rfl rfl rfl rfl ?_ | refine dL2 hS 20 rfl rfl rfl rfl ?_ | refine dL3 hS 20 rfl rfl rfl ?_ | refine dL4 hS 20 rfl rfl rfl ?_ | refine dL5 hS 20 rfl rfl rfl ?_ | refine dL6 hS 20 rfl rfl rfl ?_ | refine dL7 hS 20 rfl rfl rfl ?_ | refine dQ hS 20 rfl rfl ?_
                (try simp only [Act.put, nA, nB, nC])
                first | refine dP hS 21 rfl rfl ?_ | refine dQ hS 21 rfl rfl ?_
                (try simp only [Act.put, nA, nB, nC])
                first | refine dL1 hS 22 rfl rfl rfl rfl ?_ | refine dL2 hS 22 rfl rfl rfl rfl ?_ | refine dL3 hS 22 rfl rfl rfl ?_ | refine dL4 hS 22 rfl rfl rfl ?_ | refine dL5 hS 22 rfl rfl rfl ?_ | refine dL6 hS 22 rfl rfl rfl ?_ | refine dL7 hS 22 rfl rfl rfl ?_ | refine dQ hS 22 rfl rfl ?_
                (try simp only [Act.put, nA, nB, nC])
                refine dr_one 23 (by kernel_rfl) rfl ?_
                (refine st_call rfl (by kernel_rfl) rfl ?_; go_at_call 38; refine (consistent_n HP.out.2.2.1 (HP.out.2.1.ckl.trans HP.out.2.2.1) HP.out.2.2.2.1 (HP.out.1.into (hS.intoK (T := T4) (u := wd))) HP.out.2.1 (HSN.out.cut.into (hS.intoK (T := T) (u := u))) HVB.out).mono ?_; rintro e w ⟨rfl, hx1⟩; replace hS := hS.ext hx1; rw [HCB.out])
                (try simp only [Act.put, nA, nB, nC])
                refine dr_end hS ?_
                first | refine dP hS 24 rfl rfl ?_ | refine dQ hS 24 rfl rfl ?_
                (try simp only [Act.put, nA, nB, nC])
                refine dP hS 25 rfl rfl ?_
                (try simp only [Act.put, nA, nB, nC])
                refine dr_done (by kernel_rfl) ?_
                all_goals
                  by_cases hcs : compS s = true
                  · as_aux_lemma =>
                    have HD := Lib.hid (HMC.out.wantEq (comp_done HC.out hcs))
                    have HCS := Lib.hid hcs
                    clear hcs
                    go_wp2_with (first | (go_at_call 35; refine (complete_n (HSN.out.into (hS.intoK (T := T) (u := u))) HLN.out (by omega) (by omega)).mono ?_; rw [HCS.out]; rintro e w ⟨rfl, hx1⟩; replace hS := hS.ext hx1) | (refine st_mkZ (n := nn) hS rfl rfl rfl (by first | rfl | exact hnz) (by first | rfl | exact hnz) (by omega) ?_; clear hS; intro gw w hS) | (refine oL ?_; (first | refine sL1 hS rfl rfl rfl ?_ | refine sL2 hS rfl rfl rfl ?_ | refine sL3 hS rfl rfl ?_ | refine sL4 hS rfl rfl ?_ | refine sL5 hS rfl rfl ?_ | refine sL6 hS rfl rfl ?_ | refine sL7 hS rfl rfl ?_)) | (refine oS ?_; ((first | refine sS1 hS rfl rfl rfl ?_ | refine sS2 hS rfl rfl rfl ?_ | refine sS3 hS rfl rfl rfl ?_ | refine sS4 hS rfl rfl rfl ?_ | refine sS5 hS rfl rfl rfl ?_); clear hS; intro w hS)) | (refine oP ?_; ((first | refine sP1 hS rfl rfl rfl ?_ | refine sP2 hS rfl rfl rfl ?_ | refine sP3 hS rfl rfl rfl ?_); clear hS; first | ((fail_if_success guard_hyp L1); intro L1 cl1 w hL1 hM1 hS) | ((fail_if_success guard_hyp L2); intro L2 cl2 w hL2 hM2 hS) | ((fail_if_success guard_hyp L3); intro L3 cl3 w hL3 hM3 hS) | fail)) | ((first | refine sN1 hS rfl ?_ | (refine oC ?_; first | refine sC0 hS rfl ?_ | refine sC1 hS rfl rfl ?_ | refine sC2 hS rfl rfl ?_ | refine sC3 hS rfl rfl rfl ?_ | refine sC4 hS rfl rfl rfl ?_) | refine sM1 hS rfl rfl rfl ?_); clear hS; first | ((fail_if_success guard_hyp g1); intro g1 w hS) | ((fail_if_success guard_hyp g2); intro g2 w hS) | ((fail_if_success guard_hyp g3); intro g3 w hS) | ((fail_if_success guard_hyp g4); intro g4 w hS) | ((fail_if_success guard_hyp g5); intro g5 w hS) | ((fail_if_success guard_hyp g6); intro g6 w hS) | ((fail_if_success guard_hyp g7); intro g7 w hS) | ((fail_if_success guard_hyp g8); intro g8 w hS) | ((fail_if_success guard_hyp g9); intro g9 w hS) | ((fail_if_success guard_hyp g10); intro g10 w hS) | ((fail_if_success guard_hyp g11); intro g11 w hS) | fail) | fail)
                    rw [← ivals_rep] at hS
                    replace hS := hS.famI0 nn
                    obtain ⟨l, hl⟩ : ∃ l, sel p.arcs (overB s.cut) = l := ⟨_, rfl⟩
                    obtain ⟨ln, hln⟩ : ∃ ln, l.length = ln := ⟨_, rfl⟩
                    have hln60 : ln ≤ 60 := by
                      have h := List.length_filter_le (fun i => overB s.cut (arcOf p.arcs i)) (List.range p.arcs.length)
                      have h2 : (sel p.arcs (overB s.cut)).length ≤ p.arcs.length := by simpa [sel] using h
                      rw [hl, hln, HP.out.2.2.2.1] at h2
                      omega
                    have HLL := Lib.hid (And.intro hl hln)
                    clear hl hln
                    refine dr_start0 []  hS (by kernel_rfl) rfl ?_; clear hS; intro w hS
                    refine dM hS 0 rfl rfl rfl ?_
                    (try simp only [Act.put, nA, nB, nC])
                    refine dP hS 1 rfl rfl ?_
                    (try simp only [Act.put, nA, nB, nC])
                    refine dP hS 2 rfl rfl ?_
                    (try simp only [Act.put, nA, nB, nC])
                    first | refine dL1 hS 3 rfl rfl rfl rfl ?_ | refine dL2 hS 3 rfl rfl rfl rfl ?_ | refine dL3 hS 3 rfl rfl rfl ?_ | refine dL4 hS 3 rfl rfl rfl ?_ | refine dL5 hS 3 rfl rfl rfl ?_ | refine dL6 hS 3 rfl rfl rfl ?_ | refine dL7 hS 3 rfl rfl rfl ?_
                    (try simp only [Act.put, nA, nB, nC])
                    refine dP hS 4 rfl rfl ?_
                    (try simp only [Act.put, nA, nB, nC])
                    first | refine dL1 hS 5 rfl rfl rfl rfl ?_ | refine dL2 hS 5 rfl rfl rfl rfl ?_ | refine dL3 hS 5 rfl rfl rfl ?_ | refine dL4 hS 5 rfl rfl rfl ?_ | refine dL5 hS 5 rfl rfl rfl ?_ | refine dL6 hS 5 rfl rfl rfl ?_ | refine dL7 hS 5 rfl rfl rfl ?_
                    (try simp only [Act.put, nA, nB, nC])
                    refine dr_one 6 (by kernel_rfl) rfl ?_
                    (refine st_call rfl (by kernel_rfl) rfl ?_; go_at_call 39; refine (transit_nn HP.out.2.2.1 HP.out.2.2.2.1 HLL.out.1 HLL.out.2 (HP.out.1.into (hS.intoK (T := T4) (u := wd))) HP.out.2.1 (HSN.out.cut.into (hS.intoK (T := T) (u := u))) HVB.out).mono ?_; rintro e w ⟨LT, cT, rfl, ho, hx1⟩; replace hS := hS.addRow ho hx1)
                    (try simp only [Act.put, nA, nB, nC])
                    refine dr_end hS ?_
                    refine dA hS 7 rfl rfl rfl ?_
                    (try simp only [Act.put, nA, nB, nC])
                    refine dr_done (by kernel_rfl) ?_
                    all_goals
                      generalize hW0 : List.replicate nn ((none, 0, []) : QI) = ws0 at *
                      have HW0 : Hid (ws0.map (·.2.2) = wantL p.arcs n vs ((sel p.arcs (overB s.cut)).take 0)) := Lib.hid (by rw [← hW0, ← HNN.out]; simp [wantL])
                      have HWL0 : Hid (ws0.length = nn) := Lib.hid (by rw [← hW0]; simp)
                      clear hW0
                      go_wp2_with (first | (refine oL ?_; (first | refine sL1 hS rfl rfl rfl ?_ | refine sL2 hS rfl rfl rfl ?_ | refine sL3 hS rfl rfl ?_ | refine sL4 hS rfl rfl ?_ | refine sL5 hS rfl rfl ?_ | refine sL6 hS rfl rfl ?_ | refine sL7 hS rfl rfl ?_)) | (refine oS ?_; ((first | refine sS1 hS rfl rfl rfl ?_ | refine sS2 hS rfl rfl rfl ?_ | refine sS3 hS rfl rfl rfl ?_ | refine sS4 hS rfl rfl rfl ?_ | refine sS5 hS rfl rfl rfl ?_); clear hS; intro w hS)) | (refine oP ?_; ((first | refine sP1 hS rfl rfl rfl ?_ | refine sP2 hS rfl rfl rfl ?_ | refine sP3 hS rfl rfl rfl ?_); clear hS; first | ((fail_if_success guard_hyp L1); intro L1 cl1 w hL1 hM1 hS) | ((fail_if_success guard_hyp L2); intro L2 cl2 w hL2 hM2 hS) | ((fail_if_success guard_hyp L3); intro L3 cl3 w hL3 hM3 hS) | fail)) | ((first | refine sN1 hS rfl ?_ | (refine oC ?_; first | refine sC0 hS rfl ?_ | refine sC1 hS rfl rfl ?_ | refine sC2 hS rfl rfl ?_ | refine sC3 hS rfl rfl rfl ?_ | refine sC4 hS rfl rfl rfl ?_) | refine sM1 hS rfl rfl rfl ?_); clear hS; first | ((fail_if_success guard_hyp g1); intro g1 w hS) | ((fail_if_success guard_hyp g2); intro g2 w hS) | ((fail_if_success guard_hyp g3); intro g3 w hS) | ((fail_if_success guard_hyp g4); intro g4 w hS) | ((fail_if_success guard_hyp g5); intro g5 w hS) | ((fail_if_success guard_hyp g6); intro g6 w hS) | ((fail_if_success guard_hyp g7); intro g7 w hS) | ((fail_if_success guard_hyp g8); intro g8 w hS) | ((fail_if_success guard_hyp g9); intro g9 w hS) | ((fail_if_success guard_hyp g10); intro g10 w hS) | ((fail_if_success guard_hyp g11); intro g11 w hS) | fail) | fail)
                      go_loopw [19] (fun s19 wr => ∃ (j : Nat) (ws : List QI), j ≤ ln ∧ s19 = .int .i64 j ∧ Hid (ws.map (·.2.2) = wantL p.arcs n vs ((sel p.arcs (overB s.cut)).take j)) ∧ Hid (ws.length = nn) ∧ St w0 NoM [famC (ifam ws), row (.slice (some ⟨gw, 0, none⟩) nn nn) 24 1 nn (ivals ws), row (.slice LT ln cT) 3 1 ln (ints (nats l)), blk g1 [.slice A1 n c1, .slice A2 n c2, .slice A3 nn c3, .slice A4 n c4, .slice A5 n c5, .slice A6 nn c6, .slice A7 nn c7] 56, froz T4 wd, froz T u] wr) (fun s19 _ => ln - (intOf s19).toNat)
                      case atStart => exact ⟨0, ws0, by omega, rfl, HW0, HWL0, hS.re⟩
                      case round =>
                        clear hS HW0 HWL0
                        obtain ⟨j, ws, hj, rfl, HW, HWL, hS⟩ := hrel
                        by_cases hlt4 : j < ln
                        · as_aux_lemma =>
                          have hlt4' : (j : Int) < ln := by omega
                          have hn5 : n ≤ 5 := by omega
                          obtain ⟨k, Aq, cq, Q, hlk, hk, hfr, hto, hwk, hQl, HM⟩ := HMC.out.wstep (by omega) HW.out HLL.out.1 (by rw [HLL.out.2]; exact hlt4)
                          have HM2 := Lib.hid HM
                          have HWK := Lib.hid hwk
                          have hqv := ivals_at hwk
                          simp only at hqv
                          have hlat : (ints (nats l))[j]? = some (.int .i64 (k : Int)) := by simp [ints, nats, hlk]
                          obtain ⟨bv, ov, ev, hfv⟩ := HV.out.fc (k := k) (by rw [HP.out.2.2.2.2]; exact hk)
                          obtain ⟨ba, oa, ea, hfa⟩ := RA.fcs HP.out.1.arcs (k := k) (by rw [HP.out.2.2.2.1]; exact hk)
                          rw [← arcOf_eq] at hfa
                          simp only at ea
                          subst ea ev
                          have hkn : (arcOf p.arcs k).fr * n + (arcOf p.arcs k).to < nn := by rw [← HNN.out]; exact ch_lt hfr hto
                          have hwl : (ivals ws).length = nn := by rw [ivals_len]; exact HWL.out
                          have HS1 : Hid (∀ A' c', (ws.set ((arcOf p.arcs k).fr * n + (arcOf p.arcs k).to) (A', c', Q ++ [nth vs k])).length = nn) := Lib.hid (fun A' c' => by rw [List.length_set]; exact HWL.out)
                          obtain ⟨hm1, hm2⟩ := mul_bd hfr hn5
                          clear HW hwk hlk HM HWL
                          generalize nth vs k = vk at *
                          generalize arcOf p.arcs k = ar at *
                          obtain ⟨fr, ix, tt, at_⟩ := ar
                          simp only [arcCells] at *
                          generalize fr * n = pn at *
                          have hkn' : ((pn : Nat) : Int) + (tt : Int) < nn := by omega
                          have hk' : (k : Int) < na := by omega
                          obtain ⟨gT, rfl⟩ := hS.rowSome LT (by omega)
                          go_wp2_with (first | (refine oL ?_; (first | refine sL1 hS rfl rfl rfl ?_ | refine sL2 hS rfl rfl rfl ?_ | refine sL3 hS rfl rfl ?_ | refine sL4 hS rfl rfl ?_ | refine sL5 hS rfl rfl ?_ | refine sL6 hS rfl rfl ?_ | refine sL7 hS rfl rfl ?_)) | (refine oS ?_; ((first | refine sS1 hS rfl rfl rfl ?_ | refine sS2 hS rfl rfl rfl ?_ | refine sS3 hS rfl rfl rfl ?_ | refine sS4 hS rfl rfl rfl ?_ | refine sS5 hS rfl rfl rfl ?_); clear hS; intro w hS)) | (refine oP ?_; ((first | refine sP1 hS rfl rfl rfl ?_ | refine sP2 hS rfl rfl rfl ?_ | refine sP3 hS rfl rfl rfl ?_); clear hS; first | ((fail_if_success guard_hyp L1); intro L1 cl1 w hL1 hM1 hS) | ((fail_if_success guard_hyp L2); intro L2 cl2 w hL2 hM2 hS) | ((fail_if_success guard_hyp L3); intro L3 cl3 w hL3 hM3 hS) | fail)) | ((first | refine sN1 hS rfl ?_ | (refine oC ?_; first | refine sC0 hS rfl ?_ | refine sC1 hS rfl rfl ?_ | refine sC2 hS rfl rfl ?_ | refine sC3 hS rfl rfl rfl ?_ | refine sC4 hS rfl rfl rfl ?_) | refine sM1 hS rfl rfl rfl ?_); clear hS; first | ((fail_if_success guard_hyp g1); intro g1 w hS) | ((fail_if_success guard_hyp g2); intro g2 w hS) | ((fail_if_success guard_hyp g3); intro g3 w hS) | ((fail_if_success guard_hyp g4); intro g4 w hS) | ((fail_if_success guard_hyp g5); intro g5 w hS) | ((fail_if_success guard_hyp g6); intro g6 w hS) | ((fail_if_success guard_hyp g7); intro g7 w hS) | ((fail_if_success guard_hyp g8); intro g8 w hS) | ((fail_if_success guard_hyp g9); intro g9 w hS) | ((fail_if_success guard_hyp g10); intro g10 w hS) | ((fail_if_success guard_hyp g11); intro g11 w hS) | fail) | fail)
                          refine dr_start0 []  hS (by kernel_rfl) rfl ?_; clear hS; intro w hS
                          refine dM hS 0 rfl rfl rfl ?_
                          (try simp only [Act.put, nA, nB, nC])
                          refine dM hS 1 rfl rfl rfl ?_
                          (try simp only [Act.put, nA, nB, nC])
                          refine dP hS 2 rfl rfl ?_
                          (try simp only [Act.put, nA, nB, nC])
                          first | refine dL1 hS 3 rfl rfl rfl rfl ?_ | refine dL2 hS 3 rfl rfl rfl rfl ?_ | refine dL3 hS 3 rfl rfl rfl ?_ | refine dL4 hS 3 rfl rfl rfl ?_ | refine dL5 hS 3 rfl rfl rfl ?_ | refine dL6 hS 3 rfl rfl rfl ?_ | refine dL7 hS 3 rfl rfl rfl ?_
                          (try simp only [Act.put, nA, nB, nC])
                          refine dP hS 4 rfl rfl ?_
                          (try simp only [Act.put, nA, nB, nC])
                          refine dM hS 5 rfl rfl rfl ?_
                          (try simp only [Act.put, nA, nB, nC])
                          first | refine dM hS 6 rfl rfl rfl ?_ | refine dQ hS 6 rfl rfl ?_
                          (try simp only [Act.put, nA, nB, nC])
                          first | refine dM hS 7 rfl rfl rfl ?_ | refine dQ hS 7 rfl rfl ?_
                          (try simp only [Act.put, nA, nB, nC])
                          first | refine dP hS 8 rfl rfl ?_ | refine dQ hS 8 rfl rfl ?_
                          (try simp only [Act.put, nA, nB, nC])
                          first | refine dL1 hS 9 rfl rfl rfl rfl ?_ | refine dL2 hS 9 rfl rfl rfl rfl ?_ | refine dL3 hS 9 rfl rfl rfl ?_ | refine dL4 hS 9 rfl rfl rfl ?_ | refine dL5 hS 9 rfl rfl rfl ?_ | refine dL6 hS 9 rfl rfl rfl ?_ | refine dL7 hS 9 rfl rfl rfl ?_ | refine dQ hS 9 rfl rfl ?_
                          (try simp only [Act.put, nA, nB, nC])
                          first | refine dM hS 10 rfl rfl rfl ?_ | refine dQ hS 10 rfl rfl ?_
                          (try simp only [Act.put, nA, nB, nC])
                          first | refine dP hS 11 rfl rfl ?_ | refine dQ hS 11 rfl rfl ?_
                          (try simp only [Act.put, nA, nB, nC])
                          first | refine dP hS 12 rfl rfl ?_ | refine dQ hS 12 rfl rfl ?_
                          (try simp only [Act.put, nA, nB, nC])
                          first | refine dP hS 13 rfl rfl ?_ | refine dQ hS 13 rfl rfl ?_
                          (try simp only [Act.put, nA, nB, nC])
                          first | refine dL1 hS 14 rfl rfl rfl rfl ?_ | refine dL2 hS 14 rfl rfl rfl rfl ?_ | refine dL3 hS 14 rfl rfl rfl ?_ | refine dL4 hS 14 rfl rfl rfl ?_ | refine dL5 hS 14 rfl rfl rfl ?_ | refine dL6 hS 14 rfl rfl rfl ?_ | refine dL7 hS 14 rfl rfl rfl ?_ | refine dQ hS 14 rfl rfl ?_
                          (try simp only [Act.put, nA, nB, nC])
                          first | refine dP hS 15 rfl rfl ?_ | refine dQ hS 15 rfl rfl ?_
                          (try simp only [Act.put, nA, nB, nC])
                          first | refine dP hS 16 rfl rfl ?_ | refine dQ hS 16 rfl rfl ?_
                          (try simp only [Act.put, nA, nB, nC])
                          refine dP hS 17 rfl rfl ?_
                          (try simp only [Act.put, nA, nB, nC])
                          refine dr_done (by kernel_rfl) ?_
                          go_wp2_with (first | (refine oL ?_; (first | refine sL1 hS rfl rfl rfl ?_ | refine sL2 hS rfl rfl rfl ?_ | refine sL3 hS rfl rfl ?_ | refine sL4 hS rfl rfl ?_ | refine sL5 hS rfl rfl ?_ | refine sL6 hS rfl rfl ?_ | refine sL7 hS rfl rfl ?_)) | (refine oS ?_; ((first | refine sS1 hS rfl rfl rfl ?_ | refine sS2 hS rfl rfl rfl ?_ | refine sS3 hS rfl rfl rfl ?_ | refine sS4 hS rfl rfl rfl ?_ | refine sS5 hS rfl rfl rfl ?_); clear hS; intro w hS)) | (refine oP ?_; ((first | refine sP1 hS rfl rfl rfl ?_ | refine sP2 hS rfl rfl rfl ?_ | refine sP3 hS rfl rfl rfl ?_); clear hS; first | ((fail_if_success guard_hyp L1); intro L1 cl1 w hL1 hM1 hS) | ((fail_if_success guard_hyp L2); intro L2 cl2 w hL2 hM2 hS) | ((fail_if_success guard_hyp L3); intro L3 cl3 w hL3 hM3 hS) | fail)) | ((first | refine sN1 hS rfl ?_ | (refine oC ?_; first | refine sC0 hS rfl ?_ | refine sC1 hS rfl rfl ?_ | refine sC2 hS rfl rfl ?_ | refine sC3 hS rfl rfl rfl ?_ | refine sC4 hS rfl rfl rfl ?_) | refine sM1 hS rfl rfl rfl ?_); clear hS; first | ((fail_if_success guard_hyp g1); intro g1 w hS) | ((fail_if_success guard_hyp g2); intro g2 w hS) | ((fail_if_success guard_hyp g3); intro g3 w hS) | ((fail_if_success guard_hyp g4); intro g4 w hS) | ((fail_if_success guard_hyp g5); intro g5 w hS) | ((fail_if_success guard_hyp g6); intro g6 w hS) | ((fail_if_success guard_hyp g7); intro g7 w hS) | ((fail_if_success guard_hyp g8); intro g8 w hS) | ((fail_if_success guard_hyp g9); intro g9 w hS) | ((fail_if_success guard_hyp g10); intro g10 w hS) | ((fail_if_success guard_hyp g11); intro g11 w hS) | fail) | fail)
                          refine dr_start0 [12]  hS (by kernel_rfl) rfl ?_; clear hS; intro w hS
                          refine dM hS 0 rfl rfl rfl ?_
                          (try simp only [Act.put, nA, nB, nC])
                          refine dP hS 1 rfl rfl ?_
                          (try simp only [Act.put, nA, nB, nC])
                          refine dP hS 2 rfl rfl ?_
                          (try simp only [Act.put, nA, nB, nC])
                          refine dP hS 3 rfl rfl ?_
                          (try simp only [Act.put, nA, nB, nC])
                          first | refine dL1 hS 4 rfl rfl rfl rfl ?_ | refine dL2 hS 4 rfl rfl rfl rfl ?_ | refine dL3 hS 4 rfl rfl rfl ?_ | refine dL4 hS 4 rfl rfl rfl ?_ | refine dL5 hS 4 rfl rfl rfl ?_ | refine dL6 hS 4 rfl rfl rfl ?_ | refine dL7 hS 4 rfl rfl rfl ?_
                          (try simp only [Act.put, nA, nB, nC])
                          refine dM hS 5 rfl rfl rfl ?_
                          (try simp only [Act.put, nA, nB, nC])
                          refine dM hS 6 rfl rfl rfl ?_
                          (try simp only [Act.put, nA, nB, nC])
                          refine dP hS 7 rfl rfl ?_
                          (try simp only [Act.put, nA, nB, nC])
                          first | refine dL1 hS 8 rfl rfl rfl rfl ?_ | refine dL2 hS 8 rfl rfl rfl rfl ?_ | refine dL3 hS 8 rfl rfl rfl ?_ | refine dL4 hS 8 rfl rfl rfl ?_ | refine dL5 hS 8 rfl rfl rfl ?_ | refine dL6 hS 8 rfl rfl rfl ?_ | refine dL7 hS 8 rfl rfl rfl ?_
                          (try simp only [Act.put, nA, nB, nC])
                          refine dP hS 9 rfl rfl ?_
                          (try simp only [Act.put, nA, nB, nC])
                          first | refine dL1 hS 10 rfl rfl rfl rfl ?_ | refine dL2 hS 10 rfl rfl rfl rfl ?_ | refine dL3 hS 10 rfl rfl rfl ?_ | refine dL4 hS 10 rfl rfl rfl ?_ | refine dL5 hS 10 rfl rfl rfl ?_ | refine dL6 hS 10 rfl rfl rfl ?_ | refine dL7 hS 10 rfl rfl rfl ?_
                          (try simp only [Act.put, nA, nB, nC])
                          refine dr_one 11 (by kernel_rfl) rfl ?_
                          (refine sN1 hS rfl ?_; clear hS; first | ((fail_if_success guard_hyp g1); intro g1 w hS) | ((fail_if_success guard_hyp g2); intro g2 w hS) | ((fail_if_success guard_hyp g3); intro g3 w hS) | ((fail_if_success guard_hyp g4); intro g4 w hS) | ((fail_if_success guard_hyp g5); intro g5 w hS) | ((fail_if_success guard_hyp g6); intro g6 w hS) | ((fail_if_success guard_hyp g7); intro g7 w hS) | ((fail_if_success guard_hyp g8); intro g8 w hS) | ((fail_if_success guard_hyp g9); intro g9 w hS) | ((fail_if_success guard_hyp g10); intro g10 w hS) | ((fail_if_success guard_hyp g11); intro g11 w hS) | fail)
                          (try simp only [Act.put, nA, nB, nC])
                          refine dr_end hS ?_
                          refine dr_one 12 (by kernel_rfl) rfl ?_
                          ((first | refine sS1 hS rfl rfl rfl ?_ | refine sS2 hS rfl rfl rfl ?_ | refine sS3 hS rfl rfl rfl ?_ | refine sS4 hS rfl rfl rfl ?_ | refine sS5 hS rfl rfl rfl ?_); clear hS; intro w hS)
                          (try simp only [Act.put, nA, nB, nC])
                          refine dr_late (by kernel_rfl) ?_
                          refine dr_done (by kernel_rfl) ?_
                          go_wp2_with fail
                          replace hS := (hS.re (ds := famC (ifam ws) :: row (.slice (some ⟨gw, 0, none⟩) nn nn) 24 1 nn (ivals ws) :: row (.slice (some ⟨gT, 0, none⟩) ln cT) 3 1 ln (ints (nats l)) :: blk g2 [.int .i64 (fr : Int), .int .i64 ix, .int .i64 (tt : Int), .int .i64 at_] 71 :: blk g1 [.slice A1 n c1, .slice A2 n c2, .slice A3 nn c3, .slice A4 n c4, .slice A5 n c5, .slice A6 nn c6, .slice A7 nn c7] 56 :: froz T4 wd :: froz T u :: [])).famCTake (ifam_at HWK.out)
                          simp only at hS
                          refine dr_start2 [31] 0 1 hS (by kernel_rfl) rfl ?_; clear hS; intro w hS
                          refine dM hS 0 rfl rfl rfl ?_
                          (try simp only [Act.put, nA, nB, nC])
                          refine dP hS 1 rfl rfl ?_
                          (try simp only [Act.put, nA, nB, nC])
                          first | refine dL1 hS 2 rfl rfl rfl rfl ?_ | refine dL2 hS 2 rfl rfl rfl rfl ?_ | refine dL3 hS 2 rfl rfl rfl ?_ | refine dL4 hS 2 rfl rfl rfl ?_ | refine dL5 hS 2 rfl rfl rfl ?_ | refine dL6 hS 2 rfl rfl rfl ?_ | refine dL7 hS 2 rfl rfl rfl ?_
                          (try simp only [Act.put, nA, nB, nC])
                          refine dM hS 3 rfl rfl rfl ?_
                          (try simp only [Act.put, nA, nB, nC])
                          refine dP hS 4 rfl rfl ?_
                          (try simp only [Act.put, nA, nB, nC])
                          refine dP hS 5 rfl rfl ?_
                          (try simp only [Act.put, nA, nB, nC])
                          first | refine dL1 hS 6 rfl rfl rfl rfl ?_ | refine dL2 hS 6 rfl rfl rfl rfl ?_ | refine dL3 hS 6 rfl rfl rfl ?_ | refine dL4 hS 6 rfl rfl rfl ?_ | refine dL5 hS 6 rfl rfl rfl ?_ | refine dL6 hS 6 rfl rfl rfl ?_ | refine dL7 hS 6 rfl rfl rfl ?_
                          (try simp only [Act.put, nA, nB, nC])
                          refine dP hS 7 rfl rfl ?_
                          (try simp only [Act.put, nA, nB, nC])
                          refine dM hS 8 rfl rfl rfl ?_
                          (try simp only [Act.put, nA, nB, nC])
                          refine dP hS 9 rfl rfl ?_
                          (try simp only [Act.put, nA, nB, nC])
                          first | refine dL1 hS 10 rfl rfl rfl rfl ?_ | refine dL2 hS 10 rfl rfl rfl rfl ?_ | refine dL3 hS 10 rfl rfl rfl ?_ | refine dL4 hS 10 rfl rfl rfl ?_ | refine dL5 hS 10 rfl rfl rfl ?_ | refine dL6 hS 10 rfl rfl rfl ?_ | refine dL7 hS 10 rfl rfl rfl ?_
                          (try simp only [Act.put, nA, nB, nC])
                          refine dM hS 11 rfl rfl rfl ?_
                          (try simp only [Act.put, nA, nB, nC])
                          refine dP hS 12 rfl rfl ?_
                          (try simp only [Act.put, nA, nB, nC])
                          refine dP hS 13 rfl rfl ?_
                          (try simp only [Act.put, nA, nB, nC])
                          first | refine dL1 hS 14 rfl rfl rfl rfl ?_ | refine dL2 hS 14 rfl rfl rfl rfl ?_ | refine dL3 hS 14 rfl rfl rfl ?_ | refine dL4 hS 14 rfl rfl rfl ?_ | refine dL5 hS 14 rfl rfl rfl ?_ | refine dL6 hS 14 rfl rfl rfl ?_ | refine dL7 hS 14 rfl rfl rfl ?_
                          (try simp only [Act.put, nA, nB, nC])
                          refine dP hS 15 rfl rfl ?_
                          (try simp only [Act.put, nA, nB, nC])
                          refine dP hS 16 rfl rfl ?_
                          (try simp only [Act.put, nA, nB, nC])
                          refine dM hS 18 rfl rfl rfl ?_
                          (try simp only [Act.put, nA, nB, nC])
                          refine dP hS 19 rfl rfl ?_
                          (try simp only [Act.put, nA, nB, nC])
                          refine dP hS 20 rfl rfl ?_
                          (try simp only [Act.put, nA, nB, nC])
                          first | refine dL1 hS 21 rfl rfl rfl rfl ?_ | refine dL2 hS 21 rfl rfl rfl rfl ?_ | refine dL3 hS 21 rfl rfl rfl ?_ | refine dL4 hS 21 rfl rfl rfl ?_ | refine dL5 hS 21 rfl rfl rfl ?_ | refine dL6 hS 21 rfl rfl rfl ?_ | refine dL7 hS 21 rfl rfl rfl ?_
                          (try simp only [Act.put, nA, nB, nC])
                          refine dM hS 22 rfl rfl rfl ?_
                          (try simp only [Act.put, nA, nB, nC])
                          refine dM hS 23 rfl rfl rfl ?_
                          (try simp only [Act.put, nA, nB, nC])
                          refine dP hS 24 rfl rfl ?_
                          (try simp only [Act.put, nA, nB, nC])
                          first | refine dL1 hS 25 rfl rfl rfl rfl ?_ | refine dL2 hS 25 rfl rfl rfl rfl ?_ | refine dL3 hS 25 rfl rfl rfl ?_ | refine dL4 hS 25 rfl rfl rfl ?_ | refine dL5 hS 25 rfl rfl rfl ?_ | refine dL6 hS 25 rfl rfl rfl ?_ | refine dL7 hS 25 rfl rfl rfl ?_
                          (try simp only [Act.put, nA, nB, nC])
                          refine dP hS 26 rfl rfl ?_
                          (try simp only [Act.put, nA, nB, nC])
                          first | refine dL1 hS 27 rfl rfl rfl rfl ?_ | refine dL2 hS 27 rfl rfl rfl rfl ?_ | refine dL3 hS 27 rfl rfl rfl ?_ | refine dL4 hS 27 rfl rfl rfl ?_ | refine dL5 hS 27 rfl rfl rfl ?_ | refine dL6 hS 27 rfl rfl rfl ?_ | refine dL7 hS 27 rfl rfl rfl ?_
                          (try simp only [Act.put, nA, nB, nC])
                          refine dr_two 17 28 (by kernel_rfl) rfl rfl ?_ ?_
                          first | (refine oP ?_; refine st_appO1 (vs := ints Q) hS rfl rfl rfl (by simp [ints]) rfl (by omega) ?_; clear hS; intro A8 k8 w hA8 hK8 hS) | (first | refine sL1 hS rfl rfl rfl ?_ | refine sL2 hS rfl rfl rfl ?_ | refine sL3 hS rfl rfl ?_ | refine sL4 hS rfl rfl ?_ | refine sL5 hS rfl rfl ?_ | refine sL6 hS rfl rfl ?_ | refine sL7 hS rfl rfl ?_) | fail
                          (try simp only [Act.put, nA, nB, nC])
                          refine dr_end hS ?_
                          refine dr_one 28 (by kernel_rfl) rfl ?_
                          first | (refine oP ?_; refine st_appO1 (vs := ints Q) hS rfl rfl rfl (by simp [ints]) rfl (by omega) ?_; clear hS; intro A8 k8 w hA8 hK8 hS) | ((first | refine sC0 hS rfl ?_ | refine sC1 hS rfl rfl ?_ | refine sC2 hS rfl rfl ?_ | refine sC3 hS rfl rfl rfl ?_ | refine sC4 hS rfl rfl rfl ?_); clear hS; first | ((fail_if_success guard_hyp g1); intro g1 w hS) | ((fail_if_success guard_hyp g2); intro g2 w hS) | ((fail_if_success guard_hyp g3); intro g3 w hS) | ((fail_if_success guard_hyp g4); intro g4 w hS) | ((fail_if_success guard_hyp g5); intro g5 w hS) | ((fail_if_success guard_hyp g6); intro g6 w hS) | ((fail_if_success guard_hyp g7); intro g7 w hS) | ((fail_if_success guard_hyp g8); intro g8 w hS) | ((fail_if_success guard_hyp g9); intro g9 w hS) | ((fail_if_success guard_hyp g10); intro g10 w hS) | ((fail_if_success guard_hyp g11); intro g11 w hS) | fail) | fail
                          (try simp only [Act.put, nA, nB, nC])
                          refine dr_end hS ?_
                          refine dr_one 29 (by kernel_rfl) rfl ?_
                          first | (refine oP ?_; refine st_appO1 (vs := ints Q) hS rfl rfl rfl (by simp [ints]) rfl (by omega) ?_; clear hS; intro A8 k8 w hA8 hK8 hS) | ((first | refine sP1 hS rfl rfl rfl ?_ | refine sP2 hS rfl rfl rfl ?_ | refine sP3 hS rfl rfl rfl ?_); clear hS; first | ((fail_if_success guard_hyp L1); intro L1 cl1 w hL1 hM1 hS) | ((fail_if_success guard_hyp L2); intro L2 cl2 w hL2 hM2 hS) | ((fail_if_success guard_hyp L3); intro L3 cl3 w hL3 hM3 hS) | fail) | fail
                          (try simp only [Act.put, nA, nB, nC])
                          refine dr_end hS ?_
                          refine dP hS 30 rfl rfl ?_
                          (try simp only [Act.put, nA, nB, nC])
                          refine dr_one 31 (by kernel_rfl) rfl ?_
                          first | (refine oP ?_; refine st_appO1 (vs := ints Q) hS rfl rfl rfl (by simp [ints]) rfl (by omega) ?_; clear hS; intro A8 k8 w hA8 hK8 hS) | ((first | refine sS1 hS rfl rfl rfl ?_ | refine sS2 hS rfl rfl rfl ?_ | refine sS3 hS rfl rfl rfl ?_ | refine sS4 hS rfl rfl rfl ?_ | refine sS5 hS rfl rfl rfl ?_); clear hS; intro w hS) | fail
                          (try simp only [Act.put, nA, nB, nC])
                          refine dr_late (by kernel_rfl) ?_
                          refine dr_done (by kernel_rfl) ?_
                          rotate_left
                          first | (refine oP ?_; refine st_appO1 (vs := ints Q) hS rfl rfl rfl (by simp [ints]) rfl (by omega) ?_; clear hS; intro A8 k8 w hA8 hK8 hS) | ((first | refine sC0 hS rfl ?_ | refine sC1 hS rfl rfl ?_ | refine sC2 hS rfl rfl ?_ | refine sC3 hS rfl rfl rfl ?_ | refine sC4 hS rfl rfl rfl ?_); clear hS; first | ((fail_if_success guard_hyp g1); intro g1 w hS) | ((fail_if_success guard_hyp g2); intro g2 w hS) | ((fail_if_success guard_hyp g3); intro g3 w hS) | ((fail_if_success guard_hyp g4); intro g4 w hS) | ((fail_if_success guard_hyp g5); intro g5 w hS) | ((fail_if_success guard_hyp g6); intro g6 w hS) | ((fail_if_success guard_hyp g7); intro g7 w hS) | ((fail_if_success guard_hyp g8); intro g8 w hS) | ((fail_if_success guard_hyp g9); intro g9 w hS) | ((fail_if_success guard_hyp g10); intro g10 w hS) | ((fail_if_success guard_hyp g11); intro g11 w hS) | fail) | fail
                          (try simp only [Act.put, nA, nB, nC])
                          refine dr_end hS ?_
                          refine dr_one 17 (by kernel_rfl) rfl ?_
                          first | (refine oP ?_; refine st_appO1 (vs := ints Q) hS rfl rfl rfl (by simp [ints]) rfl (by omega) ?_; clear hS; intro A8 k8 w hA8 hK8 hS) | (first | refine sL1 hS rfl rfl rfl ?_ | refine sL2 hS rfl rfl rfl ?_ | refine sL3 hS rfl rfl ?_ | refine sL4 hS rfl rfl ?_ | refine sL5 hS rfl rfl ?_ | refine sL6 hS rfl rfl ?_ | refine sL7 hS rfl rfl ?_) | fail
                          (try simp only [Act.put, nA, nB, nC])
                          refine dr_end hS ?_
                          refine dr_one 29 (by kernel_rfl) rfl ?_
                          first | (refine oP ?_; refine st_appO1 (vs := ints Q) hS rfl rfl rfl (by simp [ints]) rfl (by omega) ?_; clear hS; intro A8 k8 w hA8 hK8 hS) | ((first | refine sP1 hS rfl rfl rfl ?_ | refine sP2 hS rfl rfl rfl ?_ | refine sP3 hS rfl rfl rfl ?_); clear hS; first | ((fail_if_success guard_hyp L1); intro L1 cl1 w hL1 hM1 hS) | ((fail_if_success guard_hyp L2); intro L2 cl2 w hL2 hM2 hS) | ((fail_if_success guard_hyp L3); intro L3 cl3 w hL3 hM3 hS) | fail) | fail
                          (try simp only [Act.put, nA, nB, nC])
                          refine dr_end hS ?_
                          refine dP hS 30 rfl rfl ?_
                          (try simp only [Act.put, nA, nB, nC])
                          refine dr_one 31 (by kernel_rfl) rfl ?_
                          first | (refine oP ?_; refine st_appO1 (vs := ints Q) hS rfl rfl rfl (by simp [ints]) rfl (by omega) ?_; clear hS; intro A8 k8 w hA8 hK8 hS) | ((first | refine sS1 hS rfl rfl rfl ?_ | refine sS2 hS rfl rfl rfl ?_ | refine sS3 hS rfl rfl rfl ?_ | refine sS4 hS rfl rfl rfl ?_ | refine sS5 hS rfl rfl rfl ?_); clear hS; intro w hS) | fail
                          (try simp only [Act.put, nA, nB, nC])
                          refine dr_late (by kernel_rfl) ?_
                          refine dr_done (by kernel_rfl) ?_
                          rotate_left
                          all_goals
                            go_wp2_with fail
                            rw [show ints Q ++ [Value.int .i64 vk] = ints (Q ++ [vk]) by simp [ints], show Q.length + 1 = (Q ++ [vk]).length by simp] at hS
                            have hqs2 := ivals_set (rs := ws) (k := pn + tt) (A8, k8, Q ++ [vk])
                            simp only at hqs2
                            rw [hqs2] at hS
                            replace hS := hS.famCPut (j := pn + tt)
                            have hqf2 := ifam_set (w0 := w0) (M := NoM) (rs := ws) (k := pn + tt) (A8, k8, Q ++ [vk])
                            simp only at hqf2
                            rw [hqf2] at hS
                            clear hqs2 hqf2
                            go_wp2_with (first | (refine oL ?_; (first | refine sL1 hS rfl rfl rfl ?_ | refine sL2 hS rfl rfl rfl ?_ | refine sL3 hS rfl rfl ?_ | refine sL4 hS rfl rfl ?_ | refine sL5 hS rfl rfl ?_ | refine sL6 hS rfl rfl ?_ | refine sL7 hS rfl rfl ?_)) | (refine oS ?_; ((first | refine sS1 hS rfl rfl rfl ?_ | refine sS2 hS rfl rfl rfl ?_ | refine sS3 hS rfl rfl rfl ?_ | refine sS4 hS rfl rfl rfl ?_ | refine sS5 hS rfl rfl rfl ?_); clear hS; intro w hS)) | (refine oP ?_; ((first | refine sP1 hS rfl rfl rfl ?_ | refine sP2 hS rfl rfl rfl ?_ | refine sP3 hS rfl rfl rfl ?_); clear hS; first | ((fail_if_success guard_hyp L1); intro L1 cl1 w hL1 hM1 hS) | ((fail_if_success guard_hyp L2); intro L2 cl2 w hL2 hM2 hS) | ((fail_if_success guard_hyp L3); intro L3 cl3 w hL3 hM3 hS) | fail)) | ((first | refine sN1 hS rfl ?_ | (refine oC ?_; first | refine sC0 hS rfl ?_ | refine sC1 hS rfl rfl ?_ | refine sC2 hS rfl rfl ?_ | refine sC3 hS rfl rfl rfl ?_ | refine sC4 hS rfl rfl rfl ?_) | refine sM1 hS rfl rfl rfl ?_); clear hS; first | ((fail_if_success guard_hyp g1); intro g1 w hS) | ((fail_if_success guard_hyp g2); intro g2 w hS) | ((fail_if_success guard_hyp g3); intro g3 w hS) | ((fail_if_success guard_hyp g4); intro g4 w hS) | ((fail_if_success guard_hyp g5); intro g5 w hS) | ((fail_if_success guard_hyp g6); intro g6 w hS) | ((fail_if_success guard_hyp g7); intro g7 w hS) | ((fail_if_success guard_hyp g8); intro g8 w hS) | ((fail_if_success guard_hyp g9); intro g9 w hS) | ((fail_if_success guard_hyp g10); intro g10 w hS) | ((fail_if_success guard_hyp g11); intro g11 w hS) | fail) | fail)
                            go_roundw
                            case measure => simp [intOf]; omega
                            exact ⟨j + 1, ws.set (pn + tt) (A8, k8, Q ++ [vk]), by omega, by go_num, Lib.hid (HM2.out A8 k8), Lib.hid (HS1.out A8 k8), hS.re⟩
                        · have hlt4' : ¬ (j : Int) < ln := by omega
                          have e : j = ln := by omega
                          subst e
                          have HWE : ws.map (·.2.2) = s.recs := by
                            rw [HW.out, ← HD.out, HLL.out.1, List.take_of_length_le (by rw [HLL.out.2]; omega)]
                          have HWV := Lib.hid HWE
                          clear HWE
                          go_wp2_with (first | (go_at_call 14; have hrv := hS.rv (A := some ⟨gw, 0, none⟩) (k := nn) (vs := ivals ws); have hrw := fam_rw (hS.re (ds := [famC (ifam ws)])).head hrv; rw [HWV.out] at hrw; refine (sameL_n HLN.out.lr hrw (HSN.out.recs.into (hS.intoK (T := T) (u := u)) (ReV.into (hS.intoK (T := T) (u := u)))) (by omega) HLN.out.rb).mono ?_; rintro e w ⟨rfl, hx1⟩; replace hS := hS.ext hx1) | (refine oL ?_; (first | refine sL1 hS rfl rfl rfl ?_ | refine sL2 hS rfl rfl rfl ?_ | refine sL3 hS rfl rfl ?_ | refine sL4 hS rfl rfl ?_ | refine sL5 hS rfl rfl ?_ | refine sL6 hS rfl rfl ?_ | refine sL7 hS rfl rfl ?_)) | (refine oS ?_; ((first | refine sS1 hS rfl rfl rfl ?_ | refine sS2 hS rfl rfl rfl ?_ | refine sS3 hS rfl rfl rfl ?_ | refine sS4 hS rfl rfl rfl ?_ | refine sS5 hS rfl rfl rfl ?_); clear hS; intro w hS)) | (refine oP ?_; ((first | refine sP1 hS rfl rfl rfl ?_ | refine sP2 hS rfl rfl rfl ?_ | refine sP3 hS rfl rfl rfl ?_); clear hS; first | ((fail_if_success guard_hyp L1); intro L1 cl1 w hL1 hM1 hS) | ((fail_if_success guard_hyp L2); intro L2 cl2 w hL2 hM2 hS) | ((fail_if_success guard_hyp L3); intro L3 cl3 w hL3 hM3 hS) | fail)) | ((first | refine sN1 hS rfl ?_ | (refine oC ?_; first | refine sC0 hS rfl ?_ | refine sC1 hS rfl rfl ?_ | refine sC2 hS rfl rfl ?_ | refine sC3 hS rfl rfl rfl ?_ | refine sC4 hS rfl rfl rfl ?_) | refine sM1 hS rfl rfl rfl ?_); clear hS; first | ((fail_if_success guard_hyp g1); intro g1 w hS) | ((fail_if_success guard_hyp g2); intro g2 w hS) | ((fail_if_success guard_hyp g3); intro g3 w hS) | ((fail_if_success guard_hyp g4); intro g4 w hS) | ((fail_if_success guard_hyp g5); intro g5 w hS) | ((fail_if_success guard_hyp g6); intro g6 w hS) | ((fail_if_success guard_hyp g7); intro g7 w hS) | ((fail_if_success guard_hyp g8); intro g8 w hS) | ((fail_if_success guard_hyp g9); intro g9 w hS) | ((fail_if_success guard_hyp g10); intro g10 w hS) | ((fail_if_success guard_hyp g11); intro g11 w hS) | fail) | fail)
                          go_ret
                          exact ⟨rfl, hS.toExt⟩
                  · have HCS := Lib.hid (show compS s = false by simpa using hcs)
                    clear hcs
                    go_wp2_with (first | (go_at_call 35; refine (complete_n (HSN.out.into (hS.intoK (T := T) (u := u))) HLN.out (by omega) (by omega)).mono ?_; rw [HCS.out]; rintro e w ⟨rfl, hx1⟩; replace hS := hS.ext hx1) | (refine oL ?_; (first | refine sL1 hS rfl rfl rfl ?_ | refine sL2 hS rfl rfl rfl ?_ | refine sL3 hS rfl rfl ?_ | refine sL4 hS rfl rfl ?_ | refine sL5 hS rfl rfl ?_ | refine sL6 hS rfl rfl ?_ | refine sL7 hS rfl rfl ?_)) | (refine oS ?_; ((first | refine sS1 hS rfl rfl rfl ?_ | refine sS2 hS rfl rfl rfl ?_ | refine sS3 hS rfl rfl rfl ?_ | refine sS4 hS rfl rfl rfl ?_ | refine sS5 hS rfl rfl rfl ?_); clear hS; intro w hS)) | (refine oP ?_; ((first | refine sP1 hS rfl rfl rfl ?_ | refine sP2 hS rfl rfl rfl ?_ | refine sP3 hS rfl rfl rfl ?_); clear hS; first | ((fail_if_success guard_hyp L1); intro L1 cl1 w hL1 hM1 hS) | ((fail_if_success guard_hyp L2); intro L2 cl2 w hL2 hM2 hS) | ((fail_if_success guard_hyp L3); intro L3 cl3 w hL3 hM3 hS) | fail)) | ((first | refine sN1 hS rfl ?_ | (refine oC ?_; first | refine sC0 hS rfl ?_ | refine sC1 hS rfl rfl ?_ | refine sC2 hS rfl rfl ?_ | refine sC3 hS rfl rfl rfl ?_ | refine sC4 hS rfl rfl rfl ?_) | refine sM1 hS rfl rfl rfl ?_); clear hS; first | ((fail_if_success guard_hyp g1); intro g1 w hS) | ((fail_if_success guard_hyp g2); intro g2 w hS) | ((fail_if_success guard_hyp g3); intro g3 w hS) | ((fail_if_success guard_hyp g4); intro g4 w hS) | ((fail_if_success guard_hyp g5); intro g5 w hS) | ((fail_if_success guard_hyp g6); intro g6 w hS) | ((fail_if_success guard_hyp g7); intro g7 w hS) | ((fail_if_success guard_hyp g8); intro g8 w hS) | ((fail_if_success guard_hyp g9); intro g9 w hS) | ((fail_if_success guard_hyp g10); intro g10 w hS) | ((fail_if_success guard_hyp g11); intro g11 w hS) | fail) | fail)
                    go_ret
                    exact ⟨rfl, hS.toExt⟩
open Go.ChangeShapes Go.WideShapes Go.ChangeAt
set_option maxRecDepth 100000 in
theorem lifted_MarkerCuts (os : Os) (started : os.Started) (H : Type) (enc : TypeId × Value → H) :
    ReturnsInHanded {} Try.checked os 8 .any (Rows.markerCutsSpec.pre6 enc Try.prog Try.f8 Rows.markerCutsRow.domain false) (Rows.markerCutsSpec.post enc Try.prog Try.f8 false true false false) := by
  refine law_lifted (C := Try.checked) (s := Rows.markerCutsSpec) (tb := 4) (by kernel_rfl) started (by kernel_rfl) Try.func8
      (ChangeSpec.witness6 (enc := enc) (C := Try.checked) false ⟨#[], #[.slice none 0 0, .slice none 0 0], []⟩ 8 (by kernel_rfl) (by kernel_rfl) (by kernel_rfl) (by kernel_rfl))
      (by kernel_rfl) rfl rfl Try.underlying4 (read_of (by kernel_rfl)) ?_ ?_
  · intro ds hl
    match ds, hl with
    | [d0, d1], _ => exact ⟨rfl, rfl, rfl⟩
  · intro W base args ds p hval0 hA0
    have hval : ∀ (j : Nat) t v, Try.f8.params[j]? = some t → args[j]? = some v → Value.okWide Try.prog W .any base t v := hval0
    have hA : DataW.TrodAll enc Try.prog W 0 (fun _ => true) true Try.f8.params.toList args.toList ds p := hA0
    clear hA0 hval0
    rw [Try.params8] at hA hval
    obtain ⟨v0, v1, d0, d1, p0, p1, rfl, rfl, rfl, h0, h1⟩ := trodAll_two hA
    obtain ⟨A0, c0, xs0, rfl, hri0, hc0, hd0, hwf0⟩ := open_nums Try.underlying24 Try.underlying3 (by kernel_rfl) (hval 0 _ v0 rfl rfl) h0
    obtain ⟨A1, c1, xs1, rfl, hri1, hc1, hd1, hwf1⟩ := open_nums Try.underlying22 Try.underlying5 (by kernel_rfl) (hval 1 _ v1 rfl rfl) h1
    exact markerCuts_any A0 c0 xs0 A1 c1 xs1 W hri0 hc0 hd0 (fun b hb => i64_bd (hwf0 b hb)) hri1 hc1 hd1 (fun b hb => u8_bd (hwf1 b hb))
/-- MarkerCuts returns true for every input, and leaves its arguments as they were. -/
theorem proved_MarkerCuts : Rows.MarkerCutsSaid :=
  OpenClaim.holds_of_wide 8 Try.f8 rfl rfl rfl rfl rfl rfl rfl ⟨rfl, rfl, rfl, rfl, rfl⟩ rfl rfl rfl rfl rfl (by kernel_rfl) Try.func8 (by kernel_rfl)
    (of_decide_eq_true (by kernel_rfl)) (by unfold Func.isWrapper; rw [if_neg (by decide +kernel)]; exact ⟨rfl, rfl⟩)
    (fun os started H enc _ => lifted_MarkerCuts os started H enc)
end Go.Proofs.Ytombhhhaidmpeaa
