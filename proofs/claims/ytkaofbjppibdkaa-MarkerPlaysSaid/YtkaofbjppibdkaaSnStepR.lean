/- rollbacknetref23.Step. Conditions: the machine lies in memory, its lists are short. -/
import Derived.Test.YtkaofbjppibdkaaSnCopy
import Derived.Test.YtkaofbjppibdkaaSnRecR
namespace Go.Proofs.Ytkaofbjppibdkaa
open Go.RowKit
set_option linter.unusedVariables false
set_option linter.unusedSimpArgs false
set_option linter.unusedSectionVars false

/-- what the reference's Step returns -/
theorem fin_sn {S : Nat → Prop} {w0 w : World} (gv gc gh gk gd go gr kv kc kh kk kd' ko kr n nn b : Nat) (s2 : Snp) (rs rs2 : List RwD) (hv rv : List Value) (k0 : Nat) (hS : St w0 (fun k => S k ∧ k < w0.heap.size) (row (.slice (some ⟨gh, 0, none⟩) nn kh) 46 1 nn hv :: fam2 48 2 rs :: row (.slice (some ⟨gv, 0, none⟩) n kv) 3 1 n (ints s2.vals) :: row (.slice (some ⟨gc, 0, none⟩) n kc) 3 1 n (ints s2.cnts) :: row (.slice (some ⟨gk, 0, none⟩) n kk) 3 1 n (ints s2.cut) :: row (.slice (some ⟨gd, 0, none⟩) n kd') 3 1 n (ints s2.saved) :: row (.slice (some ⟨go, 0, none⟩) nn ko) 4 1 nn (bools s2.opn) :: row (.slice (some ⟨gr, 0, none⟩) nn kr) 22 1 nn rv :: fam2 3 1 rs2 :: []) w) (hx : FamX k0 rs hv s2.chs) (hk : ∀ h : k0 < s2.chs.length, ∃ v, hv[k0]? = some v ∧ ChV (Orn S w0) w v (chOf s2.chs k0)) (hf2 : FamOf ints rs2 s2.recs) (hrv : rs2.map (·.1) = rv) (hE : Ext w0 w) (hok : SnOk n b s2) (hnn : n * n = nn) :
    RetS S w0 s2 0 (.returned (.tuple #[.agg #[.slice (some ⟨gv, 0, none⟩) n kv, .slice (some ⟨gc, 0, none⟩) n kc, .slice (some ⟨gh, 0, none⟩) nn kh, .slice (some ⟨gk, 0, none⟩) n kk, .slice (some ⟨gd, 0, none⟩) n kd', .slice (some ⟨go, 0, none⟩) nn ko, .slice (some ⟨gr, 0, none⟩) nn kr], .int .i64 0])) w := by
  have h1 := hS.famF (e := 48) (sz := 2) (rs := rs) (by simp)
  have h2 := hS.famF (e := 3) (sz := 1) (rs := rs2) (by simp)
  refine RetS.mk hok.lv (show s2.chs.length = nn by rw [hok.lh]; exact hnn) ⟨some ⟨gv, 0, none⟩, kv, some ⟨gc, 0, none⟩, kc, some ⟨gh, 0, none⟩, kh, some ⟨gk, 0, none⟩, kk, some ⟨gd, 0, none⟩, kd', some ⟨go, 0, none⟩, ko, some ⟨gr, 0, none⟩, kr⟩ ⟨hS.rvF, hS.rvF, ⟨_, hS.rvF, hx.chs h1 hk⟩, hS.rvF, hS.rvF, hS.rvF, ⟨_, hS.rvF, ?_⟩⟩ hE
  rw [← hrv]
  exact hf2.res (fun r hr A k c e => (h2 r hr A k c e).2) (fun r hr A k c e => (h2 r hr A k c e).1)
set_option maxRecDepth 100000 in
set_option maxHeartbeats 12800000 in
theorem rstep_any {S : Nat → Prop} (v : SV) (s : Snp) (n nn b : Nat) (m : Mv) (w0 : World) (hs : SnAt S w0 v s) (hok : SnOk n b s) (hnn : n * n = nn) (hb : b ≤ 10000) :
    Calls Try.prog 16 #[v.val n nn, .agg #[.int .i64 m.kind, .int .i64 m.fr, .int .i64 m.to, .int .i64 m.val]] w0 (RetS S w0 (stepS s m).1 (stepS s m).2) := by
  have hS := St.startF w0 S
  have HP := Lib.hid (And.intro hs.here (And.intro hok hnn))
  have hn5 := hok.n5
  have hn1 := hok.n1
  have hnn25 : nn ≤ 25 := by rw [← hnn]; exact Nat.mul_le_mul hn5 hn5
  have hnn1 : 0 < nn := by rw [← hnn]; exact Nat.mul_pos hn1 hn1
  clear hs hok hnn
  obtain ⟨A1, c1, A2, c2, A3, c3, A4, c4, A5, c5, A6, c6, A7, c7⟩ := v
  obtain ⟨kd, fr, tt, val⟩ := m
  simp only [SV.val, SV.cells] at *
  have HREF := Lib.hid (fun (w : World) (hx : Into (fun k => S k ∧ k < w0.heap.size) (fun k => S k ∧ k < w0.heap.size) w0 w) => refuse_any ⟨A1, c1, A2, c2, A3, c3, A4, c4, A5, c5, A6, c6, A7, c7⟩ s n nn b ⟨kd, fr, tt, val⟩ w (HP.out.1.into hx) HP.out.2.1 HP.out.2.2 (by omega))
  simp only [SV.val, SV.cells] at HREF
  by_cases h0 : refS s ⟨kd, fr, tt, val⟩ = 0
  rotate_left
  · rw [stepS, if_neg h0]
    have HR0 := Lib.hid h0
    generalize refS s ⟨kd, fr, tt, val⟩ = er at *
    have e0 : (er != 0) = true := by simp [h0]
    clear h0
    go_enter Try.func16, Try.ntmps16
    go_wp2_with (first | (go_at_call 41; refine (HREF.out _ hS.frozInto).mono ?_; rintro e w ⟨rfl, hx1⟩; replace hS := hS.ext hx1) | (refine oL ?_; (first | refine sL1 hS rfl rfl rfl ?_ | refine sL2 hS rfl rfl rfl ?_ | refine sL3 hS rfl rfl ?_ | refine sL4 hS rfl rfl ?_ | refine sL5 hS rfl rfl ?_ | refine sL6 hS rfl rfl ?_ | refine sL7 hS rfl rfl ?_)) | (refine oS ?_; ((first | refine sS1 hS rfl rfl rfl ?_ | refine sS2 hS rfl rfl rfl ?_ | refine sS3 hS rfl rfl rfl ?_ | refine sS4 hS rfl rfl rfl ?_ | refine sS5 hS rfl rfl rfl ?_); clear hS; intro w hS)) | ((first | (refine oB ?_; first | refine sB1 hS rfl rfl ?_ | refine sB2 hS rfl rfl ?_) | refine sN1 hS rfl ?_); clear hS; first | ((fail_if_success guard_hyp g1); intro g1 w hS) | ((fail_if_success guard_hyp g2); intro g2 w hS) | ((fail_if_success guard_hyp g3); intro g3 w hS) | ((fail_if_success guard_hyp g4); intro g4 w hS) | ((fail_if_success guard_hyp g5); intro g5 w hS) | ((fail_if_success guard_hyp g6); intro g6 w hS) | ((fail_if_success guard_hyp g7); intro g7 w hS) | ((fail_if_success guard_hyp g8); intro g8 w hS) | fail) | fail)
    refine st_retCT hS rfl rfl rfl rfl rfl ?_
    exact RetS.none _ (hS.extF hS.frozInto)
  · rw [stepS, if_pos h0]
    obtain ⟨r1, r2, r3, r4, r5, r6, r7⟩ := refS_zero h0
    simp only [HP.out.2.1.lv] at r1 r2 r3 r4 r5 r6 r7
    obtain ⟨p, rfl⟩ : ∃ p : Nat, fr = p := ⟨fr.toNat, by omega⟩
    have hp : p < n := by omega
    have HGO := Lib.hid (goS_ok HP.out.2.1 h0)
    rw [h0] at HREF
    have HKD := Lib.hid (And.intro h0 (And.intro r5 (And.intro r6 r7)))
    clear h0 r5 r6 r7
    go_enter Try.func16, Try.ntmps16
    go_wp2_with (first | (go_at_call 41; refine (HREF.out _ hS.frozInto).mono ?_; rintro e w ⟨rfl, hx1⟩; replace hS := hS.ext hx1) | (refine oL ?_; (first | refine sL1 hS rfl rfl rfl ?_ | refine sL2 hS rfl rfl rfl ?_ | refine sL3 hS rfl rfl ?_ | refine sL4 hS rfl rfl ?_ | refine sL5 hS rfl rfl ?_ | refine sL6 hS rfl rfl ?_ | refine sL7 hS rfl rfl ?_)) | (refine oS ?_; ((first | refine sS1 hS rfl rfl rfl ?_ | refine sS2 hS rfl rfl rfl ?_ | refine sS3 hS rfl rfl rfl ?_ | refine sS4 hS rfl rfl rfl ?_ | refine sS5 hS rfl rfl rfl ?_); clear hS; intro w hS)) | ((first | (refine oB ?_; first | refine sB1 hS rfl rfl ?_ | refine sB2 hS rfl rfl ?_) | refine sN1 hS rfl ?_); clear hS; first | ((fail_if_success guard_hyp g1); intro g1 w hS) | ((fail_if_success guard_hyp g2); intro g2 w hS) | ((fail_if_success guard_hyp g3); intro g3 w hS) | ((fail_if_success guard_hyp g4); intro g4 w hS) | ((fail_if_success guard_hyp g5); intro g5 w hS) | ((fail_if_success guard_hyp g6); intro g6 w hS) | ((fail_if_success guard_hyp g7); intro g7 w hS) | ((fail_if_success guard_hyp g8); intro g8 w hS) | fail) | fail)
    replace hS : St w0 (fun k => S k ∧ k < w0.heap.size) (froz (fun k => S k ∧ k < w0.heap.size) w0 :: [blk g3 sn0 28, blk g2 [.int .i64 kd, .int .i64 (p : Int), .int .i64 tt, .int .i64 val] 40, blk g1 [.slice A1 n c1, .slice A2 n c2, .slice A3 nn c3, .slice A4 n c4, .slice A5 n c5, .slice A6 nn c6, .slice A7 nn c7] 28]) _ := hS.re
    refine (copy_st A1 c1 A2 c2 A3 c3 A4 c4 A5 c5 A6 c6 A7 c7 s n nn b hS HP.out.1 HP.out.2.1 HP.out.2.2 hb).mono ?_
    rintro e w2 ⟨Lv, kv, Lc, kc, Lh, kh, Lk, kk, Ld, kd', Lo, ko, Lr, kr, rs, rs2, rfl, HF1, HF2, hS2⟩
    replace hS := hS2
    clear hS2
    obtain ⟨gv, rfl⟩ := hS.rowSome Lv hn1
    obtain ⟨gc, rfl⟩ := hS.rowSome Lc hn1
    obtain ⟨gh, rfl⟩ := hS.rowSome Lh hnn1
    obtain ⟨gk, rfl⟩ := hS.rowSome Lk hn1
    obtain ⟨gd, rfl⟩ := hS.rowSome Ld hn1
    obtain ⟨go, rfl⟩ := hS.rowSome Lo hnn1
    obtain ⟨gr, rfl⟩ := hS.rowSome Lr hnn1
    have HX := Lib.hid (HF1.out.x nn)
    generalize hhv : rs.map (·.1) = hv at *
    generalize hrv : rs2.map (·.1) = rv at *
    have HRV := Lib.hid hrv
    clear hhv hrv HF1
    have hlh : s.chs.length = nn := by rw [HP.out.2.1.lh]; exact HP.out.2.2
    have HLH := Lib.hid hlh
    clear hlh
    go_upto_region 5 with (first | (refine oL ?_; (first | refine sL1 hS rfl rfl rfl ?_ | refine sL2 hS rfl rfl rfl ?_ | refine sL3 hS rfl rfl ?_ | refine sL4 hS rfl rfl ?_ | refine sL5 hS rfl rfl ?_ | refine sL6 hS rfl rfl ?_ | refine sL7 hS rfl rfl ?_)) | (refine oS ?_; ((first | refine sS1 hS rfl rfl rfl ?_ | refine sS2 hS rfl rfl rfl ?_ | refine sS3 hS rfl rfl rfl ?_ | refine sS4 hS rfl rfl rfl ?_ | refine sS5 hS rfl rfl rfl ?_); clear hS; intro w hS)) | ((first | (refine oB ?_; first | refine sB1 hS rfl rfl ?_ | refine sB2 hS rfl rfl ?_) | refine sN1 hS rfl ?_); clear hS; first | ((fail_if_success guard_hyp g1); intro g1 w hS) | ((fail_if_success guard_hyp g2); intro g2 w hS) | ((fail_if_success guard_hyp g3); intro g3 w hS) | ((fail_if_success guard_hyp g4); intro g4 w hS) | ((fail_if_success guard_hyp g5); intro g5 w hS) | ((fail_if_success guard_hyp g6); intro g6 w hS) | ((fail_if_success guard_hyp g7); intro g7 w hS) | ((fail_if_success guard_hyp g8); intro g8 w hS) | fail) | fail)
    replace hS : St w0 (fun k => S k ∧ k < w0.heap.size) (blk g4 [.slice (some ⟨gv, 0, none⟩) n kv, .slice (some ⟨gc, 0, none⟩) n kc, .slice (some ⟨gh, 0, none⟩) nn kh, .slice (some ⟨gk, 0, none⟩) n kk, .slice (some ⟨gd, 0, none⟩) n kd', .slice (some ⟨go, 0, none⟩) nn ko, .slice (some ⟨gr, 0, none⟩) nn kr] 28 :: row (.slice (some ⟨gh, 0, none⟩) nn kh) 46 1 nn hv :: fam2 48 2 rs :: row (.slice (some ⟨gv, 0, none⟩) n kv) 3 1 n (ints s.vals) :: row (.slice (some ⟨gc, 0, none⟩) n kc) 3 1 n (ints s.cnts) :: row (.slice (some ⟨gk, 0, none⟩) n kk) 3 1 n (ints s.cut) :: row (.slice (some ⟨gd, 0, none⟩) n kd') 3 1 n (ints s.saved) :: row (.slice (some ⟨go, 0, none⟩) nn ko) 4 1 nn (bools s.opn) :: row (.slice (some ⟨gr, 0, none⟩) nn kr) 22 1 nn rv :: fam2 3 1 rs2 :: froz (fun k => S k ∧ k < w0.heap.size) w0 :: blk g3 sn0 28 :: blk g2 [.int .i64 kd, .int .i64 (p : Int), .int .i64 tt, .int .i64 val] 40 :: blk g1 [.slice A1 n c1, .slice A2 n c2, .slice A3 nn c3, .slice A4 n c4, .slice A5 n c5, .slice A6 nn c6, .slice A7 nn c7] 28 :: []) w := hS.re
    by_cases k3 : kd = 3
    · subst k3
      have hck := ints_at (l := s.cut) (q := p) (by rw [HP.out.2.1.lk]; exact hp)
      by_cases hu : nth s.cut p < 0
      · have du : decide (nth s.cut p < 0) = true := decide_eq_true hu
        have HE := Lib.hid (show goS s ⟨3, (p : Int), tt, val⟩ = recR s p n by unfold goS; rw [if_pos rfl]; simp only [Int.toNat_natCast]; rw [recS_eq HP.out.2.1 hu])
        rw [HE.out] at HGO
        obtain ⟨s2, hs2⟩ : ∃ x, recR s p n = x := ⟨_, rfl⟩
        rw [hs2] at HGO HE
        have HRS := Lib.hid (show s2.recs = s.recs by rw [← hs2]; rfl)
        clear hu
        generalize nth s.cut p = cp at *
        go_wp2_with (first | (refine oL ?_; (first | refine sL1 hS rfl rfl rfl ?_ | refine sL2 hS rfl rfl rfl ?_ | refine sL3 hS rfl rfl ?_ | refine sL4 hS rfl rfl ?_ | refine sL5 hS rfl rfl ?_ | refine sL6 hS rfl rfl ?_ | refine sL7 hS rfl rfl ?_)) | (refine oS ?_; ((first | refine sS1 hS rfl rfl rfl ?_ | refine sS2 hS rfl rfl rfl ?_ | refine sS3 hS rfl rfl rfl ?_ | refine sS4 hS rfl rfl rfl ?_ | refine sS5 hS rfl rfl rfl ?_); clear hS; intro w hS)) | ((first | (refine oB ?_; first | refine sB1 hS rfl rfl ?_ | refine sB2 hS rfl rfl ?_) | refine sN1 hS rfl ?_); clear hS; first | ((fail_if_success guard_hyp g1); intro g1 w hS) | ((fail_if_success guard_hyp g2); intro g2 w hS) | ((fail_if_success guard_hyp g3); intro g3 w hS) | ((fail_if_success guard_hyp g4); intro g4 w hS) | ((fail_if_success guard_hyp g5); intro g5 w hS) | ((fail_if_success guard_hyp g6); intro g6 w hS) | ((fail_if_success guard_hyp g7); intro g7 w hS) | ((fail_if_success guard_hyp g8); intro g8 w hS) | fail) | fail)
        replace hS : St w0 (fun k => S k ∧ k < w0.heap.size) (blk g4 [.slice (some ⟨gv, 0, none⟩) n kv, .slice (some ⟨gc, 0, none⟩) n kc, .slice (some ⟨gh, 0, none⟩) nn kh, .slice (some ⟨gk, 0, none⟩) n kk, .slice (some ⟨gd, 0, none⟩) n kd', .slice (some ⟨go, 0, none⟩) nn ko, .slice (some ⟨gr, 0, none⟩) nn kr] 28 :: row (.slice (some ⟨gh, 0, none⟩) nn kh) 46 1 nn hv :: fam2 48 2 rs :: row (.slice (some ⟨gv, 0, none⟩) n kv) 3 1 n (ints s.vals) :: row (.slice (some ⟨gc, 0, none⟩) n kc) 3 1 n (ints s.cnts) :: row (.slice (some ⟨gk, 0, none⟩) n kk) 3 1 n (ints s.cut) :: row (.slice (some ⟨gd, 0, none⟩) n kd') 3 1 n (ints s.saved) :: row (.slice (some ⟨go, 0, none⟩) nn ko) 4 1 nn (bools s.opn) :: row (.slice (some ⟨gr, 0, none⟩) nn kr) 22 1 nn rv :: fam2 3 1 rs2 :: froz (fun k => S k ∧ k < w0.heap.size) w0 :: blk g3 sn0 28 :: blk g2 [.int .i64 3, .int .i64 (p : Int), .int .i64 tt, .int .i64 val] 40 :: blk g1 [.slice A1 n c1, .slice A2 n c2, .slice A3 nn c3, .slice A4 n c4, .slice A5 n c5, .slice A6 nn c6, .slice A7 nn c7] 28 :: []) _ := hS.re
        refine (rrecord_st g4 gv gc gh gk gd go gr kv kc kh kk kd' ko kr n nn b s rs hv p nn hS HP.out.2.1 HP.out.2.2 (by omega) HX.out (fun r hr _ => by have := ch_lt hp hr; have := HP.out.2.2; omega) hp s2 hs2).mono ?_
        rintro e w3 ⟨rfl, rs', hv', HX2, hS2⟩
        replace hS := hS2
        clear hS2 HX hs2
        go_wp2_with (first | (refine oL ?_; (first | refine sL1 hS rfl rfl rfl ?_ | refine sL2 hS rfl rfl rfl ?_ | refine sL3 hS rfl rfl ?_ | refine sL4 hS rfl rfl ?_ | refine sL5 hS rfl rfl ?_ | refine sL6 hS rfl rfl ?_ | refine sL7 hS rfl rfl ?_)) | (refine oS ?_; ((first | refine sS1 hS rfl rfl rfl ?_ | refine sS2 hS rfl rfl rfl ?_ | refine sS3 hS rfl rfl rfl ?_ | refine sS4 hS rfl rfl rfl ?_ | refine sS5 hS rfl rfl rfl ?_); clear hS; intro w hS)) | ((first | (refine oB ?_; first | refine sB1 hS rfl rfl ?_ | refine sB2 hS rfl rfl ?_) | refine sN1 hS rfl ?_); clear hS; first | ((fail_if_success guard_hyp g1); intro g1 w hS) | ((fail_if_success guard_hyp g2); intro g2 w hS) | ((fail_if_success guard_hyp g3); intro g3 w hS) | ((fail_if_success guard_hyp g4); intro g4 w hS) | ((fail_if_success guard_hyp g5); intro g5 w hS) | ((fail_if_success guard_hyp g6); intro g6 w hS) | ((fail_if_success guard_hyp g7); intro g7 w hS) | ((fail_if_success guard_hyp g8); intro g8 w hS) | fail) | fail)
        refine st_retCT hS rfl rfl rfl rfl rfl ?_
        rw [HE.out]
        exact fin_sn gv gc gh gk gd go gr kv kc kh kk kd' ko kr n nn _ _ rs' rs2 hv' rv _ hS.re HX2.out.1 (fun h => absurd h (by rw [HGO.out.lh, HP.out.2.2]; exact Nat.lt_irrefl _)) (by rw [HRS.out]; exact HF2.out) HRV.out (hS.extF hS.frozInto) HGO.out HP.out.2.2
      · have du : decide (nth s.cut p < 0) = false := decide_eq_false hu
        have HE := Lib.hid (show goS s ⟨3, (p : Int), tt, val⟩ = s by unfold goS; rw [if_pos rfl]; simp only [Int.toNat_natCast]; rw [recS_same hu])
        rw [HE.out] at HGO
        clear hu
        generalize nth s.cut p = cp at *
        go_wp2_with (first | (refine oL ?_; (first | refine sL1 hS rfl rfl rfl ?_ | refine sL2 hS rfl rfl rfl ?_ | refine sL3 hS rfl rfl ?_ | refine sL4 hS rfl rfl ?_ | refine sL5 hS rfl rfl ?_ | refine sL6 hS rfl rfl ?_ | refine sL7 hS rfl rfl ?_)) | (refine oS ?_; ((first | refine sS1 hS rfl rfl rfl ?_ | refine sS2 hS rfl rfl rfl ?_ | refine sS3 hS rfl rfl rfl ?_ | refine sS4 hS rfl rfl rfl ?_ | refine sS5 hS rfl rfl rfl ?_); clear hS; intro w hS)) | ((first | (refine oB ?_; first | refine sB1 hS rfl rfl ?_ | refine sB2 hS rfl rfl ?_) | refine sN1 hS rfl ?_); clear hS; first | ((fail_if_success guard_hyp g1); intro g1 w hS) | ((fail_if_success guard_hyp g2); intro g2 w hS) | ((fail_if_success guard_hyp g3); intro g3 w hS) | ((fail_if_success guard_hyp g4); intro g4 w hS) | ((fail_if_success guard_hyp g5); intro g5 w hS) | ((fail_if_success guard_hyp g6); intro g6 w hS) | ((fail_if_success guard_hyp g7); intro g7 w hS) | ((fail_if_success guard_hyp g8); intro g8 w hS) | fail) | fail)
        refine st_retCT hS rfl rfl rfl rfl rfl ?_
        rw [HE.out]
        exact fin_sn gv gc gh gk gd go gr kv kc kh kk kd' ko kr n nn _ _ rs rs2 hv rv _ hS.re HX.out (fun h => absurd h (by rw [HLH.out]; exact Nat.lt_irrefl _)) HF2.out HRV.out (hS.extF hS.frozInto) HGO.out HP.out.2.2
    · have HQ := Lib.hid (HKD.out.2.1 k3)
      obtain ⟨q, rfl⟩ : ∃ q : Nat, tt = q := ⟨tt.toNat, by have := HQ.out; omega⟩
      have hq : q < n := by have := HQ.out; omega
      have hpq : p ≠ q := by have := HQ.out; omega
      obtain ⟨pn, hpn⟩ : ∃ pn : Nat, p * n = pn := ⟨_, rfl⟩
      obtain ⟨kx, hkx⟩ : ∃ kx : Nat, pn + q = kx := ⟨_, rfl⟩
      have hm1 : (p : Int) * (n : Int) = (pn : Int) := by rw [← hpn]; simp
      have hpn25 : pn ≤ 25 := by rw [← hpn]; exact Nat.mul_le_mul (show p ≤ 5 by omega) hn5
      have hm2 : (pn : Int) + (q : Int) = (kx : Int) := by omega
      have hkn : kx < nn := by rw [← hkx, ← hpn, ← HP.out.2.2]; exact ch_lt hp hq
      have HKX := Lib.hid (show p * n + q = kx by rw [hpn, hkx])
      have hvl : kx < hv.length := by rw [HX.out.m, HLH.out]; exact hkn
      have hkn' : (kx : Int) < (nn : Int) := by omega
      have HNE := Lib.hid hpq
      clear hpn hkx
      obtain ⟨B, cb, hrk, hvk⟩ := HX.out.k kx (by rw [HLH.out]; exact hkn) (by omega)
      have hlb := HP.out.2.1.hbk (k := kx) (by rw [HP.out.2.2]; exact hkn)
      have hqv := ints_at (l := s.vals) (q := q) (by rw [HP.out.2.1.lv]; exact hq)
      have hpv := ints_at (l := s.vals) (q := p) (by rw [HP.out.2.1.lv]; exact hp)
      have hqc := ints_at (l := s.cnts) (q := q) (by rw [HP.out.2.1.lc]; exact hq)
      have hpc := ints_at (l := s.cnts) (q := p) (by rw [HP.out.2.1.lc]; exact hp)
      have hqvl : q < s.vals.length := by rw [HP.out.2.1.lv]; exact hq
      have hpvl : p < s.vals.length := by rw [HP.out.2.1.lv]; exact hp
      have hqcl : q < s.cnts.length := by rw [HP.out.2.1.lc]; exact hq
      have hpcl : p < s.cnts.length := by rw [HP.out.2.1.lc]; exact hp
      have hcq := HP.out.2.1.cb q hq
      have hcp := HP.out.2.1.cb p hp
      by_cases k1 : kd = 1
      · subst k1
        have HE := Lib.hid (show goS s ⟨1, (p : Int), (q : Int), val⟩ = sendS s p q val by unfold goS; rw [if_neg (show ¬ (1 : Int) = 3 by decide), if_pos rfl]; simp only [Int.toNat_natCast])
        rw [HE.out] at HGO
        clear k3 hqv hqc hqvl hqcl hcq
        have HRK := Lib.hid hrk
        have hS2 := (St.re (ds := fam2 48 2 rs :: blk g4 [.slice (some ⟨gv, 0, none⟩) n kv, .slice (some ⟨gc, 0, none⟩) n kc, .slice (some ⟨gh, 0, none⟩) nn kh, .slice (some ⟨gk, 0, none⟩) n kk, .slice (some ⟨gd, 0, none⟩) n kd', .slice (some ⟨go, 0, none⟩) nn ko, .slice (some ⟨gr, 0, none⟩) nn kr] 28 :: row (.slice (some ⟨gh, 0, none⟩) nn kh) 46 1 nn hv :: row (.slice (some ⟨gv, 0, none⟩) n kv) 3 1 n (ints s.vals) :: row (.slice (some ⟨gc, 0, none⟩) n kc) 3 1 n (ints s.cnts) :: row (.slice (some ⟨gk, 0, none⟩) n kk) 3 1 n (ints s.cut) :: row (.slice (some ⟨gd, 0, none⟩) n kd') 3 1 n (ints s.saved) :: row (.slice (some ⟨go, 0, none⟩) nn ko) 4 1 nn (bools s.opn) :: row (.slice (some ⟨gr, 0, none⟩) nn kr) 22 1 nn rv :: fam2 3 1 rs2 :: froz (fun k => S k ∧ k < w0.heap.size) w0 :: blk g3 sn0 28 :: blk g2 [.int .i64 1, .int .i64 (p : Int), .int .i64 (q : Int), .int .i64 val] 40 :: blk g1 [.slice A1 n c1, .slice A2 n c2, .slice A3 nn c3, .slice A4 n c4, .slice A5 n c5, .slice A6 nn c6, .slice A7 nn c7] 28 :: []) hS).fam2Take HRK.out
        replace hS := hS2
        clear hS2 hrk
        generalize hl : chOf s.chs kx = l at *
        have HL := Lib.hid hl
        generalize hvq : nth s.vals p = vq at *
        generalize hcn : nth s.cnts p = cn at *
        have HVQ := Lib.hid (And.intro hvq hcn)
        clear hl hvq hcn
        go_wp2_with (first | (refine oL ?_; (first | refine sL1 hS rfl rfl rfl ?_ | refine sL2 hS rfl rfl rfl ?_ | refine sL3 hS rfl rfl ?_ | refine sL4 hS rfl rfl ?_ | refine sL5 hS rfl rfl ?_ | refine sL6 hS rfl rfl ?_ | refine sL7 hS rfl rfl ?_)) | (refine oS ?_; ((first | refine sS1 hS rfl rfl rfl ?_ | refine sS2 hS rfl rfl rfl ?_ | refine sS3 hS rfl rfl rfl ?_ | refine sS4 hS rfl rfl rfl ?_ | refine sS5 hS rfl rfl rfl ?_); clear hS; intro w hS)) | ((first | (refine oB ?_; first | refine sB1 hS rfl rfl ?_ | refine sB2 hS rfl rfl ?_) | refine sN1 hS rfl ?_); clear hS; first | ((fail_if_success guard_hyp g1); intro g1 w hS) | ((fail_if_success guard_hyp g2); intro g2 w hS) | ((fail_if_success guard_hyp g3); intro g3 w hS) | ((fail_if_success guard_hyp g4); intro g4 w hS) | ((fail_if_success guard_hyp g5); intro g5 w hS) | ((fail_if_success guard_hyp g6); intro g6 w hS) | ((fail_if_success guard_hyp g7); intro g7 w hS) | ((fail_if_success guard_hyp g8); intro g8 w hS) | fail) | fail)
        refine dr_start0 [10]  hS (by kernel_rfl) rfl ?_; clear hS; intro w hS
        refine dP hS 0 rfl rfl ?_
        (try simp only [Act.put, nA, nB, nC])
        first | refine dL1 hS 1 rfl rfl rfl rfl ?_ | refine dL2 hS 1 rfl rfl rfl rfl ?_ | refine dL3 hS 1 rfl rfl rfl ?_ | refine dL4 hS 1 rfl rfl rfl ?_ | refine dL5 hS 1 rfl rfl rfl ?_ | refine dL6 hS 1 rfl rfl rfl ?_ | refine dL7 hS 1 rfl rfl rfl ?_
        (try simp only [Act.put, nA, nB, nC])
        refine dP hS 2 rfl rfl ?_
        (try simp only [Act.put, nA, nB, nC])
        first | refine dL1 hS 3 rfl rfl rfl rfl ?_ | refine dL2 hS 3 rfl rfl rfl rfl ?_ | refine dL3 hS 3 rfl rfl rfl ?_ | refine dL4 hS 3 rfl rfl rfl ?_ | refine dL5 hS 3 rfl rfl rfl ?_ | refine dL6 hS 3 rfl rfl rfl ?_ | refine dL7 hS 3 rfl rfl rfl ?_
        (try simp only [Act.put, nA, nB, nC])
        refine dP hS 4 rfl rfl ?_
        (try simp only [Act.put, nA, nB, nC])
        first | refine dL1 hS 5 rfl rfl rfl rfl ?_ | refine dL2 hS 5 rfl rfl rfl rfl ?_ | refine dL3 hS 5 rfl rfl rfl ?_ | refine dL4 hS 5 rfl rfl rfl ?_ | refine dL5 hS 5 rfl rfl rfl ?_ | refine dL6 hS 5 rfl rfl rfl ?_ | refine dL7 hS 5 rfl rfl rfl ?_
        (try simp only [Act.put, nA, nB, nC])
        refine dP hS 6 rfl rfl ?_
        (try simp only [Act.put, nA, nB, nC])
        first | refine dL1 hS 7 rfl rfl rfl rfl ?_ | refine dL2 hS 7 rfl rfl rfl rfl ?_ | refine dL3 hS 7 rfl rfl rfl ?_ | refine dL4 hS 7 rfl rfl rfl ?_ | refine dL5 hS 7 rfl rfl rfl ?_ | refine dL6 hS 7 rfl rfl rfl ?_ | refine dL7 hS 7 rfl rfl rfl ?_
        (try simp only [Act.put, nA, nB, nC])
        refine dP hS 8 rfl rfl ?_
        (try simp only [Act.put, nA, nB, nC])
        refine dP hS 9 rfl rfl ?_
        (try simp only [Act.put, nA, nB, nC])
        refine dr_one 10 (by kernel_rfl) rfl ?_
        ((first | refine sS1 hS rfl rfl rfl ?_ | refine sS2 hS rfl rfl rfl ?_ | refine sS3 hS rfl rfl rfl ?_ | refine sS4 hS rfl rfl rfl ?_ | refine sS5 hS rfl rfl rfl ?_); clear hS; intro w hS)
        (try simp only [Act.put, nA, nB, nC])
        refine dr_late (by kernel_rfl) ?_
        refine dr_done (by kernel_rfl) ?_
        go_wp2_with (first | (refine oL ?_; (first | refine sL1 hS rfl rfl rfl ?_ | refine sL2 hS rfl rfl rfl ?_ | refine sL3 hS rfl rfl ?_ | refine sL4 hS rfl rfl ?_ | refine sL5 hS rfl rfl ?_ | refine sL6 hS rfl rfl ?_ | refine sL7 hS rfl rfl ?_)) | (refine oS ?_; ((first | refine sS1 hS rfl rfl rfl ?_ | refine sS2 hS rfl rfl rfl ?_ | refine sS3 hS rfl rfl rfl ?_ | refine sS4 hS rfl rfl rfl ?_ | refine sS5 hS rfl rfl rfl ?_); clear hS; intro w hS)) | ((first | (refine oB ?_; first | refine sB1 hS rfl rfl ?_ | refine sB2 hS rfl rfl ?_) | refine sN1 hS rfl ?_); clear hS; first | ((fail_if_success guard_hyp g1); intro g1 w hS) | ((fail_if_success guard_hyp g2); intro g2 w hS) | ((fail_if_success guard_hyp g3); intro g3 w hS) | ((fail_if_success guard_hyp g4); intro g4 w hS) | ((fail_if_success guard_hyp g5); intro g5 w hS) | ((fail_if_success guard_hyp g6); intro g6 w hS) | ((fail_if_success guard_hyp g7); intro g7 w hS) | ((fail_if_success guard_hyp g8); intro g8 w hS) | fail) | fail)
        refine dr_start1 [14] 0 hS (by kernel_rfl) rfl ?_; clear hS; intro w hS
        refine dP hS 0 rfl rfl ?_
        (try simp only [Act.put, nA, nB, nC])
        first | refine dL1 hS 1 rfl rfl rfl rfl ?_ | refine dL2 hS 1 rfl rfl rfl rfl ?_ | refine dL3 hS 1 rfl rfl rfl ?_ | refine dL4 hS 1 rfl rfl rfl ?_ | refine dL5 hS 1 rfl rfl rfl ?_ | refine dL6 hS 1 rfl rfl rfl ?_ | refine dL7 hS 1 rfl rfl rfl ?_
        (try simp only [Act.put, nA, nB, nC])
        refine dM hS 2 rfl rfl rfl ?_
        (try simp only [Act.put, nA, nB, nC])
        refine dP hS 3 rfl rfl ?_
        (try simp only [Act.put, nA, nB, nC])
        first | refine dL1 hS 4 rfl rfl rfl rfl ?_ | refine dL2 hS 4 rfl rfl rfl rfl ?_ | refine dL3 hS 4 rfl rfl rfl ?_ | refine dL4 hS 4 rfl rfl rfl ?_ | refine dL5 hS 4 rfl rfl rfl ?_ | refine dL6 hS 4 rfl rfl rfl ?_ | refine dL7 hS 4 rfl rfl rfl ?_
        (try simp only [Act.put, nA, nB, nC])
        refine dM hS 5 rfl rfl rfl ?_
        (try simp only [Act.put, nA, nB, nC])
        refine dP hS 6 rfl rfl ?_
        (try simp only [Act.put, nA, nB, nC])
        first | refine dL1 hS 7 rfl rfl rfl rfl ?_ | refine dL2 hS 7 rfl rfl rfl rfl ?_ | refine dL3 hS 7 rfl rfl rfl ?_ | refine dL4 hS 7 rfl rfl rfl ?_ | refine dL5 hS 7 rfl rfl rfl ?_ | refine dL6 hS 7 rfl rfl rfl ?_ | refine dL7 hS 7 rfl rfl rfl ?_
        (try simp only [Act.put, nA, nB, nC])
        refine dP hS 8 rfl rfl ?_
        (try simp only [Act.put, nA, nB, nC])
        first | refine dL1 hS 9 rfl rfl rfl rfl ?_ | refine dL2 hS 9 rfl rfl rfl rfl ?_ | refine dL3 hS 9 rfl rfl rfl ?_ | refine dL4 hS 9 rfl rfl rfl ?_ | refine dL5 hS 9 rfl rfl rfl ?_ | refine dL6 hS 9 rfl rfl rfl ?_ | refine dL7 hS 9 rfl rfl rfl ?_
        (try simp only [Act.put, nA, nB, nC])
        refine dP hS 10 rfl rfl ?_
        (try simp only [Act.put, nA, nB, nC])
        refine dr_one 11 (by kernel_rfl) rfl ?_
        first | (refine st_str hS rfl rfl rfl rfl hvl ?_; clear hS; intro w hS) | ((first | refine sC0 hS rfl ?_ | refine sC1 hS rfl rfl ?_ | refine sC2 hS rfl rfl ?_ | refine sC3 hS rfl rfl rfl ?_ | refine sC4 hS rfl rfl rfl ?_); clear hS; first | ((fail_if_success guard_hyp g1); intro g1 w hS) | ((fail_if_success guard_hyp g2); intro g2 w hS) | ((fail_if_success guard_hyp g3); intro g3 w hS) | ((fail_if_success guard_hyp g4); intro g4 w hS) | ((fail_if_success guard_hyp g5); intro g5 w hS) | ((fail_if_success guard_hyp g6); intro g6 w hS) | ((fail_if_success guard_hyp g7); intro g7 w hS) | ((fail_if_success guard_hyp g8); intro g8 w hS) | fail) | fail
        (try simp only [Act.put, nA, nB, nC])
        refine dr_end hS ?_
        refine dr_one 12 (by kernel_rfl) rfl ?_
        first | (refine st_str hS rfl rfl rfl rfl hvl ?_; clear hS; intro w hS) | ((first | refine sP1 hS rfl rfl rfl ?_ | refine sP2 hS rfl rfl rfl ?_ | refine sP3 hS rfl rfl rfl ?_); clear hS; first | ((fail_if_success guard_hyp L1); intro L1 cl1 w hL1 hM1 hS) | ((fail_if_success guard_hyp L2); intro L2 cl2 w hL2 hM2 hS) | ((fail_if_success guard_hyp L3); intro L3 cl3 w hL3 hM3 hS) | fail) | fail
        (try simp only [Act.put, nA, nB, nC])
        refine dr_end hS ?_
        refine dP hS 13 rfl rfl ?_
        (try simp only [Act.put, nA, nB, nC])
        refine dr_one 14 (by kernel_rfl) rfl ?_
        first | (refine st_str hS rfl rfl rfl rfl hvl ?_; clear hS; intro w hS) | ((first | refine sS1 hS rfl rfl rfl ?_ | refine sS2 hS rfl rfl rfl ?_ | refine sS3 hS rfl rfl rfl ?_ | refine sS4 hS rfl rfl rfl ?_ | refine sS5 hS rfl rfl rfl ?_); clear hS; intro w hS) | fail
        (try simp only [Act.put, nA, nB, nC])
        refine dr_late (by kernel_rfl) ?_
        refine dr_done (by kernel_rfl) ?_
        go_wp2_with (first | (refine oL ?_; (first | refine sL1 hS rfl rfl rfl ?_ | refine sL2 hS rfl rfl rfl ?_ | refine sL3 hS rfl rfl ?_ | refine sL4 hS rfl rfl ?_ | refine sL5 hS rfl rfl ?_ | refine sL6 hS rfl rfl ?_ | refine sL7 hS rfl rfl ?_)) | (refine oS ?_; ((first | refine sS1 hS rfl rfl rfl ?_ | refine sS2 hS rfl rfl rfl ?_ | refine sS3 hS rfl rfl rfl ?_ | refine sS4 hS rfl rfl rfl ?_ | refine sS5 hS rfl rfl rfl ?_); clear hS; intro w hS)) | ((first | (refine oB ?_; first | refine sB1 hS rfl rfl ?_ | refine sB2 hS rfl rfl ?_) | refine sN1 hS rfl ?_); clear hS; first | ((fail_if_success guard_hyp g1); intro g1 w hS) | ((fail_if_success guard_hyp g2); intro g2 w hS) | ((fail_if_success guard_hyp g3); intro g3 w hS) | ((fail_if_success guard_hyp g4); intro g4 w hS) | ((fail_if_success guard_hyp g5); intro g5 w hS) | ((fail_if_success guard_hyp g6); intro g6 w hS) | ((fail_if_success guard_hyp g7); intro g7 w hS) | ((fail_if_success guard_hyp g8); intro g8 w hS) | fail) | fail)
        (try simp only [IntWalk.i64_left] at hS)
        have hS3 : St w0 (fun k => S k ∧ k < w0.heap.size) (row (.slice L1 (l.length + 1) cl1) 48 2 (l.length + 1) (pcs l ++ [.bool false, .int .i64 val]) :: fam2 48 2 (rs.set kx nilR2) :: blk g4 [.slice (some ⟨gv, 0, none⟩) n kv, .slice (some ⟨gc, 0, none⟩) n kc, .slice (some ⟨gh, 0, none⟩) nn kh, .slice (some ⟨gk, 0, none⟩) n kk, .slice (some ⟨gd, 0, none⟩) n kd', .slice (some ⟨go, 0, none⟩) nn ko, .slice (some ⟨gr, 0, none⟩) nn kr] 28 :: row (.slice (some ⟨gh, 0, none⟩) nn kh) 46 1 nn (hv.set kx (.slice L1 (l.length + 1) cl1)) :: row (.slice (some ⟨gv, 0, none⟩) n kv) 3 1 n (ints (s.vals.set p (wrap64 (vq - val)))) :: row (.slice (some ⟨gc, 0, none⟩) n kc) 3 1 n (ints (s.cnts.set p (cn + 1))) :: row (.slice (some ⟨gk, 0, none⟩) n kk) 3 1 n (ints s.cut) :: row (.slice (some ⟨gd, 0, none⟩) n kd') 3 1 n (ints s.saved) :: row (.slice (some ⟨go, 0, none⟩) nn ko) 4 1 nn (bools s.opn) :: row (.slice (some ⟨gr, 0, none⟩) nn kr) 22 1 nn rv :: fam2 3 1 rs2 :: froz (fun k => S k ∧ k < w0.heap.size) w0 :: blk g2 [.int .i64 1, .int .i64 (p : Int), .int .i64 (q : Int), .int .i64 val] 40 :: blk g1 [.slice A1 n c1, .slice A2 n c2, .slice A3 nn c3, .slice A4 n c4, .slice A5 n c5, .slice A6 nn c6, .slice A7 nn c7] 28 :: []) _ := hS.re
        have hS4 := fam_back (rs := rs) (k := kx) hS3
        have HX2 := Lib.hid (HX.out.set kx L1 cl1 (l ++ [((false, val) : Pcl)]))
        simp only [List.length_append, List.length_singleton] at HX2 hS4
        have HE2 : Hid (sendS s p q val = { s with vals := s.vals.set p (wrap64 (vq - val)), cnts := s.cnts.set p (cn + 1), chs := s.chs.set kx (l ++ [((false, val) : Pcl)]) }) := Lib.hid (by simp only [sendS, HP.out.2.1.lv, HKX.out, HL.out, HVQ.out.1, HVQ.out.2])
        refine st_retCT hS rfl rfl rfl rfl rfl ?_
        rw [HE2.out] at HE HGO
        rw [HE.out]
        exact fin_sn gv gc gh gk gd go gr kv kc kh kk kd' ko kr n nn _ _ _ rs2 _ rv nn hS4.re HX2.out (fun h => absurd h (by simp [HLH.out])) HF2.out HRV.out (hS.extF hS.frozInto) HGO.out HP.out.2.2
      · obtain rfl : kd = 2 := by omega
        have hlen := HKD.out.2.2.2 rfl
        simp only [Int.toNat_natCast] at hlen
        rw [HKX.out] at hlen
        cases hch : chOf s.chs kx with
        | nil => rw [hch] at hlen; simp at hlen
        | cons x l =>
        obtain ⟨mk, xv⟩ := x
        have HE := Lib.hid (show goS s ⟨2, (p : Int), (q : Int), val⟩ = if mk = true then markS s kx q else takeS s kx q xv by unfold goS; rw [if_neg (show ¬ (2 : Int) = 3 by decide), if_neg (show ¬ (2 : Int) = 1 by decide), HP.out.2.1.lv]; simp only [Int.toNat_natCast, HKX.out, hch])
        rw [HE.out] at HGO
        rw [hch] at hrk hvk hlb
        have HCH := Lib.hid hch
        have HRK := Lib.hid hrk
        clear hrk hch k3 k1 hlen hpv hpc hpvl hpcl hcp
        have hS2 := (St.re (ds := fam2 48 2 rs :: blk g4 [.slice (some ⟨gv, 0, none⟩) n kv, .slice (some ⟨gc, 0, none⟩) n kc, .slice (some ⟨gh, 0, none⟩) nn kh, .slice (some ⟨gk, 0, none⟩) n kk, .slice (some ⟨gd, 0, none⟩) n kd', .slice (some ⟨go, 0, none⟩) nn ko, .slice (some ⟨gr, 0, none⟩) nn kr] 28 :: row (.slice (some ⟨gh, 0, none⟩) nn kh) 46 1 nn hv :: row (.slice (some ⟨gv, 0, none⟩) n kv) 3 1 n (ints s.vals) :: row (.slice (some ⟨gc, 0, none⟩) n kc) 3 1 n (ints s.cnts) :: row (.slice (some ⟨gk, 0, none⟩) n kk) 3 1 n (ints s.cut) :: row (.slice (some ⟨gd, 0, none⟩) n kd') 3 1 n (ints s.saved) :: row (.slice (some ⟨go, 0, none⟩) nn ko) 4 1 nn (bools s.opn) :: row (.slice (some ⟨gr, 0, none⟩) nn kr) 22 1 nn rv :: fam2 3 1 rs2 :: froz (fun k => S k ∧ k < w0.heap.size) w0 :: blk g3 sn0 28 :: blk g2 [.int .i64 2, .int .i64 (p : Int), .int .i64 (q : Int), .int .i64 val] 40 :: blk g1 [.slice A1 n c1, .slice A2 n c2, .slice A3 nn c3, .slice A4 n c4, .slice A5 n c5, .slice A6 nn c6, .slice A7 nn c7] 28 :: []) hS).fam2Take HRK.out
        replace hS := hS2
        clear hS2
        have hcap := hS.rowForm B
        obtain ⟨T1, hS1, hi1, hrv1⟩ := hS.freezeV
        obtain ⟨w1, hw1⟩ : ∃ x, x = w := ⟨_, rfl⟩
        rw [← hw1] at hi1 hrv1
        replace hS : St w0 (fun k => S k ∧ k < w0.heap.size) (blk g4 [.slice (some ⟨gv, 0, none⟩) n kv, .slice (some ⟨gc, 0, none⟩) n kc, .slice (some ⟨gh, 0, none⟩) nn kh, .slice (some ⟨gk, 0, none⟩) n kk, .slice (some ⟨gd, 0, none⟩) n kd', .slice (some ⟨go, 0, none⟩) nn ko, .slice (some ⟨gr, 0, none⟩) nn kr] 28 :: row (.slice (some ⟨gh, 0, none⟩) nn kh) 46 1 nn hv :: fam2 48 2 (rs.set kx nilR2) :: row (.slice (some ⟨gv, 0, none⟩) n kv) 3 1 n (ints s.vals) :: row (.slice (some ⟨gc, 0, none⟩) n kc) 3 1 n (ints s.cnts) :: row (.slice (some ⟨gk, 0, none⟩) n kk) 3 1 n (ints s.cut) :: row (.slice (some ⟨gd, 0, none⟩) n kd') 3 1 n (ints s.saved) :: row (.slice (some ⟨go, 0, none⟩) nn ko) 4 1 nn (bools s.opn) :: row (.slice (some ⟨gr, 0, none⟩) nn kr) 22 1 nn rv :: fam2 3 1 rs2 :: froz T1 w1 :: blk g3 sn0 28 :: blk g2 [.int .i64 2, .int .i64 (p : Int), .int .i64 (q : Int), .int .i64 val] 40 :: blk g1 [.slice A1 n c1, .slice A2 n c2, .slice A3 nn c3, .slice A4 n c4, .slice A5 n c5, .slice A6 nn c6, .slice A7 nn c7] 28 :: []) w := by rw [hw1]; exact hS1.re
        clear hS1 hw1
        obtain ⟨b3, o3, rfl, ht3, hc3⟩ := pcs_cells hrv1 (j := 0) (by simp)
        simp only [List.getElem_cons_zero, Nat.zero_mul, Nat.add_zero] at hc3
        have hfc : FCs T1 w1 b3 o3 [.bool mk, .int .i64 xv] := ⟨ht3, hc3⟩
        simp only [List.length_cons] at hvk hlb hcap
        have HTL := Lib.hid (tail_ch hrv1 (by omega) hcap.2)
        have HI1 := Lib.hid hi1
        have HX2 := Lib.hid (HX.out.pop (by rw [HLH.out]; exact Nat.le_refl _) (by rw [HLH.out]; exact hkn) nilR2 (.slice (tailA b3 o3 cb 2) (l.length + 1 - 1) (cb - 1)) l)
        have hkv2 : (hv.set kx (.slice (tailA b3 o3 cb 2) (l.length + 1 - 1) (cb - 1)))[kx]? = some (.slice (tailA b3 o3 cb 2) (l.length + 1 - 1) (cb - 1)) := by rw [List.getElem?_set_self hvl]
        have HKV := Lib.hid hkv2
        have h1l : (0 : Int) < (l.length : Int) + 1 := by omega
        have hl1 : 1 ≤ l.length + 1 := by omega
        have hcb1 : l.length + 1 ≤ cb := hcap.1
        clear ht3 hc3 hrv1 hi1 hkv2
        go_wp2_with (first | (refine oL ?_; (first | refine sL1 hS rfl rfl rfl ?_ | refine sL2 hS rfl rfl rfl ?_ | refine sL3 hS rfl rfl ?_ | refine sL4 hS rfl rfl ?_ | refine sL5 hS rfl rfl ?_ | refine sL6 hS rfl rfl ?_ | refine sL7 hS rfl rfl ?_)) | (refine oS ?_; ((first | refine sS1 hS rfl rfl rfl ?_ | refine sS2 hS rfl rfl rfl ?_ | refine sS3 hS rfl rfl rfl ?_ | refine sS4 hS rfl rfl rfl ?_ | refine sS5 hS rfl rfl rfl ?_); clear hS; intro w hS)) | ((first | (refine oB ?_; first | refine sB1 hS rfl rfl ?_ | refine sB2 hS rfl rfl ?_) | refine sN1 hS rfl ?_); clear hS; first | ((fail_if_success guard_hyp g1); intro g1 w hS) | ((fail_if_success guard_hyp g2); intro g2 w hS) | ((fail_if_success guard_hyp g3); intro g3 w hS) | ((fail_if_success guard_hyp g4); intro g4 w hS) | ((fail_if_success guard_hyp g5); intro g5 w hS) | ((fail_if_success guard_hyp g6); intro g6 w hS) | ((fail_if_success guard_hyp g7); intro g7 w hS) | ((fail_if_success guard_hyp g8); intro g8 w hS) | fail) | fail)
        refine dr_start0 [10]  hS (by kernel_rfl) rfl ?_; clear hS; intro w hS
        refine dP hS 0 rfl rfl ?_
        (try simp only [Act.put, nA, nB, nC])
        first | refine dL1 hS 1 rfl rfl rfl rfl ?_ | refine dL2 hS 1 rfl rfl rfl rfl ?_ | refine dL3 hS 1 rfl rfl rfl ?_ | refine dL4 hS 1 rfl rfl rfl ?_ | refine dL5 hS 1 rfl rfl rfl ?_ | refine dL6 hS 1 rfl rfl rfl ?_ | refine dL7 hS 1 rfl rfl rfl ?_
        (try simp only [Act.put, nA, nB, nC])
        refine dM hS 2 rfl rfl rfl ?_
        (try simp only [Act.put, nA, nB, nC])
        refine dP hS 3 rfl rfl ?_
        (try simp only [Act.put, nA, nB, nC])
        first | refine dL1 hS 4 rfl rfl rfl rfl ?_ | refine dL2 hS 4 rfl rfl rfl rfl ?_ | refine dL3 hS 4 rfl rfl rfl ?_ | refine dL4 hS 4 rfl rfl rfl ?_ | refine dL5 hS 4 rfl rfl rfl ?_ | refine dL6 hS 4 rfl rfl rfl ?_ | refine dL7 hS 4 rfl rfl rfl ?_
        (try simp only [Act.put, nA, nB, nC])
        refine dM hS 5 rfl rfl rfl ?_
        (try simp only [Act.put, nA, nB, nC])
        refine dP hS 6 rfl rfl ?_
        (try simp only [Act.put, nA, nB, nC])
        first | refine dL1 hS 7 rfl rfl rfl rfl ?_ | refine dL2 hS 7 rfl rfl rfl rfl ?_ | refine dL3 hS 7 rfl rfl rfl ?_ | refine dL4 hS 7 rfl rfl rfl ?_ | refine dL5 hS 7 rfl rfl rfl ?_ | refine dL6 hS 7 rfl rfl rfl ?_ | refine dL7 hS 7 rfl rfl rfl ?_
        (try simp only [Act.put, nA, nB, nC])
        first | refine dT (sz := 2) Try.underlying46 (by kernel_rfl) hl1 hcb1 hS 8 rfl rfl rfl rfl ?_ | refine dP hS 8 rfl rfl ?_
        (try simp only [Act.put, nA, nB, nC])
        refine dP hS 9 rfl rfl ?_
        (try simp only [Act.put, nA, nB, nC])
        refine dr_one 10 (by kernel_rfl) rfl ?_
        first | (refine st_str hS rfl rfl rfl rfl hvl ?_; clear hS; intro w hS) | ((first | refine sS1 hS rfl rfl rfl ?_ | refine sS2 hS rfl rfl rfl ?_ | refine sS3 hS rfl rfl rfl ?_ | refine sS4 hS rfl rfl rfl ?_ | refine sS5 hS rfl rfl rfl ?_); clear hS; intro w hS) | fail
        (try simp only [Act.put, nA, nB, nC])
        refine dr_late (by kernel_rfl) ?_
        refine dr_done (by kernel_rfl) ?_
        replace hS : St w0 (fun k => S k ∧ k < w0.heap.size) (blk g4 [.slice (some ⟨gv, 0, none⟩) n kv, .slice (some ⟨gc, 0, none⟩) n kc, .slice (some ⟨gh, 0, none⟩) nn kh, .slice (some ⟨gk, 0, none⟩) n kk, .slice (some ⟨gd, 0, none⟩) n kd', .slice (some ⟨go, 0, none⟩) nn ko, .slice (some ⟨gr, 0, none⟩) nn kr] 28 :: row (.slice (some ⟨gh, 0, none⟩) nn kh) 46 1 nn (hv.set kx (.slice (tailA b3 o3 cb 2) (l.length + 1 - 1) (cb - 1))) :: fam2 48 2 (rs.set kx nilR2) :: row (.slice (some ⟨gv, 0, none⟩) n kv) 3 1 n (ints s.vals) :: row (.slice (some ⟨gc, 0, none⟩) n kc) 3 1 n (ints s.cnts) :: row (.slice (some ⟨gk, 0, none⟩) n kk) 3 1 n (ints s.cut) :: row (.slice (some ⟨gd, 0, none⟩) n kd') 3 1 n (ints s.saved) :: row (.slice (some ⟨go, 0, none⟩) nn ko) 4 1 nn (bools s.opn) :: row (.slice (some ⟨gr, 0, none⟩) nn kr) 22 1 nn rv :: fam2 3 1 rs2 :: froz T1 w1 :: blk g5 [.bool mk, .int .i64 xv] 48 :: blk g3 sn0 28 :: blk g2 [.int .i64 2, .int .i64 (p : Int), .int .i64 (q : Int), .int .i64 val] 40 :: blk g1 [.slice A1 n c1, .slice A2 n c2, .slice A3 nn c3, .slice A4 n c4, .slice A5 n c5, .slice A6 nn c6, .slice A7 nn c7] 28 :: []) w := hS.re
        cases mk with
        | true =>
          rw [if_pos rfl] at HE HGO
          have hck := ints_at (l := s.cut) (q := q) (by rw [HP.out.2.1.lk]; exact hq)
          have hpok := popS_ok (k := kx) HP.out.2.1 (by rw [HP.out.2.2]; exact hkn)
          have HPO := Lib.hid (And.intro hpok (show (popS s kx).chs = s.chs.set kx l by simp only [popS, HCH.out, List.tail_cons]))
          clear hpok hqv hqc hqvl hqcl hcq
          have hk0 : ∀ r, r < n → r ≠ q → q * n + r ≠ kx := fun r hr hne e => by
            rw [← HKX.out] at e
            have h1 := congrArg (· / n) e
            simp only [ch_div hr, ch_div hq] at h1
            exact HNE.out h1.symm
          have HK0 := Lib.hid hk0
          clear hk0
          by_cases hu : nth s.cut q < 0
          · have du : decide (nth s.cut q < 0) = true := decide_eq_true hu
            have hrs : recS (popS s kx) q = recR (popS s kx) q n := recS_eq HPO.out.1 hu
            have HRQ := Lib.hid (recS_ok HPO.out.1 hq)
            rw [hrs] at HRQ
            have HE2 := Lib.hid (show markS s kx q = { recR (popS s kx) q n with opn := (recR (popS s kx) q n).opn.set kx false } by unfold markS; rw [hrs])
            rw [HE2.out] at HE HGO
            obtain ⟨s2, hs2⟩ : ∃ x, recR (popS s kx) q n = x := ⟨_, rfl⟩
            rw [hs2] at HE HGO HRQ
            have HRS := Lib.hid (show s2.recs = s.recs by rw [← hs2]; rfl)
            have HCK := Lib.hid (show chOf s2.chs kx = l by
              rw [← hs2]
              simp only [recR, HPO.out.2]
              rw [markCh_at (by rw [List.length_set, HLH.out]; exact hkn), chOf_set (by rw [HLH.out]; exact hkn), if_pos rfl, if_neg]
              intro h
              have h1 := h.1
              rw [show (popS s kx).vals.length = n from HP.out.2.1.lv, ← HKX.out, ch_div hq] at h1
              exact HNE.out h1)
            clear hu hrs HE2
            generalize nth s.cut q = cp at *
            go_wp2_with (first | (refine oL ?_; (first | refine sL1 hS rfl rfl rfl ?_ | refine sL2 hS rfl rfl rfl ?_ | refine sL3 hS rfl rfl ?_ | refine sL4 hS rfl rfl ?_ | refine sL5 hS rfl rfl ?_ | refine sL6 hS rfl rfl ?_ | refine sL7 hS rfl rfl ?_)) | (refine oS ?_; ((first | refine sS1 hS rfl rfl rfl ?_ | refine sS2 hS rfl rfl rfl ?_ | refine sS3 hS rfl rfl rfl ?_ | refine sS4 hS rfl rfl rfl ?_ | refine sS5 hS rfl rfl rfl ?_); clear hS; intro w hS)) | ((first | (refine oB ?_; first | refine sB1 hS rfl rfl ?_ | refine sB2 hS rfl rfl ?_) | refine sN1 hS rfl ?_); clear hS; first | ((fail_if_success guard_hyp g1); intro g1 w hS) | ((fail_if_success guard_hyp g2); intro g2 w hS) | ((fail_if_success guard_hyp g3); intro g3 w hS) | ((fail_if_success guard_hyp g4); intro g4 w hS) | ((fail_if_success guard_hyp g5); intro g5 w hS) | ((fail_if_success guard_hyp g6); intro g6 w hS) | ((fail_if_success guard_hyp g7); intro g7 w hS) | ((fail_if_success guard_hyp g8); intro g8 w hS) | fail) | fail)
            replace hS : St w0 (fun k => S k ∧ k < w0.heap.size) (blk g4 [.slice (some ⟨gv, 0, none⟩) n kv, .slice (some ⟨gc, 0, none⟩) n kc, .slice (some ⟨gh, 0, none⟩) nn kh, .slice (some ⟨gk, 0, none⟩) n kk, .slice (some ⟨gd, 0, none⟩) n kd', .slice (some ⟨go, 0, none⟩) nn ko, .slice (some ⟨gr, 0, none⟩) nn kr] 28 :: row (.slice (some ⟨gh, 0, none⟩) nn kh) 46 1 nn (hv.set kx (.slice (tailA b3 o3 cb 2) (l.length + 1 - 1) (cb - 1))) :: fam2 48 2 (rs.set kx nilR2) :: row (.slice (some ⟨gv, 0, none⟩) n kv) 3 1 n (ints s.vals) :: row (.slice (some ⟨gc, 0, none⟩) n kc) 3 1 n (ints s.cnts) :: row (.slice (some ⟨gk, 0, none⟩) n kk) 3 1 n (ints s.cut) :: row (.slice (some ⟨gd, 0, none⟩) n kd') 3 1 n (ints s.saved) :: row (.slice (some ⟨go, 0, none⟩) nn ko) 4 1 nn (bools s.opn) :: row (.slice (some ⟨gr, 0, none⟩) nn kr) 22 1 nn rv :: fam2 3 1 rs2 :: froz T1 w1 :: blk g5 [.bool true, .int .i64 xv] 48 :: blk g3 sn0 28 :: blk g2 [.int .i64 2, .int .i64 (p : Int), .int .i64 (q : Int), .int .i64 val] 40 :: blk g1 [.slice A1 n c1, .slice A2 n c2, .slice A3 nn c3, .slice A4 n c4, .slice A5 n c5, .slice A6 nn c6, .slice A7 nn c7] 28 :: []) _ := hS.re
            refine (rrecord_st g4 gv gc gh gk gd go gr kv kc kh kk kd' ko kr n nn b (popS s kx) (rs.set kx nilR2) (hv.set kx (.slice (tailA b3 o3 cb 2) (l.length + 1 - 1) (cb - 1))) q kx hS HPO.out.1 HP.out.2.2 (by omega) (by rw [HPO.out.2]; exact HX2.out) HK0.out hq s2 hs2).mono ?_
            rintro e w3 ⟨rfl, rs', hv', HX3, hS2⟩
            replace hS := hS2
            clear hS2 hs2
            have hro2 : kx < (bools s2.opn).length := by rw [bools_len, HRQ.out.lo, HP.out.2.2]; exact hkn
            go_wp2_with (first | (refine oS ?_; refine st_str hS rfl rfl rfl rfl hro2 ?_; clear hS; intro w hS) | (refine oL ?_; (first | refine sL1 hS rfl rfl rfl ?_ | refine sL2 hS rfl rfl rfl ?_ | refine sL3 hS rfl rfl ?_ | refine sL4 hS rfl rfl ?_ | refine sL5 hS rfl rfl ?_ | refine sL6 hS rfl rfl ?_ | refine sL7 hS rfl rfl ?_)) | (refine oS ?_; ((first | refine sS1 hS rfl rfl rfl ?_ | refine sS2 hS rfl rfl rfl ?_ | refine sS3 hS rfl rfl rfl ?_ | refine sS4 hS rfl rfl rfl ?_ | refine sS5 hS rfl rfl rfl ?_); clear hS; intro w hS)) | ((first | (refine oB ?_; first | refine sB1 hS rfl rfl ?_ | refine sB2 hS rfl rfl ?_) | refine sN1 hS rfl ?_); clear hS; first | ((fail_if_success guard_hyp g1); intro g1 w hS) | ((fail_if_success guard_hyp g2); intro g2 w hS) | ((fail_if_success guard_hyp g3); intro g3 w hS) | ((fail_if_success guard_hyp g4); intro g4 w hS) | ((fail_if_success guard_hyp g5); intro g5 w hS) | ((fail_if_success guard_hyp g6); intro g6 w hS) | ((fail_if_success guard_hyp g7); intro g7 w hS) | ((fail_if_success guard_hyp g8); intro g8 w hS) | fail) | fail)
            (try simp only [bools_set] at hS)
            refine st_retCT hS rfl rfl rfl rfl rfl ?_
            rw [HE.out]
            exact fin_sn gv gc gh gk gd go gr kv kc kh kk kd' ko kr n nn _ _ rs' rs2 hv' rv kx hS.re HX3.out.1 (fun _ => ⟨_, by rw [HX3.out.2]; exact HKV.out, by simp only; rw [HCK.out]; exact ChV.into hS.ornF _ _ HTL.out⟩) (by simp only; rw [HRS.out]; exact HF2.out) HRV.out (hS.extF (HI1.out.trans' hS.frozInto)) HGO.out HP.out.2.2
          · have du : decide (nth s.cut q < 0) = false := decide_eq_false hu
            have HE2 := Lib.hid (show markS s kx q = { s with chs := s.chs.set kx l, opn := s.opn.set kx false } by unfold markS; rw [recS_same (s := popS s kx) hu]; simp only [popS, HCH.out, List.tail_cons])
            rw [HE2.out] at HE HGO
            clear hu HE2
            generalize nth s.cut q = cp at *
            have hro2 : kx < (bools s.opn).length := by rw [bools_len, HP.out.2.1.lo, HP.out.2.2]; exact hkn
            go_wp2_with (first | (refine oS ?_; refine st_str hS rfl rfl rfl rfl hro2 ?_; clear hS; intro w hS) | (refine oL ?_; (first | refine sL1 hS rfl rfl rfl ?_ | refine sL2 hS rfl rfl rfl ?_ | refine sL3 hS rfl rfl ?_ | refine sL4 hS rfl rfl ?_ | refine sL5 hS rfl rfl ?_ | refine sL6 hS rfl rfl ?_ | refine sL7 hS rfl rfl ?_)) | (refine oS ?_; ((first | refine sS1 hS rfl rfl rfl ?_ | refine sS2 hS rfl rfl rfl ?_ | refine sS3 hS rfl rfl rfl ?_ | refine sS4 hS rfl rfl rfl ?_ | refine sS5 hS rfl rfl rfl ?_); clear hS; intro w hS)) | ((first | (refine oB ?_; first | refine sB1 hS rfl rfl ?_ | refine sB2 hS rfl rfl ?_) | refine sN1 hS rfl ?_); clear hS; first | ((fail_if_success guard_hyp g1); intro g1 w hS) | ((fail_if_success guard_hyp g2); intro g2 w hS) | ((fail_if_success guard_hyp g3); intro g3 w hS) | ((fail_if_success guard_hyp g4); intro g4 w hS) | ((fail_if_success guard_hyp g5); intro g5 w hS) | ((fail_if_success guard_hyp g6); intro g6 w hS) | ((fail_if_success guard_hyp g7); intro g7 w hS) | ((fail_if_success guard_hyp g8); intro g8 w hS) | fail) | fail)
            (try simp only [bools_set] at hS)
            refine st_retCT hS rfl rfl rfl rfl rfl ?_
            rw [HE.out]
            exact fin_sn gv gc gh gk gd go gr kv kc kh kk kd' ko kr n nn _ _ (rs.set kx nilR2) rs2 (hv.set kx (.slice (tailA b3 o3 cb 2) (l.length + 1 - 1) (cb - 1))) rv kx hS.re HX2.out (fun _ => ⟨_, HKV.out, by simp only; rw [chOf_set (by rw [HLH.out]; exact hkn), if_pos rfl]; exact ChV.into hS.ornF _ _ HTL.out⟩) HF2.out HRV.out (hS.extF (HI1.out.trans' hS.frozInto)) HGO.out HP.out.2.2
        | false =>
          rw [if_neg (by simp)] at HE HGO
          have hcho := bools_get (l := s.opn) (k := kx) (by rw [HP.out.2.1.lo, HP.out.2.2]; exact hkn)
          generalize hvq : nth s.vals q = vq at *
          generalize hcn : nth s.cnts q = cn at *
          cases hop : opOf s.opn kx with
          | false =>
            rw [hop] at hcho
            have HE2 := Lib.hid (show takeS s kx q xv = { s with vals := s.vals.set q (wrap64 (vq + xv)), cnts := s.cnts.set q (cn + 1), chs := s.chs.set kx l } by simp [takeS, hop, hvq, hcn, popS, HCH.out])
            rw [HE2.out] at HE HGO
            clear hop hvq hcn HE2
            go_wp2_with (first | (refine oL ?_; (first | refine sL1 hS rfl rfl rfl ?_ | refine sL2 hS rfl rfl rfl ?_ | refine sL3 hS rfl rfl ?_ | refine sL4 hS rfl rfl ?_ | refine sL5 hS rfl rfl ?_ | refine sL6 hS rfl rfl ?_ | refine sL7 hS rfl rfl ?_)) | (refine oS ?_; ((first | refine sS1 hS rfl rfl rfl ?_ | refine sS2 hS rfl rfl rfl ?_ | refine sS3 hS rfl rfl rfl ?_ | refine sS4 hS rfl rfl rfl ?_ | refine sS5 hS rfl rfl rfl ?_); clear hS; intro w hS)) | ((first | (refine oB ?_; first | refine sB1 hS rfl rfl ?_ | refine sB2 hS rfl rfl ?_) | refine sN1 hS rfl ?_); clear hS; first | ((fail_if_success guard_hyp g1); intro g1 w hS) | ((fail_if_success guard_hyp g2); intro g2 w hS) | ((fail_if_success guard_hyp g3); intro g3 w hS) | ((fail_if_success guard_hyp g4); intro g4 w hS) | ((fail_if_success guard_hyp g5); intro g5 w hS) | ((fail_if_success guard_hyp g6); intro g6 w hS) | ((fail_if_success guard_hyp g7); intro g7 w hS) | ((fail_if_success guard_hyp g8); intro g8 w hS) | fail) | fail)
            refine dr_start0 [10]  hS (by kernel_rfl) rfl ?_; clear hS; intro w hS
            refine dP hS 0 rfl rfl ?_
            (try simp only [Act.put, nA, nB, nC])
            first | refine dL1 hS 1 rfl rfl rfl rfl ?_ | refine dL2 hS 1 rfl rfl rfl rfl ?_ | refine dL3 hS 1 rfl rfl rfl ?_ | refine dL4 hS 1 rfl rfl rfl ?_ | refine dL5 hS 1 rfl rfl rfl ?_ | refine dL6 hS 1 rfl rfl rfl ?_ | refine dL7 hS 1 rfl rfl rfl ?_
            (try simp only [Act.put, nA, nB, nC])
            refine dP hS 2 rfl rfl ?_
            (try simp only [Act.put, nA, nB, nC])
            first | refine dL1 hS 3 rfl rfl rfl rfl ?_ | refine dL2 hS 3 rfl rfl rfl rfl ?_ | refine dL3 hS 3 rfl rfl rfl ?_ | refine dL4 hS 3 rfl rfl rfl ?_ | refine dL5 hS 3 rfl rfl rfl ?_ | refine dL6 hS 3 rfl rfl rfl ?_ | refine dL7 hS 3 rfl rfl rfl ?_
            (try simp only [Act.put, nA, nB, nC])
            refine dP hS 4 rfl rfl ?_
            (try simp only [Act.put, nA, nB, nC])
            first | refine dL1 hS 5 rfl rfl rfl rfl ?_ | refine dL2 hS 5 rfl rfl rfl rfl ?_ | refine dL3 hS 5 rfl rfl rfl ?_ | refine dL4 hS 5 rfl rfl rfl ?_ | refine dL5 hS 5 rfl rfl rfl ?_ | refine dL6 hS 5 rfl rfl rfl ?_ | refine dL7 hS 5 rfl rfl rfl ?_
            (try simp only [Act.put, nA, nB, nC])
            refine dP hS 6 rfl rfl ?_
            (try simp only [Act.put, nA, nB, nC])
            first | refine dL1 hS 7 rfl rfl rfl rfl ?_ | refine dL2 hS 7 rfl rfl rfl rfl ?_ | refine dL3 hS 7 rfl rfl rfl ?_ | refine dL4 hS 7 rfl rfl rfl ?_ | refine dL5 hS 7 rfl rfl rfl ?_ | refine dL6 hS 7 rfl rfl rfl ?_ | refine dL7 hS 7 rfl rfl rfl ?_
            (try simp only [Act.put, nA, nB, nC])
            refine dP hS 8 rfl rfl ?_
            (try simp only [Act.put, nA, nB, nC])
            refine dP hS 9 rfl rfl ?_
            (try simp only [Act.put, nA, nB, nC])
            refine dr_one 10 (by kernel_rfl) rfl ?_
            ((first | refine sS1 hS rfl rfl rfl ?_ | refine sS2 hS rfl rfl rfl ?_ | refine sS3 hS rfl rfl rfl ?_ | refine sS4 hS rfl rfl rfl ?_ | refine sS5 hS rfl rfl rfl ?_); clear hS; intro w hS)
            (try simp only [Act.put, nA, nB, nC])
            refine dr_late (by kernel_rfl) ?_
            refine dr_done (by kernel_rfl) ?_
            go_wp2_with (first | (refine oL ?_; (first | refine sL1 hS rfl rfl rfl ?_ | refine sL2 hS rfl rfl rfl ?_ | refine sL3 hS rfl rfl ?_ | refine sL4 hS rfl rfl ?_ | refine sL5 hS rfl rfl ?_ | refine sL6 hS rfl rfl ?_ | refine sL7 hS rfl rfl ?_)) | (refine oS ?_; ((first | refine sS1 hS rfl rfl rfl ?_ | refine sS2 hS rfl rfl rfl ?_ | refine sS3 hS rfl rfl rfl ?_ | refine sS4 hS rfl rfl rfl ?_ | refine sS5 hS rfl rfl rfl ?_); clear hS; intro w hS)) | ((first | (refine oB ?_; first | refine sB1 hS rfl rfl ?_ | refine sB2 hS rfl rfl ?_) | refine sN1 hS rfl ?_); clear hS; first | ((fail_if_success guard_hyp g1); intro g1 w hS) | ((fail_if_success guard_hyp g2); intro g2 w hS) | ((fail_if_success guard_hyp g3); intro g3 w hS) | ((fail_if_success guard_hyp g4); intro g4 w hS) | ((fail_if_success guard_hyp g5); intro g5 w hS) | ((fail_if_success guard_hyp g6); intro g6 w hS) | ((fail_if_success guard_hyp g7); intro g7 w hS) | ((fail_if_success guard_hyp g8); intro g8 w hS) | fail) | fail)
            (try simp only [IntWalk.i64_left] at hS)
            refine st_retCT hS rfl rfl rfl rfl rfl ?_
            rw [HE.out]
            exact fin_sn gv gc gh gk gd go gr kv kc kh kk kd' ko kr n nn _ _ (rs.set kx nilR2) rs2 (hv.set kx (.slice (tailA b3 o3 cb 2) (l.length + 1 - 1) (cb - 1))) rv kx hS.re HX2.out (fun _ => ⟨_, HKV.out, by simp only; rw [chOf_set (by rw [HLH.out]; exact hkn), if_pos rfl]; exact ChV.into hS.ornF _ _ HTL.out⟩) HF2.out HRV.out (hS.extF (HI1.out.trans' hS.frozInto)) HGO.out HP.out.2.2
          | true =>
            rw [hop] at hcho
            have HE2 := Lib.hid (show takeS s kx q xv = { s with vals := s.vals.set q (wrap64 (vq + xv)), cnts := s.cnts.set q (cn + 1), chs := s.chs.set kx l, recs := s.recs.set kx (rowOf s.recs kx ++ [xv]) } by simp [takeS, hop, hvq, hcn, popS, HCH.out])
            rw [HE2.out] at HE HGO
            have hrl : kx < s.recs.length := by rw [HP.out.2.1.lr, HP.out.2.2]; exact hkn
            obtain ⟨R, rb, hrk2, hrv2⟩ := HF2.out.re hrl
            rw [HRV.out] at hrv2
            have hrlb := HP.out.2.1.rbk (k := kx) (by rw [HP.out.2.2]; exact hkn)
            have hrvl : kx < rv.length := by rw [← HRV.out, HF2.out.hv]; exact hrl
            have HRK2 := Lib.hid hrk2
            clear hop hvq hcn HE2 hrl hrk2
            have hS2 := (St.re (ds := fam2 3 1 rs2 :: blk g4 [.slice (some ⟨gv, 0, none⟩) n kv, .slice (some ⟨gc, 0, none⟩) n kc, .slice (some ⟨gh, 0, none⟩) nn kh, .slice (some ⟨gk, 0, none⟩) n kk, .slice (some ⟨gd, 0, none⟩) n kd', .slice (some ⟨go, 0, none⟩) nn ko, .slice (some ⟨gr, 0, none⟩) nn kr] 28 :: row (.slice (some ⟨gh, 0, none⟩) nn kh) 46 1 nn (hv.set kx (.slice (tailA b3 o3 cb 2) (l.length + 1 - 1) (cb - 1))) :: fam2 48 2 (rs.set kx nilR2) :: row (.slice (some ⟨gv, 0, none⟩) n kv) 3 1 n (ints s.vals) :: row (.slice (some ⟨gc, 0, none⟩) n kc) 3 1 n (ints s.cnts) :: row (.slice (some ⟨gk, 0, none⟩) n kk) 3 1 n (ints s.cut) :: row (.slice (some ⟨gd, 0, none⟩) n kd') 3 1 n (ints s.saved) :: row (.slice (some ⟨go, 0, none⟩) nn ko) 4 1 nn (bools s.opn) :: row (.slice (some ⟨gr, 0, none⟩) nn kr) 22 1 nn rv :: froz T1 w1 :: blk g5 [.bool false, .int .i64 xv] 48 :: blk g3 sn0 28 :: blk g2 [.int .i64 2, .int .i64 (p : Int), .int .i64 (q : Int), .int .i64 val] 40 :: blk g1 [.slice A1 n c1, .slice A2 n c2, .slice A3 nn c3, .slice A4 n c4, .slice A5 n c5, .slice A6 nn c6, .slice A7 nn c7] 28 :: []) hS).fam2Take HRK2.out
            replace hS := hS2
            clear hS2
            generalize rowOf s.recs kx = rr at *
            go_wp2_with (first | (refine oL ?_; (first | refine sL1 hS rfl rfl rfl ?_ | refine sL2 hS rfl rfl rfl ?_ | refine sL3 hS rfl rfl ?_ | refine sL4 hS rfl rfl ?_ | refine sL5 hS rfl rfl ?_ | refine sL6 hS rfl rfl ?_ | refine sL7 hS rfl rfl ?_)) | (refine oS ?_; ((first | refine sS1 hS rfl rfl rfl ?_ | refine sS2 hS rfl rfl rfl ?_ | refine sS3 hS rfl rfl rfl ?_ | refine sS4 hS rfl rfl rfl ?_ | refine sS5 hS rfl rfl rfl ?_); clear hS; intro w hS)) | ((first | (refine oB ?_; first | refine sB1 hS rfl rfl ?_ | refine sB2 hS rfl rfl ?_) | refine sN1 hS rfl ?_); clear hS; first | ((fail_if_success guard_hyp g1); intro g1 w hS) | ((fail_if_success guard_hyp g2); intro g2 w hS) | ((fail_if_success guard_hyp g3); intro g3 w hS) | ((fail_if_success guard_hyp g4); intro g4 w hS) | ((fail_if_success guard_hyp g5); intro g5 w hS) | ((fail_if_success guard_hyp g6); intro g6 w hS) | ((fail_if_success guard_hyp g7); intro g7 w hS) | ((fail_if_success guard_hyp g8); intro g8 w hS) | fail) | fail)
            refine dr_start0 [10]  hS (by kernel_rfl) rfl ?_; clear hS; intro w hS
            refine dP hS 0 rfl rfl ?_
            (try simp only [Act.put, nA, nB, nC])
            first | refine dL1 hS 1 rfl rfl rfl rfl ?_ | refine dL2 hS 1 rfl rfl rfl rfl ?_ | refine dL3 hS 1 rfl rfl rfl ?_ | refine dL4 hS 1 rfl rfl rfl ?_ | refine dL5 hS 1 rfl rfl rfl ?_ | refine dL6 hS 1 rfl rfl rfl ?_ | refine dL7 hS 1 rfl rfl rfl ?_
            (try simp only [Act.put, nA, nB, nC])
            refine dP hS 2 rfl rfl ?_
            (try simp only [Act.put, nA, nB, nC])
            first | refine dL1 hS 3 rfl rfl rfl rfl ?_ | refine dL2 hS 3 rfl rfl rfl rfl ?_ | refine dL3 hS 3 rfl rfl rfl ?_ | refine dL4 hS 3 rfl rfl rfl ?_ | refine dL5 hS 3 rfl rfl rfl ?_ | refine dL6 hS 3 rfl rfl rfl ?_ | refine dL7 hS 3 rfl rfl rfl ?_
            (try simp only [Act.put, nA, nB, nC])
            refine dP hS 4 rfl rfl ?_
            (try simp only [Act.put, nA, nB, nC])
            first | refine dL1 hS 5 rfl rfl rfl rfl ?_ | refine dL2 hS 5 rfl rfl rfl rfl ?_ | refine dL3 hS 5 rfl rfl rfl ?_ | refine dL4 hS 5 rfl rfl rfl ?_ | refine dL5 hS 5 rfl rfl rfl ?_ | refine dL6 hS 5 rfl rfl rfl ?_ | refine dL7 hS 5 rfl rfl rfl ?_
            (try simp only [Act.put, nA, nB, nC])
            refine dP hS 6 rfl rfl ?_
            (try simp only [Act.put, nA, nB, nC])
            first | refine dL1 hS 7 rfl rfl rfl rfl ?_ | refine dL2 hS 7 rfl rfl rfl rfl ?_ | refine dL3 hS 7 rfl rfl rfl ?_ | refine dL4 hS 7 rfl rfl rfl ?_ | refine dL5 hS 7 rfl rfl rfl ?_ | refine dL6 hS 7 rfl rfl rfl ?_ | refine dL7 hS 7 rfl rfl rfl ?_
            (try simp only [Act.put, nA, nB, nC])
            refine dP hS 8 rfl rfl ?_
            (try simp only [Act.put, nA, nB, nC])
            refine dP hS 9 rfl rfl ?_
            (try simp only [Act.put, nA, nB, nC])
            refine dr_one 10 (by kernel_rfl) rfl ?_
            ((first | refine sS1 hS rfl rfl rfl ?_ | refine sS2 hS rfl rfl rfl ?_ | refine sS3 hS rfl rfl rfl ?_ | refine sS4 hS rfl rfl rfl ?_ | refine sS5 hS rfl rfl rfl ?_); clear hS; intro w hS)
            (try simp only [Act.put, nA, nB, nC])
            refine dr_late (by kernel_rfl) ?_
            refine dr_done (by kernel_rfl) ?_
            go_wp2_with (first | (refine oL ?_; (first | refine sL1 hS rfl rfl rfl ?_ | refine sL2 hS rfl rfl rfl ?_ | refine sL3 hS rfl rfl ?_ | refine sL4 hS rfl rfl ?_ | refine sL5 hS rfl rfl ?_ | refine sL6 hS rfl rfl ?_ | refine sL7 hS rfl rfl ?_)) | (refine oS ?_; ((first | refine sS1 hS rfl rfl rfl ?_ | refine sS2 hS rfl rfl rfl ?_ | refine sS3 hS rfl rfl rfl ?_ | refine sS4 hS rfl rfl rfl ?_ | refine sS5 hS rfl rfl rfl ?_); clear hS; intro w hS)) | ((first | (refine oB ?_; first | refine sB1 hS rfl rfl ?_ | refine sB2 hS rfl rfl ?_) | refine sN1 hS rfl ?_); clear hS; first | ((fail_if_success guard_hyp g1); intro g1 w hS) | ((fail_if_success guard_hyp g2); intro g2 w hS) | ((fail_if_success guard_hyp g3); intro g3 w hS) | ((fail_if_success guard_hyp g4); intro g4 w hS) | ((fail_if_success guard_hyp g5); intro g5 w hS) | ((fail_if_success guard_hyp g6); intro g6 w hS) | ((fail_if_success guard_hyp g7); intro g7 w hS) | ((fail_if_success guard_hyp g8); intro g8 w hS) | fail) | fail)
            (try simp only [IntWalk.i64_left] at hS)
            refine dr_start1 [13] 0 hS (by kernel_rfl) rfl ?_; clear hS; intro w hS
            refine dP hS 0 rfl rfl ?_
            (try simp only [Act.put, nA, nB, nC])
            first | refine dL1 hS 1 rfl rfl rfl rfl ?_ | refine dL2 hS 1 rfl rfl rfl rfl ?_ | refine dL3 hS 1 rfl rfl rfl ?_ | refine dL4 hS 1 rfl rfl rfl ?_ | refine dL5 hS 1 rfl rfl rfl ?_ | refine dL6 hS 1 rfl rfl rfl ?_ | refine dL7 hS 1 rfl rfl rfl ?_
            (try simp only [Act.put, nA, nB, nC])
            refine dM hS 2 rfl rfl rfl ?_
            (try simp only [Act.put, nA, nB, nC])
            refine dP hS 3 rfl rfl ?_
            (try simp only [Act.put, nA, nB, nC])
            first | refine dL1 hS 4 rfl rfl rfl rfl ?_ | refine dL2 hS 4 rfl rfl rfl rfl ?_ | refine dL3 hS 4 rfl rfl rfl ?_ | refine dL4 hS 4 rfl rfl rfl ?_ | refine dL5 hS 4 rfl rfl rfl ?_ | refine dL6 hS 4 rfl rfl rfl ?_ | refine dL7 hS 4 rfl rfl rfl ?_
            (try simp only [Act.put, nA, nB, nC])
            refine dM hS 5 rfl rfl rfl ?_
            (try simp only [Act.put, nA, nB, nC])
            refine dP hS 6 rfl rfl ?_
            (try simp only [Act.put, nA, nB, nC])
            first | refine dL1 hS 7 rfl rfl rfl rfl ?_ | refine dL2 hS 7 rfl rfl rfl rfl ?_ | refine dL3 hS 7 rfl rfl rfl ?_ | refine dL4 hS 7 rfl rfl rfl ?_ | refine dL5 hS 7 rfl rfl rfl ?_ | refine dL6 hS 7 rfl rfl rfl ?_ | refine dL7 hS 7 rfl rfl rfl ?_
            (try simp only [Act.put, nA, nB, nC])
            refine dP hS 8 rfl rfl ?_
            (try simp only [Act.put, nA, nB, nC])
            first | refine dL1 hS 9 rfl rfl rfl rfl ?_ | refine dL2 hS 9 rfl rfl rfl rfl ?_ | refine dL3 hS 9 rfl rfl rfl ?_ | refine dL4 hS 9 rfl rfl rfl ?_ | refine dL5 hS 9 rfl rfl rfl ?_ | refine dL6 hS 9 rfl rfl rfl ?_ | refine dL7 hS 9 rfl rfl rfl ?_
            (try simp only [Act.put, nA, nB, nC])
            refine dr_one 10 (by kernel_rfl) rfl ?_
            first | (refine st_str hS rfl rfl rfl rfl hrvl ?_; clear hS; intro w hS) | ((first | refine sC0 hS rfl ?_ | refine sC1 hS rfl rfl ?_ | refine sC2 hS rfl rfl ?_ | refine sC3 hS rfl rfl rfl ?_ | refine sC4 hS rfl rfl rfl ?_); clear hS; first | ((fail_if_success guard_hyp g1); intro g1 w hS) | ((fail_if_success guard_hyp g2); intro g2 w hS) | ((fail_if_success guard_hyp g3); intro g3 w hS) | ((fail_if_success guard_hyp g4); intro g4 w hS) | ((fail_if_success guard_hyp g5); intro g5 w hS) | ((fail_if_success guard_hyp g6); intro g6 w hS) | ((fail_if_success guard_hyp g7); intro g7 w hS) | ((fail_if_success guard_hyp g8); intro g8 w hS) | fail) | fail
            (try simp only [Act.put, nA, nB, nC])
            refine dr_end hS ?_
            refine dr_one 11 (by kernel_rfl) rfl ?_
            first | (refine st_str hS rfl rfl rfl rfl hrvl ?_; clear hS; intro w hS) | ((first | refine sP1 hS rfl rfl rfl ?_ | refine sP2 hS rfl rfl rfl ?_ | refine sP3 hS rfl rfl rfl ?_); clear hS; first | ((fail_if_success guard_hyp L1); intro L1 cl1 w hL1 hM1 hS) | ((fail_if_success guard_hyp L2); intro L2 cl2 w hL2 hM2 hS) | ((fail_if_success guard_hyp L3); intro L3 cl3 w hL3 hM3 hS) | fail) | fail
            (try simp only [Act.put, nA, nB, nC])
            refine dr_end hS ?_
            refine dP hS 12 rfl rfl ?_
            (try simp only [Act.put, nA, nB, nC])
            refine dr_one 13 (by kernel_rfl) rfl ?_
            first | (refine st_str hS rfl rfl rfl rfl hrvl ?_; clear hS; intro w hS) | ((first | refine sS1 hS rfl rfl rfl ?_ | refine sS2 hS rfl rfl rfl ?_ | refine sS3 hS rfl rfl rfl ?_ | refine sS4 hS rfl rfl rfl ?_ | refine sS5 hS rfl rfl rfl ?_); clear hS; intro w hS) | fail
            (try simp only [Act.put, nA, nB, nC])
            refine dr_late (by kernel_rfl) ?_
            refine dr_done (by kernel_rfl) ?_
            go_wp2_with (first | (refine oL ?_; (first | refine sL1 hS rfl rfl rfl ?_ | refine sL2 hS rfl rfl rfl ?_ | refine sL3 hS rfl rfl ?_ | refine sL4 hS rfl rfl ?_ | refine sL5 hS rfl rfl ?_ | refine sL6 hS rfl rfl ?_ | refine sL7 hS rfl rfl ?_)) | (refine oS ?_; ((first | refine sS1 hS rfl rfl rfl ?_ | refine sS2 hS rfl rfl rfl ?_ | refine sS3 hS rfl rfl rfl ?_ | refine sS4 hS rfl rfl rfl ?_ | refine sS5 hS rfl rfl rfl ?_); clear hS; intro w hS)) | ((first | (refine oB ?_; first | refine sB1 hS rfl rfl ?_ | refine sB2 hS rfl rfl ?_) | refine sN1 hS rfl ?_); clear hS; first | ((fail_if_success guard_hyp g1); intro g1 w hS) | ((fail_if_success guard_hyp g2); intro g2 w hS) | ((fail_if_success guard_hyp g3); intro g3 w hS) | ((fail_if_success guard_hyp g4); intro g4 w hS) | ((fail_if_success guard_hyp g5); intro g5 w hS) | ((fail_if_success guard_hyp g6); intro g6 w hS) | ((fail_if_success guard_hyp g7); intro g7 w hS) | ((fail_if_success guard_hyp g8); intro g8 w hS) | fail) | fail)
            have hS3 : St w0 (fun k => S k ∧ k < w0.heap.size) (row (.slice L1 (rr ++ [xv]).length cl1) 3 1 (rr ++ [xv]).length (ints (rr ++ [xv])) :: fam2 3 1 (rs2.set kx nilR2) :: blk g4 [.slice (some ⟨gv, 0, none⟩) n kv, .slice (some ⟨gc, 0, none⟩) n kc, .slice (some ⟨gh, 0, none⟩) nn kh, .slice (some ⟨gk, 0, none⟩) n kk, .slice (some ⟨gd, 0, none⟩) n kd', .slice (some ⟨go, 0, none⟩) nn ko, .slice (some ⟨gr, 0, none⟩) nn kr] 28 :: row (.slice (some ⟨gh, 0, none⟩) nn kh) 46 1 nn (hv.set kx (.slice (tailA b3 o3 cb 2) (l.length + 1 - 1) (cb - 1))) :: fam2 48 2 (rs.set kx nilR2) :: row (.slice (some ⟨gv, 0, none⟩) n kv) 3 1 n (ints (s.vals.set q (wrap64 (vq + xv)))) :: row (.slice (some ⟨gc, 0, none⟩) n kc) 3 1 n (ints (s.cnts.set q (cn + 1))) :: row (.slice (some ⟨gk, 0, none⟩) n kk) 3 1 n (ints s.cut) :: row (.slice (some ⟨gd, 0, none⟩) n kd') 3 1 n (ints s.saved) :: row (.slice (some ⟨go, 0, none⟩) nn ko) 4 1 nn (bools s.opn) :: row (.slice (some ⟨gr, 0, none⟩) nn kr) 22 1 nn (rv.set kx (.slice L1 (rr ++ [xv]).length cl1)) :: froz T1 w1 :: blk g5 [.bool false, .int .i64 xv] 48 :: blk g2 [.int .i64 2, .int .i64 (p : Int), .int .i64 (q : Int), .int .i64 val] 40 :: blk g1 [.slice A1 n c1, .slice A2 n c2, .slice A3 nn c3, .slice A4 n c4, .slice A5 n c5, .slice A6 nn c6, .slice A7 nn c7] 28 :: []) _ := hS.re
            have hS4 := hS3.fam2Put (j := kx)
            rw [List.set_set] at hS4
            refine st_retCT hS rfl rfl rfl rfl rfl ?_
            rw [HE.out]
            exact fin_sn gv gc gh gk gd go gr kv kc kh kk kd' ko kr n nn _ _ (rs.set kx nilR2) (rs2.set kx (.slice L1 (rr ++ [xv]).length cl1, (rr ++ [xv]).length, ints (rr ++ [xv]))) (hv.set kx (.slice (tailA b3 o3 cb 2) (l.length + 1 - 1) (cb - 1))) (rv.set kx (.slice L1 (rr ++ [xv]).length cl1)) kx hS4.re HX2.out (fun _ => ⟨_, HKV.out, by simp only; rw [chOf_set (by rw [HLH.out]; exact hkn), if_pos rfl]; exact ChV.into hS.ornF _ _ HTL.out⟩) (HF2.out.set kx L1 cl1 (rr ++ [xv])) (by rw [fst_set, HRV.out]) (hS.extF (HI1.out.trans' hS.frozInto)) HGO.out HP.out.2.2
end Go.Proofs.Ytkaofbjppibdkaa
